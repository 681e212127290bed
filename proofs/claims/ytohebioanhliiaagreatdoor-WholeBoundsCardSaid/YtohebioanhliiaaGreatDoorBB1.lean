/- The functions' signatures, how each is walked, their contracts. -/
import Derived.Test.YtohebioanhliiaaGreatDoorBAK
set_option maxRecDepth 100000
set_option linter.unusedVariables false
namespace Go.Proofs.YtohebioanhliiaaGreatDoor.aw
open Go.Sx
abbrev i6:CK:=.i .i64
abbrev oI:VT:=.one (.c i6)
abbrev oB:VT:=.one (.c .b)
abbrev rp{α:Type}(n:Nat)(x:α):List α:=List.replicate n x
abbrev s9:List CT:=[.c i6,.c i6,.c i6,.s 3 [i6],.s 3 [i6],.c i6,.c i6,.c i6,.c i6,.c i6,.c i6,.c i6,.c i6,.c i6,.c i6,.s 138 (rp 16 (i6)),.s 138 (rp 16 (i6)),.c i6,.c i6,.c i6,.c i6,.c i6,.c i6,.c i6,.c i6,.c i6,.c i6,.c i6,.c i6,.c i6,.c i6,.c i6,.c i6,.c i6,.c i6,.c i6,.c i6,.c i6,.c i6,.c i6,.c i6,.c i6,.c i6,.c i6,.c i6,.c i6,.c i6,.c .b,.c .b,.c .b,.c .b,.c .b,.c .b,.c i6,.c i6,.c i6,.c i6,.c .b,.c .b,.c i6,.s 76 (rp 8 (i6)),.s 4 [.b],.c i6,.c .b,.c .b,.c i6,.c i6,.c i6,.c i6,.c i6,.c i6,.c i6,.c .b,.c i6,.c .b,.c i6,.c i6,.c .b,.c .b,.c .b,.c i6,.c i6,.c i6,.c i6,.c .b,.c i6,.c .b,.c .b,.c i6,.c i6,.c .b,.c .b,.c .b,.c .b]
abbrev iH:List CK:=[i6,i6,i6,i6,i6,i6,i6,i6]
def sg3:bJ:=⟨[.agg [.c i6,.c i6],.agg [.c i6,.c i6],.agg [.c i6,.c i6]],[oB],0⟩
def sg4:bJ:=⟨[.one (.n 85 [.c i6,.s 3 i6])],[oB],0⟩
def sg5:bJ:=⟨[.one (.n 85 [.c i6,.s 3 i6])],[oB],0⟩
def sg6:bJ:=⟨[.one (.n 85 [.c i6,.s 3 i6])],[oB],0⟩
def sg7:bJ:=⟨[.one (.n 85 [.c i6,.s 3 i6]),.agg (rp 8 (.c (.i .i16)))],[oB],0⟩
def sg8:bJ:=⟨[.one (.s 23 [i6,i6]),.agg [.c (.i .u8),.c (.i .u8),.c (.i .u8)],oB],[oB],0⟩
def sg9:bJ:=⟨[.one (.s 23 [i6,i6]),oI],[oB],0⟩
def YA:bJ:=⟨[],[oB],0⟩
def YB:bJ:=⟨[.agg (rp 7 (.c i6)),.agg (rp 7 (.c i6)),.agg (rp 7 (.c i6))],[oI],0⟩
def YC:bJ:=⟨[.one (.n 85 [.c i6,.s 3 i6])],[.agg s9],0⟩
def YD:bJ:=⟨[oI,oI],[.one (.n 85 [.c i6,.s 3 i6])],0⟩
def YE:bJ:=⟨[oI,.one (.s 23 [i6,i6])],[.one (.n 85 [.c i6,.s 3 i6])],0⟩
def YF:bJ:=⟨[.agg s9],[.one (.s 3 [i6])],0⟩
def YG:bJ:=⟨[.agg [.c i6,.c i6,.s 3 [i6],.s 3 [i6]],.agg [.c i6,.c i6,.s 3 [i6],.s 3 [i6]]],[oB],0⟩
def YH:bJ:=⟨[.one (.n 85 [.c i6,.s 3 i6])],[.agg s9,oB],0⟩
def YI:bJ:=⟨[.agg s9],[.one (.s 74 (rp 8 (i6))),oB],0⟩
def YJ:bJ:=⟨[.agg s9],[.agg [.c i6,.c i6,.s 3 [i6],.s 3 [i6]]],0⟩
def YK:bJ:=⟨[.one (.s 74 (rp 8 (i6))),.one (.s 74 (rp 8 (i6)))],[oB],0⟩
def YL:bJ:=⟨[oI,.one (.s 3 [i6])],[.agg [.c i6,.s 3 [i6]]],2⟩
def YM:bJ:=⟨[],[.agg s9],0⟩
def YN:bJ:=⟨[.agg s9,.agg [.c i6,.s 3 [i6]]],[.agg s9],94⟩
def YO:bJ:=⟨[oI],[.agg [.c i6,.c i6,.c i6,.c i6]],0⟩
def YP:bJ:=⟨[.agg [.c i6,.c i6,.s 3 [i6],.s 3 [i6]],.agg [.c i6,.c i6,.s 3 [i6],.s 3 [i6]]],[oB],0⟩
def YQ:bJ:=⟨[.one (.n 85 [.c i6,.s 3 i6]),oI,oI],[oB],0⟩
def YR:bJ:=⟨[.agg s9],[.agg [.c i6,.c i6,.c i6,.c i6]],0⟩
def YS:bJ:=⟨[.agg s9],[.one (.s 44 [i6,i6,i6,i6,i6])],0⟩
def YT:bJ:=⟨[oI,.one (.s 4 [.b]),oB],[.one (.n 104 [.s 3 i6,.s 4 (.b),.c i6]),oI],0⟩
def YU:bJ:=⟨[.one (.s 74 (rp 8 (i6))),.one (.s 74 (rp 8 (i6)))],[oB],0⟩
def YW:bJ:=⟨[],[.agg [.c i6,.s 138 (rp 16 (i6)),.s 138 (rp 16 (i6))]],0⟩
def YX:bJ:=⟨[.agg [.c i6,.s 3 [i6]]],[oI],0⟩
def YY:bJ:=⟨[.agg [.c i6,.c i6,.s 3 [i6],.s 3 [i6]]],[.agg [.c i6,.c i6,.c i6,.c i6]],0⟩
def YZ:bJ:=⟨[.agg [.c i6,.c i6,.c i6,.c i6],.agg [.c i6,.c i6,.c i6,.c i6]],[.agg [.c i6,.c i6,.c i6,.c i6]],0⟩
def Y4:bJ:=⟨[.one (.s 44 [i6,i6,i6,i6,i6])],[.one (.s 44 [i6,i6,i6,i6,i6]),oI],0⟩
def Y5:bJ:=⟨[.one (.s 4 [.b])],[.one (.n 104 [.s 3 i6,.s 4 (.b),.c i6])],0⟩
def Y6:bJ:=⟨[oI,oI],[oI],0⟩
def Y7:bJ:=⟨[.one (.s 3 [i6]),.one (.s 4 [.b]),oB],[.one (.s 4 [.b])],0⟩
def Y8:bJ:=⟨[oI],[oI,oB],0⟩
def Y9:bJ:=⟨[],[.agg (rp 16 (.c i6))],0⟩
def Y':bJ:=⟨[.agg [.c i6,.s 3 [i6]]],[oI],0⟩
def Za:bJ:=⟨[oB,oI],[oB],0⟩
def Zb:bJ:=⟨[oI],[.one (.s 146 [i6,i6]),oB],0⟩
def TA:bJ:=⟨[.agg [.c i6,.c i6,.c i6,.c i6]],[oB],0⟩
def Zc:bJ:=⟨[.agg [.c i6,.c i6,.c i6,.c i6,.c i6]],[oB],0⟩
def Zd:bJ:=⟨[.agg [.c i6,.c i6,.c i6,.c i6,.c i6],.agg (rp 8 (.c i6))],[oI],0⟩
def Ze:bJ:=⟨[.agg (rp 7 (.c i6)),oI,oI,.agg [.c i6,.c i6,.c i6,.c i6]],[.one (.s 74 (rp 8 (i6)))],0⟩
def Zf:bJ:=⟨[.agg (rp 8 (.c i6)),.agg (rp 8 (.c i6)),.one (.s 44 [i6,i6,i6,i6,i6])],[.agg (rp 8 (.c i6)),.agg (rp 8 (.c i6)),oB],0⟩
def Zg:bJ:=⟨[.agg (rp 7 (.c i6)),.agg (rp 7 (.c i6)),.agg ([.c i6,.c .b,.c .b]++rp 7 (.c i6)++[.c .b,.c i6,.c .b,.c i6,.c i6]),.agg [.c i6,.c i6,.c i6],.agg [.c i6,.c i6,.c i6,.c i6]],[.one (.s 74 (rp 8 (i6))),.agg [.c i6,.c i6,.c i6]],0⟩
def Zh:bJ:=⟨[.one (.s 76 (rp 8 (i6))),.one (.s 4 [.b]),.one (.s 44 [i6,i6,i6,i6,i6])],[.one (.s 76 (rp 8 (i6))),.one (.s 4 [.b]),oI],0⟩
def Zi:bJ:=⟨[.one (.s 30 (rp 7 (i6))),.one (.s 4 [.b]),.agg ([.c i6,.c .b,.c .b]++rp 7 (.c i6)++[.c .b,.c i6,.c .b,.c i6,.c i6]),.agg [.c i6,.c i6,.c i6,.c i6]],[.one (.s 74 (rp 8 (i6)))],0⟩
def Zj:bJ:=⟨[oI],[.one (.s 146 [i6,i6]),oB],0⟩
def Zk:bJ:=⟨[.agg [.c i6,.c i6,.s 3 [i6],.s 3 [i6]],.agg [.c i6,.c i6,.c i6,.c i6],oI,.agg [.c i6,.c i6,.c i6,.c i6],oI,.agg [.c .b,.c .b,.c .b,.c .b]],[.agg [.c i6,.c i6,.s 3 [i6],.s 3 [i6]]],0⟩
def Zl:bJ:=⟨[oI,oI,oI,oI],[.agg [.c i6,.c i6,.c i6,.c i6],oB],0⟩
def TR:bJ:=⟨[.one (.c (.f)),oI],[oI,oI],0⟩
def Zm:bJ:=⟨[oI],[.one (.c (.f))],0⟩
def Zn:bJ:=⟨[.agg [.c i6,.s 138 (rp 16 (i6)),.s 138 (rp 16 (i6))],oI],[.agg [.c i6,.s 138 (rp 16 (i6)),.s 138 (rp 16 (i6))],oI],0⟩
def Zo:bJ:=⟨[.agg [.c i6,.s 138 (rp 16 (i6)),.s 138 (rp 16 (i6))],.agg (rp 16 (.c i6))],[.agg [.c i6,.s 138 (rp 16 (i6)),.s 138 (rp 16 (i6))],oI],0⟩
def Zp:bJ:=⟨[.agg [.c i6,.s 138 (rp 16 (i6)),.s 138 (rp 16 (i6))],.agg (rp 16 (.c i6))],[.agg [.c i6,.s 138 (rp 16 (i6)),.s 138 (rp 16 (i6))],oI],0⟩
def Zq:bJ:=⟨[.agg [.c i6,.s 138 (rp 16 (i6)),.s 138 (rp 16 (i6))]],[.agg [.c i6,.s 138 (rp 16 (i6)),.s 138 (rp 16 (i6))],oI],0⟩
def Zr:bJ:=⟨[.agg [.c i6,.s 138 (rp 16 (i6)),.s 138 (rp 16 (i6))]],[.agg [.c i6,.s 138 (rp 16 (i6)),.s 138 (rp 16 (i6))],oI],0⟩
def Zs:bJ:=⟨[],[.one (.n 34 [.s 3 i6])],0⟩
def O0:bJ:=⟨[oI,oI],[oB],0⟩
def O1:bJ:=⟨[.agg (rp 8 (.c i6))],[.agg [.c i6,.c i6,.c i6,.c i6]],0⟩
def O2:bJ:=⟨[.agg (rp 7 (.c i6)),oI,oI],[oB],0⟩
def O3:bJ:=⟨[.agg (rp 7 (.c i6)),oI,.agg [.c i6,.c i6,.c i6,.c i6]],[.one (.s 74 (rp 8 (i6)))],0⟩
def O4:bJ:=⟨[.agg (rp 7 (.c i6)),oI],[.agg [.c i6,.c i6,.c i6,.c i6]],0⟩
def O5:bJ:=⟨[oI,oI,.ptr 2 [i6],.ptr 2 [i6],.ptr 2 [i6]],[.agg (rp 8 (.c i6))],0⟩
def O6:bJ:=⟨[oI,oI],[oI],0⟩
def O7:bJ:=⟨[.agg (rp 8 (.c i6)),.agg [.c i6,.c i6,.c i6,.c i6]],[.agg (rp 7 (.c i6)),oI],0⟩
def O8:bJ:=⟨[.agg [.c i6,.c i6,.c i6,.c i6,.c i6],.agg (rp 8 (.c i6)),.agg (rp 8 (.c i6))],[oI,oI,oI],0⟩
def O9:bJ:=⟨[.agg [.c i6,.c i6],.agg [.c i6,.c i6]],[oB],0⟩
def O':bJ:=⟨[.agg (rp 8 (.c i6)),.agg (rp 8 (.c i6)),oI,oI],[.agg (rp 8 (.c i6)),oI],0⟩
def Pa:bJ:=⟨[.agg (rp 7 (.c i6)),.agg (rp 7 (.c i6)),oI,.agg [.c i6,.c i6,.c i6,.c i6]],[.one (.s 74 (rp 8 (i6)))],0⟩
def Pb:bJ:=⟨[.agg (rp 7 (.c i6)),.agg (rp 7 (.c i6)),oI,oB,.agg [.c i6,.c i6,.c i6],.agg [.c i6,.c i6,.c i6,.c i6]],[.one (.s 74 (rp 8 (i6))),.agg [.c i6,.c i6,.c i6]],0⟩
def Pd:bJ:=⟨[.one (.s 76 (rp 8 (i6))),.one (.s 4 [.b]),.one (.s 44 [i6,i6,i6,i6,i6])],[oB],0⟩
def Pe:bJ:=⟨[.one (.s 76 (rp 8 (i6))),.one (.s 4 [.b])],[.one (.s 279 (rp 9 (i6)++[.b]))],0⟩
def Pf:bJ:=⟨[.one (.s 279 (rp 9 (i6)++[.b]))],[.one (.s 76 (rp 8 (i6))),.one (.s 4 [.b])],0⟩
def Pg:bJ:=⟨[.agg [.s 30 (rp 7 (i6)),.s 4 [.b],.c i6,.c .b,.c .b,.c i6,.c i6,.c i6,.c i6,.c i6,.c i6,.c i6,.c .b,.c i6,.c .b,.c i6,.c i6,.c i6,.c i6,.c i6,.c i6]],[oB],0⟩
def Pj:bJ:=⟨[.agg ([.c i6,.c .b,.c .b]++rp 7 (.c i6)++[.c .b,.c i6,.c .b,.c i6,.c i6])],[oB],0⟩
def Pk:bJ:=⟨[.one (.s 30 (rp 7 (i6))),.agg ([.c i6,.c .b,.c .b]++rp 7 (.c i6)++[.c .b,.c i6,.c .b,.c i6,.c i6])],[oB],0⟩
def Pm:bJ:=⟨[.one (.s 30 (rp 7 (i6))),oB],[oB],0⟩
def Pn:bJ:=⟨[.agg [.s 30 (rp 7 (i6)),.s 4 [.b],.c i6,.c .b,.c .b,.c i6,.c i6,.c i6,.c i6,.c i6,.c i6,.c i6,.c .b,.c i6,.c .b,.c i6,.c i6,.c i6,.c i6,.c i6,.c i6]],[.one (.s 74 (rp 8 (i6)))],0⟩
def Po:bJ:=⟨[.agg [.s 30 (rp 7 (i6)),.s 4 [.b],.c i6,.c .b,.c .b,.c i6,.c i6,.c i6,.c i6,.c i6,.c i6,.c i6,.c .b,.c i6,.c .b,.c i6,.c i6,.c i6,.c i6,.c i6,.c i6]],[.one (.s 74 (rp 8 (i6)))],0⟩
def Pp:bJ:=⟨[.agg [.s 30 (rp 7 (i6)),.s 4 [.b],.c i6,.c .b,.c .b,.c i6,.c i6,.c i6,.c i6,.c i6,.c i6,.c i6,.c .b,.c i6,.c .b,.c i6,.c i6,.c i6,.c i6,.c i6,.c i6]],[.one (.s 74 (rp 8 (i6)))],0⟩
def Pq:bJ:=⟨[oI],[.one (.s 146 [i6,i6]),oB],0⟩
def Pr:bJ:=⟨[oI],[.one (.s 146 [i6,i6]),oB],0⟩
def Pu:bJ:=⟨[oI,oI],[.agg [.c i6,.c i6,.s 3 [i6],.s 3 [i6]],oI],0⟩
def Pv:bJ:=⟨[.agg [.c i6,.c i6,.s 3 [i6],.s 3 [i6]]],[.agg [.c i6,.c i6,.s 3 [i6],.s 3 [i6]]],0⟩
def Pw:bJ:=⟨[.agg [.c .b,.c .b,.c .b,.c .b]],[oI],0⟩
def Px:bJ:=⟨[.agg [.c i6,.c i6,.c i6,.c i6]],[oI],0⟩
def Py:bJ:=⟨[.one (.c (.i .u64)),.one (.c (.i .u64))],[.one (.c (.i .u64)),.one (.c (.i .u64))],0⟩
def IG:bJ:=⟨[.one (.c (.i .u64))],[.one (.c (.f))],0⟩
def Pz:bJ:=⟨[.agg [.c i6,.s 138 (rp 16 (i6)),.s 138 (rp 16 (i6))]],[oB],0⟩
def PA:bJ:=⟨[.agg (rp 16 (.c i6))],[oB],0⟩
def PB:bJ:=⟨[.agg [.c i6,.s 138 (rp 16 (i6)),.s 138 (rp 16 (i6))],oI],[.agg (rp 16 (.c i6)),oI],0⟩
def PC:bJ:=⟨[.agg (rp 16 (.c i6)),.agg (rp 16 (.c i6))],[.agg (rp 16 (.c i6)),oI],0⟩
def II:bJ:=⟨[.one (.c (.f)),oI,oI],[oI,oI],0⟩
def PD:bJ:=⟨[.agg (rp 7 (.c i6)),.agg (rp 7 (.c i6)),oI,.agg [.c i6,.c i6,.c i6]],[oB],0⟩
def PE:bJ:=⟨[oI,oI,.ptr 2 [i6],.ptr 2 [i6]],[.agg (rp 8 (.c i6))],0⟩
def PF:bJ:=⟨[.agg (rp 7 (.c i6)),oI,oI,oI],[oI],0⟩
def PG:bJ:=⟨[.agg [.c i6,.c i6,.c i6,.c i6]],[oB],0⟩
def PH:bJ:=⟨[.agg (rp 8 (.c i6))],[oB],0⟩
def PI:bJ:=⟨[oI,oI],[oI],0⟩
def PJ:bJ:=⟨[.agg [.c i6,.c (.i .u64)],.agg [.c i6,.c (.i .u64)]],[oI],0⟩
def PK:bJ:=⟨[oI,oI],[.agg [.c i6,.c (.i .u64)]],0⟩
def PL:bJ:=⟨[.agg (rp 8 (.c i6))],[oB],0⟩
def PM:bJ:=⟨[oI,oI,oI,oI],[oI],0⟩
def PN:bJ:=⟨[.agg (rp 7 (.c i6)),.agg (rp 7 (.c i6)),oI],[oB],0⟩
def PO:bJ:=⟨[.agg (rp 7 (.c i6)),.agg (rp 7 (.c i6)),oI],[.agg (rp 7 (.c i6))],0⟩
def PQ:bJ:=⟨[.agg (rp 7 (.c i6)),.agg (rp 7 (.c i6)),oI,.agg [.c i6,.c i6,.c i6,.c i6]],[oI,oI],0⟩
def PR:bJ:=⟨[.agg (rp 7 (.c i6)),.agg (rp 7 (.c i6)),oI,oI],[oI,.agg [.c i6,.c i6,.c i6,.c i6]],0⟩
def PS:bJ:=⟨[.agg (rp 7 (.c i6)),.agg (rp 7 (.c i6)),oI],[.agg [.c i6,.c i6,.c i6,.c i6,.c .b]],0⟩
def PT:bJ:=⟨[.agg [.c i6,.c i6,.c i6],oI],[.agg [.c i6,.c i6,.c i6]],0⟩
def PU:bJ:=⟨[.agg [.c i6,.c i6],.agg [.c i6,.c i6]],[oI],0⟩
def I4:bJ:=⟨[.agg [.c i6,.c i6,.c i6,.c i6],oI,oI],[oB],0⟩
def zW:bJ:=⟨[.agg [.c i6,.c i6],.agg [.c i6,.c i6],.agg [.c i6,.c i6,.c i6,.c i6]],[.one (.s 276 [i6,i6,i6])],0⟩
def PV:bJ:=⟨[.agg [.c i6,.c i6,.c i6,.c i6,.c .b],.agg [.c i6,.c i6,.c i6,.c i6],oI],[.agg [.c i6,.c i6,.c i6,.c i6]],0⟩
def PW:bJ:=⟨[.agg [.c i6,.c i6,.c i6],oI],[oB],0⟩
def PX:bJ:=⟨[.agg (rp 7 (.c i6)),.agg (rp 7 (.c i6)),oI,oI],[oI,.agg [.c i6,.c i6,.c i6,.c i6]],0⟩
def PY:bJ:=⟨[.agg (rp 9 (.c i6)++[.c .b]),.agg (rp 9 (.c i6)++[.c .b]),oB],[.agg (rp 9 (.c i6)++[.c .b])],0⟩
def PZ:bJ:=⟨[.agg [.c i6,.c i6,.c i6]],[oB],0⟩
def P2:bJ:=⟨[.one (.s 30 (rp 7 (i6)))],[oI],0⟩
def P3:bJ:=⟨[.agg (rp 7 (.c i6)),.agg (rp 7 (.c i6)),.agg (rp 7 (.c i6)),oI,oI],[oI],0⟩
def P4:bJ:=⟨[.agg (rp 7 (.c i6)),.agg (rp 7 (.c i6)),.agg (rp 7 (.c i6)),oI,.agg [.c i6,.c i6,.c i6,.c i6]],[.one (.s 74 (rp 8 (i6)))],0⟩
def P5:bJ:=⟨[oI,.agg [.c i6,.c i6]],[.one (.s 146 [i6,i6])],0⟩
def P6:bJ:=⟨[oI,oI],[oB],0⟩
def P7:bJ:=⟨[.ptr 3 [i6],oI,.ptr 3 [i6]],[oI],0⟩
def P8:bJ:=⟨[.agg (rp 16 (.c i6)),.agg [.c i6,.c i6,.c i6,.c i6],oI],[.agg [.c i6,.c i6,.c i6,.c i6],oI],0⟩
def P9:bJ:=⟨[.agg (rp 7 (.c i6))],[oB],0⟩
def P':bJ:=⟨[oI],[.one (.c (.i .u64))],0⟩
def Qa:bJ:=⟨[.one (.c (.i .u64)),.one (.c (.i .u64)),oB],[.agg [.c i6,.c (.i .u64)],oB],0⟩
def Qb:bJ:=⟨[.agg [.c i6,.c (.i .u64)],oI],[.agg [.c i6,.c (.i .u64)],oI,oB],0⟩
def Qc:bJ:=⟨[.agg [.c i6,.c (.i .u64)]],[oI,oB],0⟩
def Qd:bJ:=⟨[.agg [.c i6,.c (.i .u64)],oI],[.agg [.c i6,.c (.i .u64)],oB],0⟩
def Qe:bJ:=⟨[oI],[.agg [.c i6,.c (.i .u64)]],0⟩
def Qf:bJ:=⟨[.agg [.c i6,.c (.i .u64)]],[oI,oB],0⟩
def Qg:bJ:=⟨[.agg (rp 7 (.c i6)),oI,oI,oI],[oI,oI],0⟩
def Qh:bJ:=⟨[oI,oI],[oI],0⟩
def IZ:bJ:=⟨[.agg [.c i6,.c i6],.agg [.c i6,.c i6]],[.ptr 323 [i6,i6,i6,i6,.b,i6,i6,i6,.b,.b,i6,i6]],0⟩
def Qi:bJ:=⟨[.ptr 323 [i6,i6,i6,i6,.b,i6,i6,i6,.b,.b,i6,i6]],[oI],0⟩
def I0:bJ:=⟨[.ptr 323 [i6,i6,i6,i6,.b,i6,i6,i6,.b,.b,i6,i6]],[oI],0⟩
def I1:bJ:=⟨[.ptr 323 [i6,i6,i6,i6,.b,i6,i6,i6,.b,.b,i6,i6]],[oI],0⟩
def Qj:bJ:=⟨[oI,oI],[oB],0⟩
def Qk:bJ:=⟨[.agg [.c i6,.c (.i .u64)],.agg [.c i6,.c (.i .u64)]],[.agg [.c i6,.c (.i .u64)],oB],0⟩
def Ql:bJ:=⟨[.agg (rp 7 (.c i6)),.agg (rp 7 (.c i6)),.agg (rp 7 (.c i6))],[oI],0⟩
def Qm:bJ:=⟨[.agg [.c i6,.c (.i .u64)]],[oI],0⟩
def Qn:bJ:=⟨[.agg [.c i6,.c (.i .u64)],.agg [.c i6,.c (.i .u64)]],[.agg [.c i6,.c (.i .u64)]],0⟩
def Qo:bJ:=⟨[.agg (rp 7 (.c i6)),.agg (rp 7 (.c i6)),.agg (rp 7 (.c i6)),.agg [.c i6,.c i6,.c i6,.c i6]],[.one (.s 344 [i6,i6,i6])],0⟩
def Qp:bJ:=⟨[.agg (rp 7 (.c i6)),.agg (rp 7 (.c i6)),.agg (rp 7 (.c i6))],[.agg (rp 22 (.c i6))],0⟩
def Qq:bJ:=⟨[.agg (rp 22 (.c i6))],[.agg [.c i6,.c (.i .u64),.c i6,.c (.i .u64),.c i6,.c (.i .u64),.c i6,.c i6,.c (.i .u64),.c i6,.c (.i .u64),.c i6,.c (.i .u64),.c i6,.c i6,.c (.i .u64),.c i6,.c (.i .u64),.c i6,.c (.i .u64),.c i6,.c i6,.c (.i .u64),.c i6,.c (.i .u64),.c i6,.c (.i .u64),.c i6,.c i6,.c (.i .u64),.c i6,.c (.i .u64),.c i6,.c (.i .u64),.c i6]],0⟩
def Qr:bJ:=⟨[.agg [.c i6,.c (.i .u64),.c i6,.c (.i .u64),.c i6,.c (.i .u64),.c i6],oI,oI],[.agg [.c i6,.c (.i .u64)]],0⟩
def Qt:bJ:=⟨[.agg [.c i6,.c (.i .u64),.c i6,.c (.i .u64),.c i6,.c (.i .u64),.c i6],.agg [.c i6,.c (.i .u64)]],[oI],0⟩
def Qu:bJ:=⟨[.agg [.c .b,.c i6,.c i6,.c i6,.c i6,.c .b,.c i6,.c .b,.c .b,.c i6,.c i6,.c .b,.c .b,.c .b,.c .b]],[oB],0⟩
def Qv:bJ:=⟨[.agg (rp 8 (.c i6))],[oB],0⟩
def Qw:bJ:=⟨[.agg [.c i6,.c i6,.c i6,.c i6],oI],[.agg [.c i6,.c i6,.c i6,.c i6]],0⟩
def Qx:bJ:=⟨[.agg [.c i6,.c i6,.s 3 [i6],.s 3 [i6]],oI,oI],[.agg [.c i6,.c i6,.c i6,.c i6],oI,oB],0⟩
def Qy:bJ:=⟨[.agg [.c i6,.c i6,.c i6,.c i6],.agg [.c i6,.c i6,.c i6,.c i6],oI,oI],[.agg [.c i6,.c i6,.c i6,.c i6]],0⟩
def Qz:bJ:=⟨[.agg [.c i6,.c (.i .u64)]],[.agg [.c i6,.c (.i .u64)]],0⟩
def QA:bJ:=⟨[.one (.c (.i .u64)),.one (.c (.i .u64)),.one (.c (.i .u64))],[.one (.c (.i .u64)),.one (.c (.i .u64))],0⟩
def QB:bJ:=⟨[.agg [.c i6,.c (.i .u64)],.agg [.c i6,.c (.i .u64)]],[.agg [.c i6,.c (.i .u64)],oB],0⟩
def ID:bJ:=⟨[.one (.c (.i .u64)),.one (.c (.i .u64)),.one (.c (.i .u64))],[.one (.c (.i .u64)),.one (.c (.i .u64))],0⟩
def QC:bJ:=⟨(rp 6 (oI)),[oI,oI],0⟩
def QD:bJ:=⟨[oI,oI,.ptr 2 [i6],.ptr 2 [i6]],[oI],0⟩
def QE:bJ:=⟨[oI,oI,oI,oI],[oI],0⟩
def QF:bJ:=⟨[oI],[oI],0⟩
def I2:bJ:=⟨[.ptr 323 [i6,i6,i6,i6,.b,i6,i6,i6,.b,.b,i6,i6],oI],[oI,oI],0⟩
def I3:bJ:=⟨[.ptr 323 [i6,i6,i6,i6,.b,i6,i6,i6,.b,.b,i6,i6],oI],[oI],0⟩
def QG:bJ:=⟨[.agg (rp 7 (.c i6)),.agg (rp 7 (.c i6)),.agg (rp 7 (.c i6))],[.one (.s 369 [i6,i6,i6,i6,i6])],0⟩
def QH:bJ:=⟨[.agg [.c i6,.c i6,.c i6,.c i6,.c i6],oI,oI,oI],[oI,oI],0⟩
def QI:bJ:=⟨[.agg (rp 22 (.c i6)),.agg [.c i6,.c i6,.c i6]],[.agg [.c i6,.c (.i .u64),.c i6,.c (.i .u64),.c i6,.c (.i .u64),.c i6]],0⟩
def QJ:bJ:=⟨[oI,oI,oI],[oB],0⟩
def QK:bJ:=⟨[oI],[.agg [.c i6,.c i6,.c i6,.c i6]],0⟩
def QL:bJ:=⟨[oI,.agg [.c i6,.c i6,.c i6,.c i6],.agg [.c i6,.c i6,.c i6,.c i6],oI],[oI],0⟩
def IF:bJ:=⟨[.one (.c (.i .u64)),.one (.c (.i .u64)),.one (.c (.i .u64))],[.one (.c (.i .u64)),.one (.c (.i .u64))],0⟩
def QM:bJ:=⟨[.one (.c (.i .u64))],[oI],0⟩
def QN:bJ:=⟨[.ptr 323 [i6,i6,i6,i6,.b,i6,i6,i6,.b,.b,i6,i6],.agg [.c i6,.c i6]],[oI,oI,oB],0⟩
def QO:bJ:=⟨[.agg (rp 7 (.c i6)),.agg (rp 7 (.c i6))],[.agg [.c i6,.c i6,.c i6,.c i6,.c i6]],0⟩
def QP:bJ:=⟨[.agg [.c i6,.c i6,.c i6,.c i6,.c i6],oI,oI],[oI],0⟩
def QQ:bJ:=⟨[oI,oI],[oI],0⟩
def QR:bJ:=⟨[.agg (rp 22 (.c i6)),oI,oI],[.agg [.c i6,.c i6,.c i6]],0⟩
def QS:bJ:=⟨[.agg [.c i6,.c i6,.c i6],.agg [.c i6,.c i6,.c i6]],[.agg [.c i6,.c (.i .u64)]],0⟩
def IV:bJ:=⟨[.one (.c (.i .u64))],[oI],0⟩
def QT:bJ:=⟨[.agg [.c i6,.c i6]],[oI,oI,oB],0⟩
def vY:bJ:=⟨[.agg [.c i6,.c i6,.c i6,.c i6],.fn 106 [(2,.i64),(2,.i64),(2,.i64)]],[.one (.s 74 (rp 8 (i6)))],0⟩
def vZ:bJ:=⟨[.agg [.c i6,.c i6,.c i6,.c i6],.fn 150 [(2,.i64),(2,.i64)]],[.one (.s 74 (rp 8 (i6)))],0⟩
def sC:bJ:=⟨[.agg (rp 7 (.c i6)),.agg (rp 7 (.c i6)),.fn 245 [(2,.i64),(2,.i64)]],[oI,.agg [.c i6,.c i6,.c i6,.c i6]],0⟩
def aO:List (FuncId×bJ):=[(3,sg3),(4,sg4),(5,sg5),(6,sg6),(7,sg7),(8,sg8),(9,sg9),(10,YA),(11,YB),(12,YC),(13,YD),(14,YE),(15,YF),(16,YG),(17,YH),(18,YI),(19,YJ),(20,YK),(21,YL),(23,YM),(24,YN),(25,YO),(26,YP),(27,YQ),(28,YR),(29,YS),(30,YT),(34,YU),(37,YW),(40,YX),(41,YY),(42,YZ),(43,Y4),(44,Y5),(46,Y6),(47,Y7),(55,Y8),(56,Y9),(57,Y'),(59,Za),(64,Zb),(65,TA),(66,Zc),(67,Zd),(69,Ze),(71,Zf),(72,Zg),(73,Zh),(74,Zi),(80,Zj),(84,Zk),(86,Zl),(87,TR),(88,Zm),(90,Zn),(91,Zo),(92,Zp),(93,Zq),(94,Zr),(99,Zs),(100,O0),(101,O1),(102,O2),(103,O3),(105,O4),(106,O5),(107,O6),(108,O7),(109,O8),(110,O9),(111,O'),(112,Pa),(113,Pb),(114,Pd),(115,Pe),(117,Pf),(118,Pg),(119,Pj),(120,Pk),(121,Pm),(122,Pn),(123,Po),(124,Pp),(132,Pq),(133,Pr),(134,Pu),(135,Pv),(136,Pw),(137,Px),(139,Py),(140,IG),(141,Pz),(143,PA),(144,PB),(145,PC),(146,II),(149,PD),(150,PE),(151,PF),(152,PG),(153,PH),(154,PI),(155,PJ),(156,PK),(157,PL),(158,PM),(159,PN),(160,PO),(161,PQ),(163,PR),(164,PS),(165,PT),(166,PU),(168,I4),(169,zW),(170,PV),(171,PW),(172,PX),(173,PY),(174,PZ),(175,P2),(176,P3),(177,P4),(186,P5),(187,P6),(188,P7),(193,P8),(195,P9),(196,P'),(197,Qa),(198,Qb),(199,Qc),(200,Qd),(201,Qe),(202,Qf),(203,Qg),(204,Qh),(207,IZ),(208,Qi),(210,I0),(211,I1),(213,Qj),(214,Qk),(215,Ql),(216,Qm),(220,Qn),(221,Qo),(222,Qp),(223,Qq),(224,Qr),(225,Qt),(232,Qu),(233,Qv),(235,Qw),(236,Qx),(237,Qy),(240,Qz),(241,QA),(242,QB),(243,ID),(244,QC),(245,QD),(246,QE),(247,QF),(250,I2),(251,I3),(252,QG),(253,QH),(254,QI),(262,QJ),(264,QK),(265,QL),(266,IF),(267,QM),(268,QN),(269,QO),(270,QP),(271,QQ),(272,QR),(273,QS),(283,IV),(284,QT)]
def cB:jA:=⟨fun _=>none,false,[],[(30007,0,9),(46009,0,9),(93003,0,2),(94003,0,2),(91004,0,2),(144003,3,2),(262004,0,8),(74007,10,3),(74007,11,3)],[248,116,162,167,206,263,142,45,217,218,219,275,276,277,278,279,280,281,282,33,49,50,51,68,70,39,60,61,62,63,82,83,85,89,95,96,97,98,147,148,194,234,238,239],(some 58),(some 31),128,33,[(61003,([11],[])),(61005,([11],[])),(61007,([11],[])),(61013,([6],[])),(61015,([6,12],[4200])),(98003,([8],[])),(19001,([2],[])),(49006,([21],[])),(33014,([7],[])),(51008,([13],[]))],[],[(1,[0,255]),(2,[0,1])],none,(some 178),[123],none,[]⟩
def b9:List (FuncId×Nat):=[(104106,999999),(104150,999999),(205245,999999)]
def jZ:List (Nat×mB):=[(9,⟨9,{cB with loops:=[(9004,⟨[],[],[],[],[]⟩)] },aO,sg9,b9⟩),
(56,⟨56,cB,aO,Y9,b9⟩),
(37,⟨37,cB,aO,YW,b9⟩),
(23,⟨23,cB,aO,YM,b9⟩),
(41,⟨41,cB,aO,YY,b9⟩),
(65,⟨65,{cB with loops:=[(65003,⟨[],[],[],[],[]⟩)] },aO,TA,b9⟩),
(42,⟨42,cB,aO,YZ,b9⟩),
(28,⟨28,cB,aO,YR,b9⟩),
(100,⟨100,cB,aO,O0,b9⟩),
(66,⟨66,cB,aO,Zc,b9⟩),
(43,⟨43,{cB with loops:=[(43005,⟨[],[(4,44,[i6,i6,i6,i6,i6])],[],[],[]⟩),(43010,⟨[],[(4,44,[i6,i6,i6,i6,i6])],[],[],[]⟩)] },aO,Y4,b9⟩),
(29,⟨29,{cB with loops:=[(29003,⟨[],[(3,44,[i6,i6,i6,i6,i6])],[],[],[]⟩)] },aO,YS,b9⟩),
(47,⟨47,{cB with loops:=[(47005,⟨[],[(7,4,[.b])],[],[],[]⟩)] },aO,Y7,b9⟩),
(44,⟨44,{cB with loops:=[(44005,⟨[],[],[1],[],[]⟩)] },aO,Y5,b9⟩),
(46,⟨46,cB,aO,Y6,b9⟩),
(30,⟨30,{cB with loops:=[(30010,⟨[],[],[],[(9,104,[.s 3 i6,.s 4 (.b),.c i6])],[]⟩),(30017,⟨[],[],[19],[],[]⟩)] },aO,YT,b9⟩),
(101,⟨101,cB,aO,O1,b9⟩),
(67,⟨67,{cB with fy:=true},aO,Zd,b9⟩),
(174,⟨174,cB,aO,PZ,b9⟩),
(195,⟨195,{cB with fy:=true},aO,P9,b9⟩),
(149,⟨149,cB,aO,PD,b9⟩),
(102,⟨102,cB,aO,O2,b9⟩),
(151,⟨151,{cB with loops:=[(151003,⟨[],[],[],[],[]⟩),(151008,⟨[],[],[],[],[]⟩)] },aO,PF,b9⟩),
(150,⟨150,cB,aO,PE,b9⟩),
(104150,⟨104,{cB with loops:=[(104003,⟨[],[(5,74,iH)],[],[],[]⟩),(104006,⟨[],[(5,74,iH)],[],[],[]⟩)] },aO,vZ,b9⟩),
(103,⟨103,cB,[(104,vZ)]++aO,O3,[(104,104150)]++b9⟩),
(107,⟨107,cB,aO,O6,b9⟩),
(106,⟨106,cB,aO,O5,b9⟩),
(104106,⟨104,{cB with loops:=[(104003,⟨[],[(5,74,iH)],[],[],[]⟩),(104006,⟨[],[(5,74,iH)],[],[],[]⟩)] },aO,vY,b9⟩),
(105,⟨105,cB,aO,O4,b9⟩),
(69,⟨69,cB,[(104,vY)]++aO,Ze,[(104,104106)]++b9⟩),
(109,⟨109,{cB with fy:=true},aO,O8,b9⟩),
(155,⟨155,cB,aO,PJ,b9⟩),
(139,⟨139,{cB with fy:=true},aO,Py,b9⟩),
(196,⟨196,{cB with fy:=true},aO,P',b9⟩),
(240,⟨240,{cB with fy:=true},aO,Qz,b9⟩),
(197,⟨197,{cB with fy:=true},aO,Qa,b9⟩),
(156,⟨156,cB,aO,PK,b9⟩),
(110,⟨110,cB,aO,O9,b9⟩),
(157,⟨157,cB,aO,PL,b9⟩),
(267,⟨267,cB,aO,QM,b9⟩),
(241,⟨241,{cB with fy:=true,loops:=[(241017,⟨[],[],[],[],[]⟩),(241024,⟨[],[],[],[],[]⟩)] },aO,QA,b9⟩),
(242,⟨242,{cB with fy:=true},aO,QB,b9⟩),
(198,⟨198,{cB with fy:=true},aO,Qb,b9⟩),
(199,⟨199,{cB with fy:=true},aO,Qc,b9⟩),
(158,⟨158,{cB with fy:=true},aO,PM,b9⟩),
(111,⟨111,cB,aO,O',b9⟩),
(71,⟨71,{cB with loops:=[(71003,⟨[(21,0),(21,1),(22,0),(22,1)],[],[],[],[]⟩)] },aO,Zf,b9⟩),
(159,⟨159,cB,aO,PN,b9⟩),
(200,⟨200,{cB with fy:=true},aO,Qd,b9⟩),
(201,⟨201,{cB with fy:=true},aO,Qe,b9⟩),
(202,⟨202,{cB with loops:=[(202004,⟨[],[],[],[],[]⟩)] },aO,Qf,b9⟩),
(160,⟨160,cB,aO,PO,b9⟩),
(161,⟨161,cB,aO,PQ,b9⟩),
(246,⟨246,{cB with fy:=true},aO,QE,b9⟩),
(245,⟨245,cB,aO,QD,b9⟩),
(205245,⟨205,cB,aO,sC,b9⟩),
(163,⟨163,cB,[(205,sC)]++aO,PR,[(205,205245)]++b9⟩),
(204,⟨204,{cB with fy:=true},aO,Qh,b9⟩),
(244,⟨244,{cB with fy:=true},aO,QC,b9⟩),
(203,⟨203,{cB with fy:=true},aO,Qg,b9⟩),
(112,⟨112,{cB with fy:=true,loops:=[(112012,⟨[],[(12,74,iH)],[32],[],[]⟩),(112017,⟨[],[(12,74,iH)],[],[],[]⟩),(162003,⟨[],[],[32],[],[]⟩),(162008,⟨[],[],[32],[],[]⟩)] },aO,Pa,b9⟩),
(164,⟨164,cB,aO,PS,b9⟩),
(165,⟨165,cB,aO,PT,b9⟩),
(210,⟨210,cB,aO,I0,b9⟩),
(211,⟨211,cB,aO,I1,b9⟩),
(247,⟨247,cB,aO,QF,b9⟩),
(250,⟨250,cB,aO,I2,b9⟩),
(251,⟨251,cB,aO,I3,b9⟩),
(284,⟨284,cB,aO,QT,b9⟩),
(268,⟨268,cB,aO,QN,b9⟩),
(207,⟨207,cB,aO,IZ,b9⟩),
(208,⟨208,cB,aO,Qi,b9⟩),
(166,⟨166,cB,aO,PU,b9⟩),
(168,⟨168,cB,aO,I4,b9⟩),
(170,⟨170,cB,aO,PV,b9⟩),
(213,⟨213,cB,aO,Qj,b9⟩),
(171,⟨171,cB,aO,PW,b9⟩),
(172,⟨172,cB,[(205,sC)]++aO,PX,[(205,205245)]++b9⟩),
(113,⟨113,{cB with loops:=[(113012,⟨[],[(105,74,iH)],[],[],[]⟩),(113018,⟨[(7214,0),(7214,1),(4139,0),(4139,1)],[(116,74,iH)],[],[],[]⟩)] },aO,Pb,b9⟩),
(72,⟨72,cB,aO,Zg,b9⟩),
(114,⟨114,{cB with loops:=[(114004,⟨[],[],[],[],[]⟩),(114010,⟨[],[],[],[],[]⟩)] },aO,Pd,b9⟩),
(115,⟨115,{cB with loops:=[(115003,⟨[],[(5,279,[i6,i6,i6,i6,i6,i6,i6,i6,i6,.b])],[],[],[]⟩)] },aO,Pe,b9⟩),
(117,⟨117,{cB with loops:=[(117005,⟨[],[(4,76,iH),(5,4,[.b])],[],[],[]⟩)] },aO,Pf,b9⟩),
(173,⟨173,{cB with fy:=true},aO,PY,b9⟩),
(73,⟨73,{cB with fy:=true,loops:=[(73005,⟨[],[(9,279,[i6,i6,i6,i6,i6,i6,i6,i6,i6,.b])],[],[],[]⟩),(116002,⟨[],[(0,279,[i6,i6,i6,i6,i6,i6,i6,i6,i6,.b])],[],[],[]⟩),(116008,⟨[],[(6,279,[i6,i6,i6,i6,i6,i6,i6,i6,i6,.b])],[],[],[]⟩)] },aO,Zh,b9⟩),
(118,⟨118,{cB with loops:=[(118004,⟨[],[],[],[],[]⟩)] },aO,Pg,b9⟩),
(119,⟨119,cB,aO,Pj,b9⟩),
(214,⟨214,{cB with fy:=true},aO,Qk,b9⟩),
(215,⟨215,cB,aO,Ql,b9⟩),
(216,⟨216,cB,aO,Qm,b9⟩),
(175,⟨175,{cB with loops:=[(175003,⟨[(1,0),(1,1)],[],[],[],[]⟩)] },aO,P2,b9⟩),
(121,⟨121,cB,aO,Pm,b9⟩),
(120,⟨120,cB,aO,Pk,b9⟩),
(220,⟨220,cB,aO,Qn,b9⟩),
(176,⟨176,cB,aO,P3,b9⟩),
(269,⟨269,cB,aO,QO,b9⟩),
(252,⟨252,cB,aO,QG,b9⟩),
(270,⟨270,cB,aO,QP,b9⟩),
(271,⟨271,cB,aO,QQ,b9⟩),
(253,⟨253,cB,aO,QH,b9⟩),
(221,⟨221,{cB with loops:=[(221008,⟨[],[(12,344,[i6,i6,i6])],[],[],[]⟩),(221012,⟨[],[],[],[],[]⟩)] },aO,Qo,b9⟩),
(222,⟨222,cB,aO,Qp,b9⟩),
(272,⟨272,cB,aO,QR,b9⟩),
(273,⟨273,cB,aO,QS,b9⟩),
(254,⟨254,cB,aO,QI,b9⟩),
(223,⟨223,cB,aO,Qq,b9⟩),
(224,⟨224,cB,aO,Qr,b9⟩),
(225,⟨225,cB,aO,Qt,b9⟩),
(177,⟨177,{cB with fy:=true,loops:=[(177007,⟨[],[(13,74,iH)],[],[],[]⟩),(177011,⟨[(92,0),(92,1),(92,2),(92,3),(92,4),(92,5),(92,6),(92,7),(92,8),(92,9)],[],[],[],[]⟩),(177016,⟨[(92,0),(92,1),(92,2),(92,3),(92,4),(92,5),(92,6),(92,7),(92,8),(92,9)],[(13,74,iH)],[],[],[]⟩),(177021,⟨[(96,3),(96,4),(96,5),(96,6),(106,3),(106,4),(106,5),(106,6),(116,3),(116,4),(116,5),(116,6)],[],[],[],[]⟩),(177027,⟨[(92,0),(92,1),(92,2),(92,3),(92,4),(92,5),(92,6),(92,7),(92,8),(92,9)],[],[],[],[]⟩)] },aO,P4,b9⟩),
(122,⟨122,{cB with loops:=[(122003,⟨[],[(3,74,iH)],[],[],[]⟩)] },aO,Pn,b9⟩),
(123,⟨123,{cB with loops:=[(123004,⟨[(22,0),(22,1),(22,2)],[(3,74,iH)],[],[],[]⟩)] },aO,Po,b9⟩),
(124,⟨124,{cB with loops:=[(124003,⟨[],[(3,74,iH)],[],[],[]⟩)] },aO,Pp,b9⟩),
(74,⟨74,cB,aO,Zi,b9⟩),
(152,⟨152,cB,aO,PG,b9⟩),
(153,⟨153,cB,aO,PH,b9⟩),
(154,⟨154,cB,aO,PI,b9⟩),
(108,⟨108,cB,aO,O7,b9⟩),
(18,⟨18,{cB with loops:=[(18004,⟨[(4703,99),(4703,100),(4703,101),(4703,102),(4703,103)],[],[],[],[(4703,102,74,iH)]⟩),(33003,⟨[],[],[5736,5741],[],[]⟩),(49002,⟨[],[],[],[],[]⟩),(51004,⟨[],[],[5741,5746,5747],[],[]⟩)] },aO,YI,b9⟩),
(186,⟨186,{cB with loops:=[(186003,⟨[],[(5,146,[i6,i6])],[],[],[]⟩)] },aO,P5,b9⟩),
(132,⟨132,cB,aO,Pq,b9⟩),
(133,⟨133,cB,aO,Pr,b9⟩),
(80,⟨80,cB,aO,Zj,b9⟩),
(57,⟨57,{cB with loops:=[(57007,⟨[],[],[],[],[]⟩)] },aO,Y',b9⟩),
(59,⟨59,cB,aO,Za,b9⟩),
(135,⟨135,cB,aO,Pv,b9⟩),
(136,⟨136,cB,aO,Pw,b9⟩),
(137,⟨137,{cB with fy:=true},aO,Px,b9⟩),
(84,⟨84,{cB with loops:=[(84006,⟨[],[],[26,25],[],[]⟩),(84010,⟨[],[],[26,25],[],[]⟩)] },aO,Zk,b9⟩),
(86,⟨86,{cB with fy:=true,loops:=[(86003,⟨[],[],[],[],[]⟩)] },aO,Zl,b9⟩),
(88,⟨88,cB,aO,Zm,b9⟩),
(187,⟨187,cB,aO,P6,b9⟩),
(143,⟨143,cB,aO,PA,b9⟩),
(141,⟨141,{cB with loops:=[(141009,⟨[],[],[],[],[]⟩)] },aO,Pz,b9⟩),
(90,⟨90,cB,aO,Zn,b9⟩),
(91,⟨91,cB,aO,Zo,b9⟩),
(144,⟨144,cB,aO,PB,b9⟩),
(188,⟨188,cB,aO,P7,b9⟩),
(145,⟨145,cB,aO,PC,b9⟩),
(92,⟨92,cB,aO,Zp,b9⟩),
(93,⟨93,cB,aO,Zq,b9⟩),
(94,⟨94,cB,aO,Zr,b9⟩),
(134,⟨134,{cB with loops:=[(134005,⟨[],[(49,3,[i6])],[],[],[]⟩)] },aO,Pu,b9⟩),
(193,⟨193,cB,aO,P8,b9⟩),
(232,⟨232,cB,aO,Qu,b9⟩),
(233,⟨233,cB,aO,Qv,b9⟩),
(235,⟨235,cB,aO,Qw,b9⟩),
(264,⟨264,cB,aO,QK,b9⟩),
(236,⟨236,cB,aO,Qx,b9⟩),
(265,⟨265,cB,aO,QL,b9⟩),
(237,⟨237,cB,aO,Qy,b9⟩),
(262,⟨262,cB,aO,QJ,b9⟩),
(24,⟨24,{cB with loops:=[(95003,⟨[],[],[4200,4201,3],[],[]⟩),(148003,⟨[],[],[4718,4717,4205,4204],[],[]⟩)],Ea:=[99],Ck:=(some (94,33)) },aO,YN,b9⟩),
(12,⟨12,{cB with loops:=[(12003,⟨[(96,0),(96,1),(96,2),(96,3),(96,4),(96,5),(96,6),(96,7),(96,8),(96,9),(96,10),(96,11),(96,12),(96,13),(96,14),(96,15),(96,16),(96,17),(96,18),(96,19),(96,20),(96,21),(96,22),(96,23),(96,24),(96,25),(96,26),(96,27),(96,28),(96,29),(96,30),(96,31),(96,32),(96,33),(96,34),(96,35),(96,36),(96,37),(96,38),(96,39),(96,40),(96,41),(96,42),(96,43),(96,44),(96,45),(96,46),(96,47),(96,48),(96,49),(96,50),(96,51),(96,52),(96,53),(96,54),(96,55),(96,56),(96,57),(96,58),(96,59),(96,60),(96,61),(96,62),(96,63),(96,64),(96,65),(96,66),(96,67),(96,68),(96,69),(96,70),(96,71),(96,72),(96,73),(96,74),(96,75),(96,76),(96,77),(96,78),(96,79),(96,80),(96,81),(96,82),(96,83),(96,84),(96,85),(96,86),(96,87),(96,88),(96,89),(96,90),(96,91),(96,92),(96,93)],[],[63,62,18,17,6,5],[],[]⟩)] },aO,YC,b9⟩),
(55,⟨55,cB,aO,Y8,b9⟩),
(10,⟨10,{cB with inl:=[248,116,162,167,206,263,142,45,217,218,219,275,276,277,278,279,280,281,282,33,49,50,51,68,70,39,60,61,62,63,82,83,85,89,95,96,97,98,147,148,194,234,238,239,22,36,35,52,75,125,53,76,54,77,129,180,78,79,130] },aO,YA,b9⟩),
(11,⟨11,cB,aO,YB,b9⟩),
(21,⟨21,cB,aO,YL,b9⟩),
(13,⟨13,cB,aO,YD,b9⟩),
(14,⟨14,{cB with loops:=[(14003,⟨[],[],[],[(5,85,[.c i6,.s 3 i6])],[]⟩)] },aO,YE,b9⟩),
(25,⟨25,cB,aO,YO,b9⟩),
(15,⟨15,{cB with loops:=[(15003,⟨[],[(3,3,[i6])],[],[],[]⟩)] },aO,YF,b9⟩),
(26,⟨26,{cB with loops:=[(26004,⟨[],[],[],[],[]⟩),(26009,⟨[],[],[],[],[]⟩)] },aO,YP,b9⟩),
(16,⟨16,cB,aO,YG,b9⟩),
(3,⟨3,{cB with loops:=[(3012,⟨[],[],[],[],[]⟩)] },aO,sg3,b9⟩),
(99,⟨99,cB,aO,Zs,b9⟩),
(64,⟨64,{cB with loops:=[(64004,⟨[],[(4,146,[i6,i6])],[],[],[]⟩),(64008,⟨[],[(4,146,[i6,i6])],[],[],[]⟩),(64011,⟨[],[(4,146,[i6,i6])],[],[],[]⟩)] },aO,Zb,b9⟩),
(40,⟨40,{cB with loops:=[(40007,⟨[],[],[],[],[]⟩)] },aO,YX,b9⟩),
(27,⟨27,{cB with loops:=[(27004,⟨[],[],[],[],[]⟩)] },aO,YQ,b9⟩),
(17,⟨17,cB,aO,YH,b9⟩),
(4,⟨4,{cB with loops:=[(4006,⟨[(97,0),(97,1),(97,2),(97,3)],[],[],[],[]⟩)] },aO,sg4,b9⟩),
(5,⟨5,{cB with loops:=[(5008,⟨[],[],[],[],[]⟩),(5012,⟨[],[],[],[],[]⟩)] },aO,sg5,b9⟩),
(19,⟨19,{cB with loops:=[(148003,⟨[],[],[4718,4717,4205,4204],[],[]⟩)],inl:=[248,116,162,167,206,263,142,45,217,218,219,275,276,277,278,279,280,281,282,33,49,50,51,68,70,39,60,61,62,63,82,83,85,89,95,96,97,98,147,148,194,234,238,239,24,21] },aO,YJ,b9⟩),
(6,⟨6,cB,aO,sg6,b9⟩),
(34,⟨34,{cB with loops:=[(34004,⟨[],[],[],[],[]⟩)] },aO,YU,b9⟩),
(20,⟨20,cB,aO,YK,b9⟩),
(7,⟨7,cB,aO,sg7,b9⟩),
(8,⟨8,cB,aO,sg8,b9⟩)]
def sgt:List (Nat×bJ):=[(9,sg9),(56,Y9),(37,YW),(23,YM),(41,YY),(65,TA),(42,YZ),(28,YR),(100,O0),(66,Zc),(43,Y4),(29,YS),(47,Y7),(44,Y5),(46,Y6),(30,YT),(101,O1),(67,Zd),(174,PZ),(195,P9),(149,PD),(102,O2),(151,PF),(150,PE),(104150,vZ),(103,O3),(107,O6),(106,O5),(104106,vY),(105,O4),(69,Ze),(109,O8),(155,PJ),(139,Py),(196,P'),(266,IF),(240,Qz),(197,Qa),(156,PK),(110,O9),(157,PL),(283,IV),(267,QM),(241,QA),(242,QB),(198,Qb),(199,Qc),(158,PM),(111,O'),(71,Zf),(159,PN),(243,ID),(200,Qd),(201,Qe),(202,Qf),(160,PO),(161,PQ),(246,QE),(245,QD),(205245,sC),(163,PR),(204,Qh),(244,QC),(203,Qg),(112,Pa),(164,PS),(165,PT),(210,I0),(211,I1),(247,QF),(250,I2),(251,I3),(284,QT),(268,QN),(207,IZ),(208,Qi),(166,PU),(168,I4),(169,zW),(170,PV),(213,Qj),(171,PW),(172,PX),(113,Pb),(72,Zg),(114,Pd),(115,Pe),(117,Pf),(173,PY),(73,Zh),(118,Pg),(119,Pj),(214,Qk),(215,Ql),(216,Qm),(175,P2),(121,Pm),(120,Pk),(220,Qn),(176,P3),(269,QO),(252,QG),(270,QP),(271,QQ),(253,QH),(221,Qo),(222,Qp),(272,QR),(273,QS),(254,QI),(223,Qq),(224,Qr),(225,Qt),(177,P4),(122,Pn),(123,Po),(124,Pp),(74,Zi),(152,PG),(153,PH),(154,PI),(108,O7),(18,YI),(186,P5),(132,Pq),(133,Pr),(80,Zj),(57,Y'),(59,Za),(135,Pv),(136,Pw),(137,Px),(84,Zk),(86,Zl),(87,TR),(140,IG),(88,Zm),(187,P6),(143,PA),(141,Pz),(90,Zn),(91,Zo),(144,PB),(188,P7),(145,PC),(92,Zp),(93,Zq),(94,Zr),(134,Pu),(146,II),(193,P8),(232,Qu),(233,Qv),(235,Qw),(264,QK),(236,Qx),(265,QL),(237,Qy),(262,QJ),(24,YN),(12,YC),(55,Y8),(10,YA),(11,YB),(21,YL),(13,YD),(14,YE),(25,YO),(15,YF),(26,YP),(16,YG),(3,sg3),(99,Zs),(64,Zb),(40,YX),(27,YQ),(17,YH),(4,sg4),(5,sg5),(19,YJ),(6,sg6),(34,YU),(20,YK),(7,sg7),(8,sg8)]
def qp(k:Nat):Option bJ:=j6 k sgt
end Go.Proofs.YtohebioanhliiaaGreatDoor.aw
namespace Go.Sx
def Cn.a(c:Cn)(ks:List Nat)(x:A):Cn:={c with args:=ks.foldl (fun l k=>l.set k x) c.args}
def Cn.r(c:Cn)(ks:List Nat)(x:A):Cn:={c with res:=ks.foldl (fun l k=>l.set k x) c.res}
def Cn.p(c:Cn)(ps:List BE):Cn:={c with pre:=c.pre++ps}
def Cn.q(c:Cn)(ps:List BE):Cn:={c with post:=c.post++ps}
def Iz:A:=.i (-268435456) 268435456
def P36:A:=.i (-68719476736) 68719476736
def B8:A:=.i 0 255
def B1:A:=.i 0 100
def Cn.win(c:Cn)(k:Nat):Cn:=((c.a [k,k+1] Iz).a [k+2] (.i 0 16777215)).a [k+3,k+4,k+5,k+6] B8
def Cn.Te(c:Cn)(k:Nat):Cn:=((c.r [k,k+1] Iz).r [k+2] (.i 0 16777215)).r [k+3,k+4,k+5,k+6] B8
def Cn.uS(c:Cn)(k:Nat):Cn:=c.a [k,k+1,k+2,k+3] B1
def rr(j:Nat):IE:=.v (R0+j)
def rb(j:Nat):BE:=.v (R0+j)
def imp(a b:BE):BE:=.or (.not a) b
def lg(lo:Int)(x:IE)(hi:Int):List BE:=[.le (.c lo) x,.le x (.c hi)]
def N0:Int:=1099511627776
def A.cap:A->A
 |.l a none cs=>.l a (some N0) cs
 |x=>x
def EY:Int×Int:=(-268435456,268435456)
def Pc:A:=.i (-268500000) 268500000
def eG:List BE->BE
 | []=>.c true
 | [p]=>p
 |p::ps=>.and p (eG ps)
def BG(k:Nat):BE:=eG (lg (-268435456) (.v k) 268435456++lg (-268435456) (.v (k+1)) 268435456++lg 0 (.v (k+2)) 16777215++[3,4,5,6].flatMap fun j=>lg 0 (.v (k+j)) 255)
def G6(k:Nat):BE:=eG (lg 0 (.v k) 65535++lg 1 (.v (k+1)) 256++lg 0 (.v (k+2)) 1099511627776)
def cI:Int×Int:=(mn,mx)
def nd:List (Int×Int):=[cI,cI,cI,cI,cI,cI,cI,cI]
def EZ:List (Int×Int):=[cI,cI,cI,cI,cI,cI,cI,cI,cI,(0,1)]
def E0:List (Int×Int):=[EY,EY,(0,16777215),(0,255),(0,255),(0,255),(0,255)]
def acb:List (Int×Int):=[EY,EY,(-536870912,536870912),(-536870912,536870912),(0,1)]
def tK:A:=.l 1 (some 1) [(-268500000,268500000),(-268500000,268500000),(-268500000,268500000),(-268500000,268500000),(0,1),(0,1),(-1200000,1200000),(-1200000,1200000),(0,1),(0,1),(-1200000,1200000),(-1200000,1200000)]
def US(k:Nat):List BE:=[.le (.min (.v k) (.c 0)) (rr 0),.le (rr 0) (.max (.v (k+2)) (.c 0)),.le (.min (.v (k+1)) (.c 0)) (rr 1),.le (rr 1) (.max (.v (k+3)) (.c 0)),.le (.min (.v k) (.c 0)) (rr 2),.le (rr 2) (.max (.v (k+2)) (.c 0)),.le (.min (.v (k+1)) (.c 0)) (rr 3),.le (rr 3) (.max (.v (k+3)) (.c 0))]
def M28:A:=.i (-268435456) 268435456
def Z4(n:Int):A:=.l n (some 8) (List.replicate 16 (-268435456,268435456))
def UT:A:=Z4 1
def stQ:BE:=eG (lg 0 (rr 0) 1++lg 1 (.len (R0+1)) 8++lg 1 (.len (R0+2)) 8)
def acd:List (Int×Int):=[(-68719476736,68719476736),(-68719476736,68719476736),(-68719476736,68719476736),(-68719476736,68719476736),(0,255),(0,255),(0,255),(0,255)]
abbrev aI:A:=.i mn mx
def N5:List A:=[aI,B1,B1,.l 0 (some 10000) [cI],.l 0 (some 10000) [cI],aI,aI,aI,aI,aI,aI,aI,aI,aI,aI,UT,UT]++(List.replicate 6 [.i 3 3,aI,aI,aI,aI]).flatten++[.b,.b,.b,.b,.b,.b,B8,B8,B8,B8,.b,.b,aI,.l 0 (some 256) acd,.l 0 (some 256) [(0,1)],
 aI,.b,.b,aI,aI,aI,aI,aI,aI,aI,.b,aI,.b,aI,aI,.b,.b,.b,aI,aI,aI,aI,.b,aI,.b,.b,aI,aI,.b,.b,.b,.b]
def N6(o:Nat):List BE:=[.eq (.len (o+3)) (.mul (.v (o+1)) (.v (o+2))),.eq (.len (o+4)) (.mul (.v (o+1)) (.v (o+2))),.eq (.len (o+60)) (.len (o+61))]
def Cn.pipe(c:Cn):Cn:={c with args:=N5++c.args.drop 94,pre:=c.pre++N6 0}
def Cn.N7(c:Cn):Cn:={c with res:=N5++c.res.drop 94,post:=c.post++N6 R0}
def ace:List (Nat×Nat):=[(1,2),(2,4),(3,1),(4,1),(5,4),(6,5),(7,1),(8,16),(9,16),(10,0),(11,0),(12,0),(13,6),(14,4),(15,1),(16,1),(17,4),(18,0),(19,1),(20,3),(21,2),(22,1),(23,2),(24,2),(25,3),(26,3),(27,3),(28,4),(29,2),(30,4),(31,16),(32,1)]
def XJ:List BE:=imp (rb 1) (eG (lg 1 (.v 0) 32))::imp (.eq (.v 0) (.c 13)) (eG [.eq (.get R0 (.c 0) 0) (.c 0),.eq (.get R0 (.c 0) 1) (.c 5)])::ace.map fun x=>imp (.and (.eq (.v 0) (.c x.1)) (rb 1)) (.eq (.len R0) (.c x.2))
def G7(l:Nat):List BE:=.eq (.len l) (.c 2)::(lg 1 (.get l (.c 0) 0) 1024++lg 1 (.get l (.c 1) 0) 1024)
def ahk(l:Nat):List BE:=(List.range 4).flatMap fun(j:Nat)=>lg 0 (.get l (.c j) 0) 255
def ahl(k:Nat)(c:Cn):Cn:=match k with
 |100=>c.a [1] (.i 0 4611686018427387904)
 |42=>c.q (US 0++US 4++[.le (rr 0) (rr 2),.le (rr 1) (rr 3)])
 |65=>c.q [imp (rb 0) (.and (.lt (.v 0) (.v 2)) (.lt (.v 1) (.v 3)))]
 |151=>((c.a [0,1] Iz).a [7,8] B1).a [9] (.i 0 67108864)
 |150=>(((c.a [0,1] B1).a [2] (.l 7 (some 7) [EY])).a [3] (.l 1 (some 1) [(0,8192)])).r [0,1] B1
 |106=>(((c.a [0,1] B1).a [2] (.l 7 (some 7) [EY])).a [3] (.l 1 (some 1) [(mn,mx)])).a [4] (.l 1 (some 1) [(1,64)])
 |104150=>(((c.uS 0).r [0] (.l 0 (some 10000) nd)).a [4] (.l 7 (some 7) [EY])).a [5] (.l 1 (some 1) [(0,8192)])
 |104106=>((((c.uS 0).r [0] (.l 0 (some 10000) nd)).a [4] (.l 7 (some 7) [EY])).a [5] (.l 1 (some 1) [(mn,mx)])).a [6] (.l 1 (some 1) [(1,64)])
 |103=>((c.win 0).a [7] (.i 1 64)).uS 8 |>.r [0] (.l 0 (some 10000) nd)
 |107=>(c.a [1] (.i 1 2147483648)).a [0] (.i (-4611686018427387904) 4611686018427387904)
 |105=>(c.win 0).a [7] (.i 1 64)
 |69=>(c.uS 9).r [0] (.l 0 (some 10000) nd)
 |166=>c.a [0,1,2,3] Pc |>.r [0] (.i (-1) 4000000)
 |160=>(((c.win 0).win 7).a [14] (.i 1 64)).r [0,1] Iz |>.r [2,3] (.i (-536870912) 536870912) |>.r [4] (.i 0 576460752303423488) |>.r [5,6] (.i (-1) mx)
 |202=>c.r [0] (.i 0 mx)
 |161=>(((c.win 0).win 7).a [14] (.i 1 64)).uS 15 |>.r [0,1] (.i (-1048707) 1048707) |>.q [.le (.v 16) (rr 0),.le (rr 1) (.v 18)]
 |245=>c.a [2,3] (.l 1 (some 1) [(mn,mx)])
 |205245=>((c.win 0).win 7).a [14,15] (.l 1 (some 1) [(mn,mx)])
 |163=>(((c.win 0).win 7).a [14,15] (.i (-1000) 1000))
 |172=>(((c.win 0).win 7).a [14,15] (.i (-16777216) 16777216))
 |204=>c.a [1] (.i 1 2147483648) |>.q [imp (eG (lg (-1073741824) (.v 0) 1073741824)) (eG ([.le (.mul (.v 1) (rr 0)) (.v 0),.lt (.v 0) (.add (.mul (.v 1) (rr 0)) (.v 1))]++lg (-1073741825) (rr 0) 1073741824))]
 |244=>(c.a [0] (.i (-536870912) 536870912)) |>.q [imp (.le (rr 0) (rr 1)) (.and (.le (.v 4) (rr 0)) (.le (rr 1) (.v 5)))]
 |203=>(c.a [0,1] Iz).a [2,3] (.i (-536870912) 536870912) |>.q [imp (.le (rr 0) (rr 1)) (.and (.le (.v 8) (rr 0)) (.le (rr 1) (.v 9)))]
 |164=>(((c.win 0).win 7).a [14] (.i 1 64)).r [0,1,2,3] Pc
 |165=>((c.a [1] (.i 1 256)).a [2] (.i 0 1099511627776)).a [3] (.i (-1) 2147483648) |>.r [2] (.i (-1) 4096) |>.q [.eq (rr 0) (.v 0),.eq (rr 1) (.v 1)]
 |207=>c.a [0,1,2,3] Pc |>.p [.not (.and (.eq (.v 0) (.v 2)) (.eq (.v 1) (.v 3)))] |>.r [0] tK |>.q [.not (.eq (.get R0 (.c 0) 2) (.get R0 (.c 0) 0))]
 |208=>(c.a [0] tK).r [0] (.i (-1) 4000000)
 |209=>(c.a [0] tK).a [1,2] (.i (-16777216) 16777216)
 |210=>(c.a [0] tK).r [0] (.i 0 2500000)
 |211=>(c.a [0] tK).r [0] (.i (-1) 1)
 |247=>(c.a [0] Pc).r [0] (.i (-1100000) 1100000)
 |284=>c.a [0,1] Pc |>.r [0,1] (.i (-1200000) 1200000)
 |268=>(c.a [0] tK).a [1,2] Pc |>.r [0,1] (.i (-1200000) 1200000)
 |250=>((c.a [0] tK).a [1] (.i (-8388608) 8388608)).p [.not (.eq (.get 0 (.c 0) 2) (.get 0 (.c 0) 0))] |>.r [1] (.i 1 549755813888) |>.r [0] (.i (-4611686018427387904) 4611686018427387904)
 |251=>((c.a [0] tK).a [1] (.i (-8388608) 8388608)).p [.not (.eq (.get 0 (.c 0) 2) (.get 0 (.c 0) 0))] |>.r [0] (.i (-4611686018427387905) 4611686018427387904)
 |170=>(c.a [5,6,7,8] B1).a [9] (.i 1 64) |>.r [0,1,2,3] (.i (-64) 100)
 |169=>(c.a [0,1,2,3] Pc).a [4,5,6,7] (.i (-64) 100) |>.r [0] (.l 0 (some 200) [(0,4000000),(-64,100),(-64,100)])
 |174=>c.q [imp (rb 0) (G6 0)]
 |171=>c.a [1] (.i 1 256) |>.a [2] (.i 0 1099511627776) |>.a [3] (.i 0 4000000)
 |195=>c.q [imp (rb 0) (BG 0)]
 |149=>c.q [imp (rb 0) (eG [BG 0,BG 7,.le (.c 1) (.v 14),.le (.v 14) (.c 64),G6 15])]
 |159=>c.q [imp (rb 0) (eG [BG 0,BG 7,.le (.c 1) (.v 14),.le (.v 14) (.c 64)])]
 |102=>c.q [imp (rb 0) (eG [BG 0,.le (.c 1) (.v 7),.le (.v 7) (.c 64),.le (.c 0) (.v 8),.le (.v 8) (.c 2)])]
 |112=>(c.uS 15).r [0] (.l 0 (some 10000) nd)
 |113=>(c.uS 19).r [0] (.l 0 (some 12800) nd)
 |72=>(c.uS 32).r [0] (.l 0 (some 12800) nd)
 |115=>c.p [.eq (.len 0) (.len 1)] |>.a [0] (.l 0 (some 256) (EZ.take 8)) |>.a [1] (.l 0 (some 256) [(0,1)]) |>.r [0] (.l 0 (some 256) EZ) |>.q [.eq (.len R0) (.len 0)]
 |117=>(c.a [0] (.l 0 (some 131072) EZ)).q [.eq (.len R0) (.len 0),.eq (.len (R0+1)) (.len 0)] |>.r [0] (.l 0 (some 131072) (EZ.take 8)) |>.r [1] (.l 0 (some 131072) [(0,1)])
 |114=>c.q [imp (rb 0) (eG [.le (.c 3) (.len 0),.le (.len 0) (.c 256),.eq (.len 1) (.len 0),.le (.len 2) (.c 9)])]
 |73=>c.r [0] (.l 0 (some 131072) (EZ.take 8)) |>.r [1] (.l 0 (some 131072) [(0,1)]) |>.q [.eq (.len (R0+1)) (.len R0)]
 |118=>c.a [0] (.l 0 (some 131072) E0) |>.a [1] (.l 0 (some 131072) [(0,1)]) |>.q [imp (rb 0) (eG [.le (.c 3) (.len 0),.eq (.len 1) (.len 0)])]
 |215=>(((c.a [0,1,7,8,14,15] Iz))).r [0] (.i (-1152921504606846976) 1152921504606846976)
 |175=>c.a [0] (.l 0 (some 131072) E0)
 |121=>c.a [0] (.l 0 (some 131072) E0)
 |120=>c.a [0] (.l 0 (some 131072) E0)
 |176=>((c.win 0).win 7).win 14 |>.a [21] (.i (-65536) 65536) |>.a [22] (.i (-16777216) 16777216)
 |269=>c.a [0,1,7,8] Iz |>.r [0,1] Iz |>.r [2,3] (.i (-536870912) 536870912) |>.r [4] (.i 0 1)
 |252=>c.a [0,1,7,8,14,15] Iz |>.r [0] (.l 0 (some 3) acb)
 |270=>c.a [0,1] Iz |>.a [2,3] (.i (-536870912) 536870912) |>.a [5,6] (.i 0 100) |>.r [0] (.i (-576460752303423488) 576460752303423488)
 |271=>(c.a [1] (.i 1 1152921504606846976)).a [0] (.i (-4611686018427387904) 4611686018427387904) |>.r [0] (.i (-4611686018427387905) 4611686018427387904)
 |253=>c.a [0,1] Iz |>.a [2,3] (.i (-536870912) 536870912) |>.a [4] (.i 0 1) |>.a [5] (.i 0 100) |>.q [imp (.lt (rr 0) (rr 1)) (.and (.le (.v 6) (rr 0)) (.le (rr 1) (.v 7)))] |>.a [6,7] (.i (-4611686018427387905) 4611686018427387905) |>.r [0,1] (.i (-4611686018427387905) 4611686018427387905)
 |221=>c.a [0,1,7,8,14,15] Iz |>.uS 21 |>.r [0] (.l 0 (some 100) [(0,100),(0,100),(0,100)])
 |222=>(((c.win 0).win 7).win 14).Te 0 |>.Te 7 |>.Te 14
 |254=>((c.win 0).win 7).win 14
 |223=>((c.win 0).win 7).win 14
 |177=>(((c.win 0).win 7).win 14).uS 22 |>.r [0] (.l 0 (some 10000) nd)
 |122=>(((c.a [15] (.i (-65536) 65536)).a [16] (.i (-16777216) 16777216)).a [0] (.l 0 (some 131072) E0)).uS 17 |>.r [0] (.l 0 (some 2000000000) nd)
 |123=>(c.a [0] (.l 0 (some 131072) E0)).uS 17 |>.p [.eq (.len 1) (.len 0)] |>.r [0] (.l 0 (some 2000000000) nd)
 |124=>((c.a [8] (.i 1 64)).a [0] (.l 0 (some 131072) E0)).uS 17 |>.p [.eq (.len 1) (.len 0)] |>.r [0] (.l 0 (some 2000000000) nd)
 |272=>(((c.a [0,1,7,8,14,15] Iz))).a [22,23] (.i 0 100)
 |119=>c.q [imp (rb 0) (eG (lg 1 (.v 0) 64++lg 1 (.v 6) 64++lg 0 (.v 7) 2++lg 0 (.v 8) 2++lg 0 (.v 9) 2++lg 0 (.v 11) 3++lg (-65536) (.v 13) 65536++lg (-16777216) (.v 14) 16777216++[G6 3]))]
 |74=>(c.a [0] (.l 0 (some 131072) E0)).uS 17 |>.a [1] (.l 0 (some 131072) [(0,1)]) |>.r [0] (.l 0 (some 2000000000) nd)
 |154=>((c.a [1] (.i 1 4611686018427387904)).a [0] (.i (-4611686018427387904) 4611686018427387904)).r [0] (.i (-4611686018427387905) 4611686018427387904)
 |152=>c.q [imp (rb 0) (eG (lg (-8192) (.v 0) 8192++lg (-8192) (.v 1) 8192++lg 0 (.v 2) 4096++lg 0 (.v 3) 4096))]
 |153=>c.q [imp (rb 0) (eG (lg (-68719476736) (.v 0) 68719476736++lg (-68719476736) (.v 1) 68719476736++lg (-68719476736) (.v 2) 68719476736++lg 1 (.v 3) 68719476736++[4,5,6,7].flatMap fun j=>lg 0 (.v j) 255))]
 |108=>c.Te 0 |>.r [7] (.i 0 9)
 |186=>(c.a [0] (.i 0 16)).q [.eq (.len R0) (.v 0)]
 |41=>c.q [.eq (rr 0) (.c 0),.eq (rr 1) (.c 0),.eq (rr 2) (.v 0),.eq (rr 3) (.v 1)]
 |135=>c.q [imp (.eq (.len 2) (.mul (.v 0) (.v 1))) (.eq (.len (R0+2)) (.mul (rr 0) (rr 1))),imp (.eq (.len 3) (.mul (.v 0) (.v 1))) (.eq (.len (R0+3)) (.mul (rr 0) (rr 1))),.eq (rr 0) (.v 0),.eq (rr 1) (.v 1),.eq (.len (R0+2)) (.len 2),.eq (.len (R0+3)) (.len 3)] |>.a [2,3] (.l 0 (some 10000) [cI]) |>.r [2,3] (.l 0 (some 10000) [cI])
 |84=>c.a [0,1] B1 |>.a [2,3] (.l 0 (some 10000) [cI]) |>.r [2,3] (.l 0 (some 10000) [cI]) |>.p [.eq (.len 2) (.mul (.v 0) (.v 1)),.eq (.len 3) (.mul (.v 0) (.v 1))] |>.r [0,1] B1 |>.q [.eq (rr 0) (.v 0),.eq (rr 1) (.v 1),.eq (.len (R0+2)) (.mul (rr 0) (rr 1)),.eq (.len (R0+3)) (.mul (rr 0) (rr 1))]
 |187=>c.a [1] (.i 0 4611686018427387904) |>.q [.or (rb 0) (.and (.le (.sub (.c 0) (.v 1)) (.v 0)) (.le (.v 0) (.v 1)))]
 |143=>c.q [imp (rb 0) (eG ((List.range 16).flatMap fun j=>lg (-268435456) (.v j) 268435456))]
 |141=>c.q [imp (rb 0) (eG (lg 0 (.v 0) 1++lg 1 (.len 1) 8++lg 1 (.len 2) 8))]
 |188=>c.a [0] (.l 16 (some 16) [(-268435456,268435456)]) |>.a [1] (.i 0 3) |>.a [2] (.l 4 (some 4) [(-268435456,268435456)]) |>.r [0] (.i (-17592186044416) 17592186044416)
 |144=>(c.a [1,2] UT).r ((List.range 16)) M28
 |145=>(c.r [16] (.i 0 12)).q [imp (.eq (rr 16) (.c 0)) (eG ((List.range 16).flatMap fun j=>lg (-268435456) (rr j) 268435456))]
 |90=>((c.a [1,2] UT).r [3] (.i 0 12)).r [1,2] (Z4 0) |>.q [imp (.eq (rr 3) (.c 0)) stQ]
 |91=>((c.a [1,2] UT).r [3] (.i 0 12)).r [1,2] (Z4 0) |>.q [imp (.eq (rr 3) (.c 0)) stQ]
 |92=>((c.a [1,2] UT).r [3] (.i 0 12)).r [1,2] (Z4 0) |>.q [imp (.eq (rr 3) (.c 0)) stQ]
 |93=>((c.a [1,2] UT).r [3] (.i 0 12)).r [1,2] (Z4 0) |>.q [imp (.eq (rr 3) (.c 0)) stQ]
 |94=>((c.a [1,2] UT).r [3] (.i 0 12)).r [1,2] (Z4 0) |>.q [imp (.eq (rr 3) (.c 0)) stQ]
 |193=>c.r [0,1,2,3] P36 |>.r [4] (.i 0 12)
 |134=>(c.r [4] (.i 0 12)).q [imp (.eq (rr 4) (.c 0)) (eG [.eq (rr 0) (.v 0),.eq (rr 1) (.v 1),.eq (.len (R0+2)) (.mul (rr 0) (rr 1)),.eq (.len (R0+3)) (.mul (rr 0) (rr 1))])] |>.p [.le (.mul (.v 0) (.v 1)) (.c 100)] |>.r [0,1] B1 |>.r [2,3] (.l 0 (some 10000) [cI])
 |59=>c.q [imp (.eq (.v 1) (.c 18)) (.iff (rb 0) (.v 0))]
 |132=>c.r [0] (.l 0 (some 40) [cI,cI]) |>.q (imp (.eq (.v 0) (.c 18)) (rb 1)::imp (.eq (.v 0) (.c 13)) (rb 1)::XJ)
 |133=>c.r [0] (.l 0 (some 40) [cI,cI]) |>.q (imp (rb 1) (eG (lg 14 (.v 0) 32))::XJ.drop 2)
 |80=>c.r [0] (.l 0 (some 40) [cI,cI]) |>.q (imp (.eq (.v 0) (.c 18)) (rb 1)::XJ)
 |57=>(c.a [1] (.l 0 (some 40) [cI])).r [0] (.i 0 12) |>.q (imp (.and (.eq (.v 0) (.c 18)) (.eq (.len 1) (.c 0))) (.eq (rr 0) (.c 0))::imp (.eq (rr 0) (.c 0)) (eG (lg 1 (.v 0) 32))::imp (.and (.eq (.v 0) (.c 13)) (.eq (rr 0) (.c 0))) (eG (lg 0 (.get 1 (.c 0) 0) 5))::(ace.map fun x=>imp (.and (.eq (.v 0) (.c x.1)) (.eq (rr 0) (.c 0))) (.eq (.len 1) (.c x.2)))++[imp (.and (.eq (.v 0) (.c 14)) (.eq (rr 0) (.c 0))) (eG (ahk 1)),imp (.and (.eq (.v 0) (.c 1)) (.eq (rr 0) (.c 0))) (eG (G7 1))])
 |19=>(c.pipe.p [.v 58]).r [0,1] B1 |>.r [2,3] (.l 0 (some 10000) [cI]) |>.q [.eq (.len (R0+2)) (.mul (rr 0) (rr 1)),.eq (.len (R0+3)) (.mul (rr 0) (rr 1))]
 |233=>c.q [imp (rb 0) (eG (lg 0 (.v 2) 16777215++([3,4,5,6].flatMap fun j=>lg 0 (.v j) 255)++lg 1 (.v 7) 64))]
 |235=>(c.a [0,1,2,3] B8).a [4] (.i 1 64) |>.r [0,1,2,3] B8
 |264=>c.r [0,1,2,3] B8
 |236=>c.r [0,1,2,3] B8 |>.a [0,1] B1 |>.a [2,3] (.l 0 (some 10000) [cI]) |>.p [.eq (.len 2) (.mul (.v 0) (.v 1)),.eq (.len 3) (.mul (.v 0) (.v 1))] |>.q [imp (rb 5) (eG [.le (.c 0) (.v 4),.lt (.v 4) (.v 0),.le (.c 0) (.v 5),.lt (.v 5) (.v 1)])]
 |265=>(c.a [9] (.i 0 3)).a ([1,2,3,4,5,6,7,8]) B8 |>.r [0] B8
 |237=>c.a ([0,1,2,3,4,5,6,7]) B8 |>.r [0,1,2,3] B8
 |30=>c.a [1] (.l 0 (some 256) []) |>.r [0] (.l 0 (some 256) [(1,256),(0,256),(0,255)])
 |18=>c.pipe.r [0] (.l 0 (some 512000000000) nd)
 |28=>c.pipe.r [0,1,2,3] B1
 |29=>c.pipe
 |24=>(c.pipe.a [95] (.l 0 (some 40) [cI])).p [imp (eG (.eq (.v 94) (.c 1)::G7 95)) (.le (.mul (.get 95 (.c 0) 0) (.get 95 (.c 1) 0)) (.c 100))] |>.N7
 |23=>c.N7
 |12=>c.N7.p [.c false]
 |44=>c.p [.c false]
 |241=>c.p [.lt (.v 0) (.v 2)]
 |47=>c.p [.c false]
 |64=>c.a [0] (.i 1 1) |>.r [0] (.l 2 (some 2) [(1,1),(1024,1024)]) |>.q [rb 1]
 |40=>c.a [0] (.i 1 1) |>.a [1] (.l 0 (some 40) [cI]) |>.r [0] (.i 0 12) |>.q [imp (.eq (rr 0) (.c 0)) (eG (G7 1))]
 |17=>{c with pre:=[.c false],res:=(N5.map fun a=>a.y7 (AQ a))++[.b],post:=N6 R0++[imp (rb 94) (eG [.le (.c 1) (.len (R0+15)),.le (.c 1) (.len (R0+16)),rb 58,.le (.c 1) (rr 1),.le (.c 1) (rr 2)])] }
 |37=>c.r [0] (.i 0 0) |>.r [1,2] (.l 1 (some 1) (List.replicate 16 (-268435456,268435456)))
 |56=>c.r (List.range 16) M28
 |87=>c.a [1] (.i 0 16777216) |>.r [0] (.i 0 16777216) |>.r [1] (.i 0 12) |>.q [.le (rr 0) (.v 1)]
 |146=>c.a [1] (.i 0 32) |>.a [2] (.i 0 1099511627776) |>.r [0] (.i (-1099511627776) 1099511627776) |>.r [1] (.i 0 12) |>.q [.le (.sub (.c 0) (.v 2)) (rr 0),.le (rr 0) (.v 2)]
 |283=>c.r [0] (.i 0 64)
 |243=>(c.a [2] (.i 0 1)).r [1] (.i 0 1)
 |266=>(c.a [2] (.i 0 1)).r [1] (.i 0 1)
 |14=>c.a [1] (.l 0 (some 100) [cI,cI]) |>.r [0] (.l 0 (some 200) [])
 |11=>(c.a [0,1,7,8,14,15] Iz)
 |_=>c
def acf(i:IE):BE:=imp (.lt (.c 0) i) (.and (.le (.get 3 (.c 0) 0) (.get 1 (.c 0) 0)) (.le (.get 1 (.c 0) 0) (.get 3 (.c 0) 1)))
def G8:IE:=.add (.add (.v 3) (.tdiv (.sub (.v 4) (.v 3)) (.c 2))) (.tmod (.sub (.v 4) (.v 3)) (.c 2))
def Z5(a b:Nat):IE:=.max (.sub (.v a) (.v b)) (.sub (.c 0) (.sub (.v a) (.v b)))
def uT:IE:=.max (.v 15) (.wrap .i64 (.sub (.ediv (.wrap .i64 (.sub (.min (.v 0) (.v 7)) (.wrap .i64 (.mul (.v 14) (.c 128))))) 256) (.c 1)))
def Z6(x y w h:IE):List BE×BE:=([.le (.c 0) x,.lt x w,.le (.c 0) y,.lt y h,.le w (.c 100),.le h (.c 100)],eG [.le (.c 0) (.mul y w),.le (.mul y w) (.c 10000),.le (.c 0) (.add (.mul y w) x),.lt (.add (.mul y w) x) (.mul w h)])
def IA(a b c d:Nat):BE:=imp (.lt (.v a) (.v b)) (.and (.le (.v c) (.v a)) (.le (.v b) (.v d)))
def N8:IE:=.wrap .i64 (.sub (.wrap .i64 (.tdiv (.v 0) (.v 1))) (.c 1))
def rK(k:Nat):List (List BE×BE):=match k with
 |202=>[([.lt (.v 3) (.v 4)],eG [.lt (.v 3) G8,.le G8 (.v 4),.le (.tdiv (.sub (.v 4) (.v 3)) (.c 2)) (.sub (.v 4) (.v 3))])]
 |221=>[([IA 37 38 33 34,IA 33 34 21 23],IA 37 38 21 23),([.or (.eq (.len 31) (.c 0)) (.le (.v 32) (.c 100)),.le (.len 31) (.v 32)],.le (.len 31) (.c 100))]
 |198=>[([.le (.c 1) (.v 2),.le (.v 2) (.c 9223372036854775807)],.lt (.tmod (.wrap .u64 (.v 6)) (.wrap .u64 (.v 2))) (.wrap .u64 (.v 2))),([.le (.c 1) (.v 2),.le (.v 2) (.c 9223372036854775807)],.lt (.tmod (.wrap .u64 (.v 0)) (.wrap .u64 (.v 2))) (.wrap .u64 (.v 2)))]
 |123=>[([.lt (.c 0) (.len 0),.le (.c 0) (.v 24)],eG [.lt (.tmod (.add (.v 24) (.c 1)) (.len 0)) (.len 0),.le (.c 0) (.tmod (.add (.v 24) (.c 1)) (.len 0))])]
 |84=>[([.eq (.v 23) (.v 0),.eq (.v 24) (.v 1)],.eq (.mul (.v 23) (.v 24)) (.mul (.v 0) (.v 1))),([.lt (.v 1570) (.v 1567),.le (.v 1566) (.v 0),.le (.v 1567) (.v 1),.le (.c 0) (.v 1570),.le (.c 0) (.v 0)],.le (.add (.mul (.v 1570) (.v 0)) (.v 1566)) (.mul (.v 0) (.v 1)))]
 |73=>[([.le (.c 0) (.v 6),.le (.v 6) (.c 100)],.eq (.shl (.c 256) (.wrap .i64 (.add (.v 6) (.c 1)))) (.mul (.c 2) (.shl (.c 256) (.v 6))))]
 |134=>[([.le (.c 1) (.v 0),.le (.c 1) (.v 1),.le (.mul (.v 0) (.v 1)) (.c 100)],eG [.le (.v 0) (.c 100),.le (.v 1) (.c 100)])]
 |236=>[Z6 (.v 4) (.v 5) (.v 0) (.v 1)]
 |19=>[Z6 (.get 4713 (.v 4721) 0) (.get 4713 (.v 4721) 1) (.v 4715) (.v 4716)]
 |24=>[Z6 (.get 4200 (.v 4208) 0) (.get 4200 (.v 4208) 1) (.v 4202) (.v 4203),([.le (.c 1) (.get 95 (.c 0) 0),.le (.c 1) (.get 95 (.c 1) 0),.le (.mul (.get 95 (.c 0) 0) (.get 95 (.c 1) 0)) (.c 100)],eG [.le (.get 95 (.c 0) 0) (.c 100),.le (.get 95 (.c 1) 0) (.c 100)])]
 |57=>[([acf (.v 6),.le (.c 0) (.v 6),.le (.get 3 (.v 6) 0) (.get 1 (.v 6) 0),.le (.get 1 (.v 6) 0) (.get 3 (.v 6) 1)],.and (.le (.get 3 (.c 0) 0) (.get 1 (.c 0) 0)) (.le (.get 1 (.c 0) 0) (.get 3 (.c 0) 1)))]
 |141=>[([.not (.and (.not (.eq (.v 0) (.c 0))) (.not (.eq (.v 0) (.c 1))))],eG (lg 0 (.v 0) 1))]
 |112=>[([.le (.mul (.c 32) (.v 44)) (.sub (.c 16) (.v 42)),.le (.add (.mul (.c 256) uT) (.c 16)) (.v 42),.le (.sub (.c 0) (.v 44)) (.v 45),.le (.mul (.c 32) (.v 47)) (.sub (.v 43) (.c 16)),.le (.v 43) (.sub (.add (.mul (.c 256) uT) (.mul (.c 256) (.len 38))) (.c 16)),.le (.v 45) (.v 47),.eq (.len 46) (.len 38)],eG [.le (.c 0) (.sub (.ediv (.v 45) 8) uT),.lt (.sub (.ediv (.v 45) 8) uT) (.len 46)])]
 |204=>[([.lt (.tmod (.v 0) (.v 1)) (.c 0),.le (.c 1) (.v 1)],imp (eG (lg (-1073741824) (.v 0) 1073741824)) (eG [.le (.mul (.v 1) N8) (.v 0),.lt (.v 0) (.add (.mul (.v 1) N8) (.v 1))])),([.le (.c 0) (.tmod (.v 0) (.v 1)),.le (.c 1) (.v 1)],imp (eG (lg (-1073741824) (.v 0) 1073741824)) (eG [.le (.mul (.v 1) (.wrap .i64 (.tdiv (.v 0) (.v 1)))) (.v 0),.lt (.v 0) (.add (.mul (.v 1) (.wrap .i64 (.tdiv (.v 0) (.v 1)))) (.v 1))]))]
 |210=>[([],.le (.c 0) (.max (.sub (.get 0 (.c 0) 7) (.get 0 (.c 0) 6)) (.sub (.get 0 (.c 0) 6) (.get 0 (.c 0) 7))))]
 |207=>[([.lt (Z5 2 0) (Z5 3 1)],.not (.eq (.v 3) (.v 1))),([.le (Z5 3 1) (Z5 2 0),.not (.and (.eq (.v 0) (.v 2)) (.eq (.v 1) (.v 3)))],.not (.eq (.v 2) (.v 0)))]
 |_=>[]
def lps(k:Nat):List (Nat×Nat×Iv):=match k with
 |9=>[(9004,2,⟨[.b,.i 0 1099511627776],[(.le (.c 0) (.v 3)),(.le (.v 3) (.len 0))],(.add (.mul (.c (-1)) (.v 3)) (.len 0))⟩)]
 |12=>[(12003,97,⟨[.i 0 1099511627776,aI,.i 0 100,.i 0 100,.l 0 (some 10000) [cI],.l 0 (some 10000) [cI],aI,aI,aI,aI,aI,aI,aI,aI,aI,aI,.l 1 (some 8) [((-268435456),268435456),((-268435456),268435456),((-268435456),268435456),((-268435456),268435456),((-268435456),268435456),((-268435456),268435456),((-268435456),268435456),((-268435456),268435456),((-268435456),268435456),((-268435456),268435456),((-268435456),268435456),((-268435456),268435456),((-268435456),268435456),((-268435456),268435456),((-268435456),268435456),((-268435456),268435456)],.l 1 (some 8) [((-268435456),268435456),((-268435456),268435456),((-268435456),268435456),((-268435456),268435456),((-268435456),268435456),((-268435456),268435456),((-268435456),268435456),((-268435456),268435456),((-268435456),268435456),((-268435456),268435456),((-268435456),268435456),((-268435456),268435456),((-268435456),268435456),((-268435456),268435456),((-268435456),268435456),((-268435456),268435456)],.i 3 3,aI,aI,aI,aI,.i 3 3,aI,aI,aI,aI,.i 3 3,aI,aI,aI,aI,.i 3 3,aI,aI,aI,aI,.i 3 3,aI,aI,aI,aI,.i 3 3,aI,aI,aI,aI,.b,.b,.b,.b,.b,.b,.i 0 255,.i 0 255,.i 0 255,.i 0 255,.b,.b,aI,.l 0 (some 256) [((-68719476736),68719476736),((-68719476736),68719476736),((-68719476736),68719476736),((-68719476736),68719476736),(0,255),(0,255),(0,255),(0,255)],.l 0 (some 256) [(0,1)],aI,.b,.b,aI,aI,aI,aI,aI,aI,aI,.b,aI,.b,aI,aI,.b,.b,.b,aI,aI,aI,aI,.b,aI,.b,.b,aI,aI,.b,.b,.b,.b],[(.eq (.len 101) (.mul (.v 99) (.v 100))),(.eq (.len 102) (.mul (.v 99) (.v 100))),(.eq (.len 158) (.len 159))],(.add (.mul (.c (-1)) (.v 97)) (.len 0))⟩)]
 |14=>[(14003,6,⟨[.l 1 (some 101) [],.i 0 100],[(.le (.add (.len 6) (.c 0)) (.add (.v 7) (.len 5))),(.le (.c 0) (.v 7)),(.le (.v 7) (.len 1))],(.add (.mul (.c (-1)) (.v 7)) (.len 1))⟩)]
 |15=>[(15003,95,⟨[.l 0 (some 1099511627776) [cI],.i 0 1099511627776],[(.le (.add (.len 95) (.c 0)) (.add (.v 96) (.c 0))),(.le (.c 0) (.v 96)),(.le (.v 96) (.len 3))],(.add (.mul (.c (-1)) (.v 96)) (.len 3))⟩)]
 |18=>[(18004,5218,⟨[.i 0 256,aI,aI,aI,.l 0 (some 512000000000) [cI,cI,cI,cI,cI,cI,cI,cI],.b],[(.le (.len 5222) (.mul (.c 2000000000) (.v 5218))),(.le (.c 0) (.v 5218)),(.le (.v 5218) (.len 5216))],(.add (.mul (.c (-1)) (.v 5218)) (.len 5216))⟩),(33003,5742,⟨[.i 0 256,.l 0 (some 256) [((-68719476736),68719476736),((-68719476736),68719476736),((-68719476736),68719476736),((-68719476736),68719476736),(0,255),(0,255),(0,255),(0,255)]],[(.le (.c 0) (.v 5742)),(.eq (.len 5743) (.len 5741)),(.le (.add (.len 5743) (.c 0)) (.add (.v 5742) (.len 5741))),(.le (.v 5742) (.len 5741)),(.le (.v 5742) (.len 5224))],(.add (.mul (.c (-1)) (.v 5742)) (.len 5743))⟩),(51004,5748,⟨[.i 0 131072,.l 1 (some 131072) [((-268435456),268435456),((-268435456),268435456),(0,16777215),(0,255),(0,255),(0,255),(0,255)],.l 0 (some 256) [((-68719476736),68719476736),((-68719476736),68719476736),((-68719476736),68719476736),((-68719476736),68719476736),(0,255),(0,255),(0,255),(0,255)]],[(.le (.c 0) (.v 5748)),(.eq (.len 5749) (.len 5747)),(.le (.add (.len 5749) (.c 0)) (.add (.v 5748) (.len 5747))),(.eq (.len 5750) (.len 5743)),(.le (.add (.len 5750) (.c 0)) (.add (.v 5748) (.len 5743))),(.le (.v 5748) (.len 5747)),(.le (.v 5748) (.len 5744)),(.le (.v 5748) (.len 5745))],(.add (.mul (.c (-1)) (.v 5748)) (.len 5749))⟩),(49002,5745,⟨[.i 0 1099511627776],[(.le (.c 0) (.v 5745))],(.add (.mul (.c (-1)) (.v 5745)) (.len 2143))⟩)]
 |19=>[(148003,4720,⟨[.i 0 512000000000,.i 0 512000000000,.l 0 (some 10000) [cI],.l 0 (some 10000) [cI]],[(.eq (.len 4722) (.mul (.v 4715) (.v 4716))),(.eq (.len 4723) (.mul (.v 4715) (.v 4716))),(.le (.c 0) (.v 4720)),(.le (.c 0) (.v 4721)),(.eq (.len 4722) (.len 4718)),(.le (.add (.len 4722) (.c 0)) (.add (.v 4720) (.len 4718))),(.le (.add (.len 4722) (.c 0)) (.add (.v 4721) (.len 4718))),(.eq (.len 4723) (.len 4717)),(.le (.add (.len 4723) (.c 0)) (.add (.v 4720) (.len 4717))),(.le (.add (.len 4723) (.c 0)) (.add (.v 4721) (.len 4717))),(.le (.v 4720) (.len 4713)),(.le (.add (.v 4720) (.c 0)) (.add (.v 4721) (.c 0))),(.le (.v 4721) (.len 4713))],(.add (.mul (.c (-1)) (.v 4721)) (.len 4713))⟩)]
 |24=>[(95003,4202,⟨[.i 0 16,.l 16 (some 16) [((-268435456),268435456)]],[(.le (.c 0) (.v 4202)),(.eq (.len 4203) (.len 4201)),(.le (.add (.len 4203) (.c 0)) (.add (.v 4202) (.len 4201))),(.le (.v 4202) (.len 4201))],(.add (.mul (.c (-1)) (.v 4202)) (.len 95))⟩),(95003,4201,⟨[.i 0 4,.l 4 (some 4) [((-1048576),1048576)]],[(.le (.c 0) (.v 4201)),(.eq (.len 4202) (.len 4200)),(.le (.add (.len 4202) (.c 0)) (.add (.v 4201) (.len 4200))),(.le (.v 4201) (.len 4200))],(.add (.mul (.c (-1)) (.v 4201)) (.len 95))⟩),(148003,4207,⟨[.i 0 512000000000,.i 0 512000000000,.l 0 (some 10000) [cI],.l 0 (some 10000) [cI]],[(.eq (.len 4209) (.mul (.v 4202) (.v 4203))),(.eq (.len 4210) (.mul (.v 4202) (.v 4203))),(.le (.c 0) (.v 4207)),(.le (.c 0) (.v 4208)),(.eq (.len 4209) (.len 4205)),(.le (.add (.len 4209) (.c 0)) (.add (.v 4207) (.len 4205))),(.le (.add (.len 4209) (.c 0)) (.add (.v 4208) (.len 4205))),(.eq (.len 4210) (.len 4204)),(.le (.add (.len 4210) (.c 0)) (.add (.v 4207) (.len 4204))),(.le (.add (.len 4210) (.c 0)) (.add (.v 4208) (.len 4204))),(.le (.v 4207) (.len 4200)),(.le (.add (.v 4207) (.c 0)) (.add (.v 4208) (.c 0))),(.le (.v 4208) (.len 4200))],(.add (.mul (.c (-1)) (.v 4208)) (.len 4200))⟩)]
 |26=>[(26004,10,⟨[.b,.i 0 1099511627776],[(.le (.c 0) (.v 11)),(.le (.v 11) (.len 2)),(.le (.v 11) (.len 6))],(.add (.mul (.c (-1)) (.v 11)) (.len 6))⟩),(26009,12,⟨[.b,.i 0 1099511627776],[(.le (.c 0) (.v 13)),(.le (.v 13) (.len 3)),(.le (.v 13) (.len 7))],(.add (.mul (.c (-1)) (.v 13)) (.len 7))⟩)]
 |29=>[(29003,95,⟨[.l 0 (some 6) [(3,3),cI,cI,cI,cI],.i 0 6],[(.le (.add (.len 95) (.c 0)) (.add (.v 96) (.c 0))),(.le (.c 0) (.v 96))],(.add (.mul (.c (-1)) (.v 96)) (.c 6))⟩)]
 |34=>[(34004,2,⟨[.b,.i 0 1099511627776],[(.le (.c 0) (.v 3)),(.le (.v 3) (.len 0)),(.le (.v 3) (.len 1))],(.add (.mul (.c (-1)) (.v 3)) (.len 1))⟩)]
 |43=>[(43005,2,⟨[.l 3 (some 3) [(0,mx),(0,0),(0,0),(0,0),(0,0)],.i 0 3],[(.eq (.len 2) (.len 1)),(.le (.add (.len 2) (.c 0)) (.add (.v 3) (.len 1))),(.le (.c 0) (.v 3)),(.le (.v 3) (.len 1))],(.add (.mul (.c (-1)) (.v 3)) (.c 3))⟩),(43010,4,⟨[.i 0 0,.l 3 (some 9) [cI,cI,cI,cI,cI],.i 0 6],[(.le (.c 0) (.v 4)),(.le (.v 4) (.c 0)),(.le (.add (.len 5) (.c 0)) (.add (.v 6) (.len 2))),(.le (.c 0) (.v 6)),(.le (.v 4) (.len 2)),(.le (.v 4) (.len 1)),(.le (.v 4) (.len 0)),(.le (.add (.v 4) (.c 0)) (.add (.v 6) (.c 0))),(.le (.v 6) (.len 0))],(.add (.mul (.c (-1)) (.v 6)) (.len 0))⟩)]
 |57=>[(57007,5,⟨[.i 0 0,.i 0 40],[(.or (.not (.lt (.c 0) (.v 6))) (.and (.le (.get 3 (.c 0) 0) (.get 1 (.c 0) 0)) (.le (.get 1 (.c 0) 0) (.get 3 (.c 0) 1)))),(.le (.c 0) (.v 5)),(.le (.v 5) (.c 0)),(.le (.c 0) (.v 6)),(.le (.v 5) (.len 3)),(.le (.v 5) (.len 1)),(.le (.add (.v 5) (.c 0)) (.add (.v 6) (.c 0))),(.le (.v 6) (.len 3)),(.le (.v 6) (.len 1))],(.add (.mul (.c (-1)) (.v 6)) (.len 3))⟩)]
 |65=>[(65003,6,⟨[.b,.i 0 4],[(.le (.c 0) (.v 7))],(.add (.mul (.c (-1)) (.v 7)) (.c 4))⟩)]
 |71=>[(71003,23,⟨[.b,.i 0 1099511627776,aI,aI,aI,aI],[(.le (.c 0) (.v 24)),(.le (.v 24) (.len 16))],(.add (.mul (.c (-1)) (.v 24)) (.len 16))⟩)]
 |73=>[(73005,5,⟨[.l 0 (some 131072) [cI,cI,cI,cI,cI,cI,cI,cI,cI,(0,1)],.i 0 9],[(.le (.len 5) (.shl (.c 256) (.v 6)))],(.sub (.len 2) (.v 6))⟩),(116002,9,⟨[.l 0 (some 65536) [cI,cI,cI,cI,cI,cI,cI,cI,cI,(0,1)],.i 0 65536],[(.eq (.len 9) (.len 5)),(.le (.add (.len 9) (.c 0)) (.add (.v 10) (.len 5))),(.le (.c 0) (.v 10)),(.le (.v 10) (.len 5))],(.add (.mul (.c (-1)) (.v 10)) (.len 9))⟩),(116008,11,⟨[.l 0 (some 131072) [cI,cI,cI,cI,cI,cI,cI,cI,cI,(0,1)],.i 0 65536],[(.le (.len 11) (.mul (.c 2) (.v 12))),(.le (.v 12) (.shl (.c 256) (.v 6))),(.le (.c 0) (.v 12)),(.le (.v 12) (.len 9)),(.le (.v 12) (.len 5))],(.add (.mul (.c (-1)) (.v 12)) (.len 9))⟩)]
 |84=>[(84006,1570,⟨[.i 0 100,.l 0 (some 10000) [cI],.l 0 (some 10000) [cI]],[(.eq (.len 1571) (.mul (.v 0) (.v 1))),(.eq (.len 1572) (.mul (.v 0) (.v 1))),(.le (.v 1565) (.v 1570)),(.eq (.len 1571) (.len 26)),(.le (.add (.len 1571) (.v 1565)) (.add (.v 1570) (.len 26))),(.eq (.len 1572) (.len 25)),(.le (.add (.len 1572) (.v 1565)) (.add (.v 1570) (.len 25)))],(.add (.mul (.c (-1)) (.v 1570)) (.v 1567))⟩),(84010,1573,⟨[.i 0 100,.l 0 (some 10000) [cI],.l 0 (some 10000) [cI]],[(.eq (.len 1574) (.mul (.v 0) (.v 1))),(.eq (.len 1575) (.mul (.v 0) (.v 1))),(.le (.c 0) (.v 1573)),(.eq (.len 1574) (.len 1571)),(.le (.add (.len 1574) (.c 0)) (.add (.v 1573) (.len 1571))),(.eq (.len 1575) (.len 1572)),(.le (.add (.len 1575) (.c 0)) (.add (.v 1573) (.len 1572))),(.le (.v 1573) (.len 1571)),(.le (.v 1573) (.len 1572)),(.le (.v 1573) (.len 25)),(.le (.v 1573) (.len 26)),(.le (.v 1573) (.len 2)),(.le (.v 1573) (.len 3))],(.add (.mul (.c (-1)) (.v 1573)) (.add (.mul (.c (-1)) (.v 1564)) (.v 1566)))⟩)]
 |86=>[(86003,6,⟨[.b,.i 0 4],[(.le (.c 0) (.v 7))],(.add (.mul (.c (-1)) (.v 7)) (.c 4))⟩)]
 |112=>[(112012,35,⟨[.l 0 (some 10000) [(0,mx),(0,99),cI,cI,cI,cI,cI,cI],.i 0 1048707,.l 0 (some 100) [cI]],[(.le (.len 35) (.mul (.c 100) (.v 36))),(.le (.v 33) (.v 36)),(.eq (.len 37) (.len 32)),(.le (.add (.len 37) (.v 33)) (.add (.v 36) (.len 32)))],(.add (.mul (.c (-1)) (.v 36)) (.v 34))⟩),(162003,40,⟨[.i 0 8,.l 0 (some 100) [cI]],[(.le (.c 0) (.v 40)),(.eq (.len 41) (.len 38)),(.le (.add (.len 41) (.c 0)) (.add (.v 40) (.len 38)))],(.add (.mul (.c (-1)) (.v 40)) (.c 8))⟩),(112017,42,⟨[.l 0 (some 10000) [(0,mx),(0,99),cI,cI,cI,cI,cI,cI],.i 0 100],[(.le (.add (.len 42) (.c 0)) (.add (.v 43) (.len 35))),(.le (.c 0) (.v 43)),(.le (.v 43) (.len 41)),(.le (.v 43) (.len 38)),(.le (.v 43) (.len 37))],(.add (.mul (.c (-1)) (.v 43)) (.len 41))⟩),(162008,45,⟨[.i 0 8389392,.l 0 (some 100) [cI]],[(.le (.wrap .i64 (.sub (.c 0) (.v 44))) (.v 45)),(.eq (.len 46) (.len 41)),(.le (.add (.len 46) (.wrap .i64 (.sub (.c 0) (.v 44)))) (.add (.v 45) (.len 41)))],(.sub (.c 1073741826) (.v 45))⟩)]
 |113=>[(113012,4135,⟨[.i 0 200,.l 0 (some 12800) [((-64),mx),((-64),mx),cI,cI,cI,cI,cI,(64,64)]],[(.le (.len 4136) (.mul (.c 64) (.v 4135))),(.le (.c 0) (.v 4135)),(.le (.v 4135) (.len 4134))],(.add (.mul (.c (-1)) (.v 4135)) (.len 4134))⟩),(113018,4145,⟨[.i 0 64,.i (-64) 164,.i (-64) 164,.l 0 (some 12800) [((-64),mx),((-64),mx),cI,cI,cI,cI,cI,(64,64)]],[(.le (.c 0) (.v 4145)),(.le (.get 4134 (.v 4135) 1) (.v 4146)),(.le (.get 4134 (.v 4135) 2) (.v 4147)),(.le (.add (.len 4148) (.c 0)) (.add (.v 4145) (.len 4136))),(.le (.add (.v 4146) (.c 0)) (.add (.v 4145) (.get 4134 (.v 4135) 1))),(.le (.add (.v 4147) (.c 0)) (.add (.v 4145) (.get 4134 (.v 4135) 2)))],(.add (.mul (.c (-1)) (.v 4145)) (.v 14))⟩),(113012,7210,⟨[.i 0 200,.l 0 (some 12800) [((-64),mx),((-64),mx),cI,cI,cI,cI,cI,(64,64)]],[(.le (.len 7211) (.mul (.c 64) (.v 7210))),(.le (.c 0) (.v 7210)),(.le (.v 7210) (.len 7209))],(.add (.mul (.c (-1)) (.v 7210)) (.len 7209))⟩),(113018,7220,⟨[.i 0 64,.i (-64) 164,.i (-64) 164,.l 0 (some 12800) [((-64),mx),((-64),mx),cI,cI,cI,cI,cI,(64,64)]],[(.le (.c 0) (.v 7220)),(.le (.get 7209 (.v 7210) 1) (.v 7221)),(.le (.get 7209 (.v 7210) 2) (.v 7222)),(.le (.add (.len 7223) (.c 0)) (.add (.v 7220) (.len 7211))),(.le (.add (.v 7221) (.c 0)) (.add (.v 7220) (.get 7209 (.v 7210) 1))),(.le (.add (.v 7222) (.c 0)) (.add (.v 7220) (.get 7209 (.v 7210) 2)))],(.add (.mul (.c (-1)) (.v 7220)) (.v 14))⟩)]
 |114=>[(114004,3,⟨[.b,.i 0 256],[(.le (.c 0) (.v 4)),(.le (.v 4) (.len 0)),(.le (.v 4) (.len 1))],(.add (.mul (.c (-1)) (.v 4)) (.len 0))⟩),(114010,5,⟨[.b,.i 0 9],[(.le (.c 0) (.v 6)),(.le (.v 6) (.len 2))],(.add (.mul (.c (-1)) (.v 6)) (.len 2))⟩)]
 |115=>[(115003,3,⟨[.l 0 (some 256) [cI,cI,cI,cI,cI,cI,cI,cI,(0,0),(0,1)],.i 0 256],[(.eq (.len 3) (.len 2)),(.le (.add (.len 3) (.c 0)) (.add (.v 4) (.len 2))),(.le (.c 0) (.v 4)),(.le (.v 4) (.len 2)),(.le (.v 4) (.len 0)),(.le (.v 4) (.len 1))],(.add (.mul (.c (-1)) (.v 4)) (.len 3))⟩)]
 |117=>[(117005,2562,⟨[.l 1 (some 131072) [cI,cI,cI,cI,cI,cI,cI,cI],.l 1 (some 131072) [(0,1)],.i 0 131072],[(.eq (.len 2562) (.len 1025)),(.le (.add (.len 2562) (.c 0)) (.add (.v 2564) (.len 1025))),(.eq (.len 2563) (.len 2561)),(.le (.add (.len 2563) (.c 0)) (.add (.v 2564) (.len 2561))),(.le (.c 0) (.v 2564)),(.le (.v 2564) (.len 2561)),(.le (.v 2564) (.len 1025)),(.le (.v 2564) (.len 0))],(.add (.mul (.c (-1)) (.v 2564)) (.len 2563))⟩)]
 |118=>[(118004,22,⟨[.b,.i 0 131072],[(.le (.c 0) (.v 23)),(.le (.v 23) (.len 0)),(.le (.v 23) (.len 1))],(.add (.mul (.c (-1)) (.v 23)) (.len 0))⟩)]
 |122=>[(122003,22,⟨[.l 0 (some 1310720000) [cI,cI,cI,cI,cI,cI,cI,cI],.i 2 131072],[(.le (.len 22) (.mul (.c 10000) (.v 23))),(.le (.c 2) (.v 23))],(.add (.mul (.c (-1)) (.v 23)) (.len 0))⟩)]
 |123=>[(123004,23,⟨[.l 0 (some 1677721600) [cI,cI,cI,cI,cI,cI,cI,cI],.i 0 131072,aI,aI,aI],[(.le (.len 23) (.mul (.c 12800) (.v 24))),(.le (.c 0) (.v 24)),(.le (.v 24) (.len 0)),(.le (.v 24) (.len 1))],(.add (.mul (.c (-1)) (.v 24)) (.len 1))⟩)]
 |124=>[(124003,22,⟨[.l 0 (some 1310720000) [cI,cI,cI,cI,cI,cI,cI,cI],.i 0 131072],[(.le (.len 22) (.mul (.c 10000) (.v 23))),(.le (.c 0) (.v 23)),(.le (.v 23) (.len 0)),(.le (.v 23) (.len 1))],(.add (.mul (.c (-1)) (.v 23)) (.len 0))⟩)]
 |134=>[(134005,5636,⟨[.i 0 1048576,.l 1 (some 1048576) [(0,16777215)]],[(.le (.c 0) (.v 5636)),(.eq (.len 5637) (.len 4611)),(.le (.add (.len 5637) (.c 0)) (.add (.v 5636) (.len 4611))),(.le (.v 5636) (.len 4611)),(.le (.v 5636) (.len 2563))],(.add (.mul (.c (-1)) (.v 5636)) (.len 5637))⟩)]
 |141=>[(141009,4,⟨[.b,.i 0 8],[(.le (.c 0) (.v 5)),(.le (.v 5) (.len 1))],(.add (.mul (.c (-1)) (.v 5)) (.len 1))⟩),(141009,6,⟨[.b,.i 0 8,.b],[(.le (.c 0) (.v 7)),(.le (.v 7) (.len 2))],(.add (.mul (.c (-1)) (.v 7)) (.len 2))⟩)]
 |151=>[(151003,11,⟨[.i 0 64,.i 0 8],[(.le (.v 11) (.mul (.c 8) (.v 12))),(.le (.c 0) (.v 11)),(.le (.c 0) (.v 12))],(.add (.mul (.c (-1)) (.v 12)) (.c 8))⟩),(151008,13,⟨[.i 0 64,.i 0 8],[(.le (.v 13) (.add (.mul (.c 8) (.v 12)) (.v 14))),(.le (.v 11) (.v 13)),(.le (.c 0) (.v 14)),(.le (.add (.v 13) (.c 0)) (.add (.v 14) (.v 11)))],(.add (.mul (.c (-1)) (.v 14)) (.c 8))⟩)]
 |175=>[(175003,2,⟨[.i 2 131072,aI,.i 0 18446744073709551615],[(.le (.c 2) (.v 2)),(.le (.c 0) (.v 4))],(.add (.mul (.c (-1)) (.v 2)) (.len 0))⟩)]
 |177=>[(177007,89,⟨[.l 0 (some 10000) [(0,99),(0,100),(0,16777215),cI,cI,cI,cI,(64,64)],.i 0 100],[(.le (.len 89) (.mul (.c 100) (.v 90))),(.le (.c 0) (.v 90)),(.le (.v 90) (.len 30))],(.add (.mul (.c (-1)) (.v 90)) (.len 30))⟩),(177011,93,⟨[.i 0 5,aI,.i 0 18446744073709551615,aI,.i 0 18446744073709551615,aI,.i 0 18446744073709551615,aI,.i 0 18446744073709551615,aI,.i 0 18446744073709551615],[],(.add (.mul (.c (-1)) (.v 93)) (.c 5))⟩),(177016,104,⟨[.l 0 (some 10000) [(0,99),(0,100),(0,16777215),cI,cI,cI,cI,(64,64)],.i 0 100,aI,.i 0 18446744073709551615,aI,.i 0 18446744073709551615,aI,.i 0 18446744073709551615,aI,.i 0 18446744073709551615,aI,.i 0 18446744073709551615],[(.le (.add (.len 104) (.get 30 (.v 90) 1)) (.add (.v 105) (.len 89)))],(.add (.mul (.c (-1)) (.v 105)) (.get 30 (.v 90) 2))⟩),(177021,118,⟨[.i 0 4,aI,aI,aI,aI],[(.le (.c 0) (.v 118))],(.add (.mul (.c (-1)) (.v 118)) (.c 4))⟩),(177027,125,⟨[.i 0 5,aI,.i 0 18446744073709551615,aI,.i 0 18446744073709551615,aI,.i 0 18446744073709551615,aI,.i 0 18446744073709551615,aI,.i 0 18446744073709551615],[],(.add (.mul (.c (-1)) (.v 125)) (.c 5))⟩)]
 |186=>[(186003,5,⟨[.l 0 (some 16) [cI,cI],.i 0 16],[(.eq (.len 5) (.len 4)),(.le (.add (.len 5) (.c 0)) (.add (.v 6) (.len 4))),(.le (.c 0) (.v 6)),(.le (.v 6) (.len 4))],(.add (.mul (.c (-1)) (.v 6)) (.len 5))⟩)]
 |202=>[(202004,3,⟨[aI,aI],[(.le (.c 0) (.v 3)),(.le (.v 3) (.v 4)),(.le (.c 0) (.v 3)),(.le (.v 4) (.c mx)),(.le (.add (.v 4) (.c 0)) (.add (.v 3) (.c mx)))],(.sub (.v 4) (.v 3))⟩)]
 |221=>[(221008,31,⟨[.l 0 (some 100) [(0,99),(0,99),(1,100)],.i 0 1048575],[(.or (.eq (.len 31) (.c 0)) (.le (.v 32) (.c 100))),(.le (.add (.len 31) (.max (.v 22) (.sub (.ediv (.min (.min (.v 1) (.v 8)) (.v 15)) 256) (.c 1)))) (.add (.v 32) (.c 0))),(.le (.max (.v 22) (.sub (.ediv (.min (.min (.v 1) (.v 8)) (.v 15)) 256) (.c 1))) (.v 32))],(.add (.mul (.c (-1)) (.v 32)) (.add (.ediv (.max (.max (.v 1) (.v 8)) (.v 15)) 256) (.c 2)))⟩),(221012,33,⟨[.i (-4611686018427387905) 4611686018427387905,.i (-4611686018427387905) 4611686018427387905,.i 0 3],[(.or (.not (.lt (.v 33) (.v 34))) (.and (.le (.v 21) (.v 33)) (.le (.v 34) (.v 23)))),(.le (.c 0) (.v 35)),(.le (.v 35) (.len 29))],(.add (.mul (.c (-1)) (.v 35)) (.len 29))⟩)]
 |104106=>[(104003,8,⟨[.l 0 (some 10000) [cI,cI,cI,cI,cI,cI,cI,(1,mx)],.i 0 100],[(.le (.len 8) (.mul (.c 100) (.sub (.v 9) (.v 1)))),(.le (.v 1) (.v 9))],(.add (.mul (.c (-1)) (.v 9)) (.v 3))⟩),(104006,10,⟨[.l 0 (some 10000) [cI,cI,cI,cI,cI,cI,cI,(1,mx)],.i 0 100],[(.le (.len 10) (.add (.mul (.c 100) (.sub (.v 9) (.v 1))) (.sub (.v 11) (.v 0)))),(.le (.add (.len 10) (.v 0)) (.add (.v 11) (.len 8))),(.le (.v 0) (.v 11))],(.add (.mul (.c (-1)) (.v 11)) (.v 2))⟩)]
 |104150=>[(104003,7,⟨[.l 0 (some 10000) [(0,100),(0,100),cI,cI,cI,cI,cI,(1,mx)],.i 0 100],[(.le (.len 7) (.mul (.c 100) (.sub (.v 8) (.v 1)))),(.le (.v 1) (.v 8))],(.add (.mul (.c (-1)) (.v 8)) (.v 3))⟩),(104006,9,⟨[.l 0 (some 10000) [(0,100),(0,100),cI,cI,cI,cI,cI,(1,mx)],.i 0 100],[(.le (.len 9) (.add (.mul (.c 100) (.sub (.v 8) (.v 1))) (.sub (.v 10) (.v 0)))),(.le (.add (.len 9) (.v 0)) (.add (.v 10) (.len 7))),(.le (.v 0) (.v 10))],(.add (.mul (.c (-1)) (.v 10)) (.v 2))⟩)]
 |_=>[]
end Go.Sx
namespace Go.Proofs.YtohebioanhliiaaGreatDoor.aw
open Go.Sx
def kc(k:Nat):Cn:=match qp k with
 | some s=>let c:=ahl k (aaP s)
   ⟨c.args.map A.cap,c.pre,c.res.map A.cap,c.post⟩
 |none=>⟨[],[],[],[]⟩
def an(k:Nat):An:=⟨lps k,rK k,if k=24\/k=18 then(1,12)else if k=19 then(1,0)else(mn,mx)⟩
end Go.Proofs.YtohebioanhliiaaGreatDoor.aw
namespace Go.Proofs.YtohebioanhliiaaGreatDoor.aw
open Go.Sx
def ord:List Nat:=[283,140,243,266,87,146,169,9,56,37,23,41,65,42,28,100,66,43,29,47,44,46,30,101,67,174,195,149,102,151,150,104150,103,107,106,104106,105,69,109,155,139,196,240,197,156,110,157,267,241,242,198,199,158,111,71,159,200,201,202,160,161,246,245,205245,163,204,244,203,112,164,165,210,211,247,250,251,284,268,207,208,166,168,170,213,171,172,113,72,114,115,117,173,73,118,119,214,215,216,175,121,120,220,176,269,252,270,271,253,221,222,272,273,254,223,224,225,177,122,123,124,74,152,153,154,108,18,186,132,133,80,57,59,135,136,137,84,86,88,187,143,141,90,91,144,188,145,92,93,94,134,193,232,233,235,264,236,265,237,262,24,12,55,11,21,13,14,25,15,26,16,99,64,40,27,17,34,20,19,10,3,4,5,6,7,8]
abbrev one(P:Program)(i k:Nat):Bool:=GJ (lO P jZ) kc an (ord.take i) k
def rowOf(k:Nat):mB:=(j6 k jZ).getD ⟨0,cB,[],⟨[],[],0⟩,[]⟩
def kd:Kind:=⟨58,31,128,33,178,[(1,[0,255]),(2,[0,1])]⟩
def xs:List Nat:=[283,140,243,266,87,146,169]
abbrev row(P:Program)(k:Nat):Bool:=Kt P kd qp jZ xs k (rowOf k)&&(gC P (rowOf k)).lJ (bt (rowOf k).s.res)
abbrev part(P:Program)(i n:Nat):Bool:=Im P (rowOf 24) (ZU kc (ord.take i)) (gb.key ⟨24,.stuck "",(rowOf 24).sub⟩) (an 24) (kc 24) 94 n
abbrev rest(P:Program)(i:Nat):Bool:=Nj P (rowOf 24) (ZU kc (ord.take i)) (gb.key ⟨24,.stuck "",(rowOf 24).sub⟩) (an 24) (kc 24) 94 33
end Go.Proofs.YtohebioanhliiaaGreatDoor.aw

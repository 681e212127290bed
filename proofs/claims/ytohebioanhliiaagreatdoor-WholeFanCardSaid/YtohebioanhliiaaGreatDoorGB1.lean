/- The functions' signatures, how each is walked, their contracts. -/
import Derived.Test.YtohebioanhliiaaGreatDoorGAK
import Derived.Test.YtohebioanhliiaaGreatDoorChecked
set_option maxRecDepth 100000
set_option linter.unusedVariables false
namespace Go
noncomputable abbrev PP:Program:=Proofs.Tryz.prog
end Go
namespace Go.Proofs.YtohebioanhliiaaGreatDoor.av
open Go.Sx
abbrev i6:CK:=.i .i64
abbrev oI:VT:=.one (.c i6)
abbrev oB:VT:=.one (.c .b)
abbrev rp{α:Type}(n:Nat)(x:α):List α:=List.replicate n x
abbrev sO:List CT:=[.c i6,.c i6,.c i6,.s 3 [i6],.s 3 [i6],.c i6,.c i6,.c i6,.c i6,.c i6,.c i6,.c i6,.c i6,.c i6,.c i6,.s 138 (rp 16 (i6)),.s 138 (rp 16 (i6)),.c i6,.c i6,.c i6,.c i6,.c i6,.c i6,.c i6,.c i6,.c i6,.c i6,.c i6,.c i6,.c i6,.c i6,.c i6,.c i6,.c i6,.c i6,.c i6,.c i6,.c i6,.c i6,.c i6,.c i6,.c i6,.c i6,.c i6,.c i6,.c i6,.c i6,.c .b,.c .b,.c .b,.c .b,.c .b,.c .b,.c i6,.c i6,.c i6,.c i6,.c .b,.c .b,.c i6,.s 76 (rp 8 (i6)),.s 4 [.b],.c i6,.c .b,.c .b,.c i6,.c i6,.c i6,.c i6,.c i6,.c i6,.c i6,.c .b,.c i6,.c .b,.c i6,.c i6,.c .b,.c .b,.c .b,.c i6,.c i6,.c i6,.c i6,.c .b,.c i6,.c .b,.c .b,.c i6,.c i6,.c .b,.c .b,.c .b,.c .b]
abbrev iw:List CK:=[i6,i6,i6,i6,i6,i6,i6,i6]
def sg3:bW:=⟨[.agg [.c i6,.c i6],.agg [.c i6,.c i6],.agg [.c i6,.c i6]],[oB],0⟩
def sg4:bW:=⟨[.one (.n 85 [.c i6,.s 3 i6])],[oB],0⟩
def sg5:bW:=⟨[.one (.n 85 [.c i6,.s 3 i6])],[oB],0⟩
def sg6:bW:=⟨[.one (.n 85 [.c i6,.s 3 i6])],[oB],0⟩
def sg7:bW:=⟨[.one (.n 85 [.c i6,.s 3 i6]),.agg (rp 8 (.c (.i .i16)))],[oB],0⟩
def sg8:bW:=⟨[.one (.s 23 [i6,i6]),.agg [.c (.i .u8),.c (.i .u8),.c (.i .u8)],oB],[oB],0⟩
def sg9:bW:=⟨[.one (.s 23 [i6,i6]),oI],[oB],0⟩
def acg:bW:=⟨[],[oB],0⟩
def ach:bW:=⟨[.agg (rp 7 (.c i6)),.agg (rp 7 (.c i6)),.agg (rp 7 (.c i6))],[oI],0⟩
def Sl:bW:=⟨[.one (.n 85 [.c i6,.s 3 i6])],[.agg sO],0⟩
def aci:bW:=⟨[oI,oI],[.one (.n 85 [.c i6,.s 3 i6])],0⟩
def acj:bW:=⟨[oI,.one (.s 23 [i6,i6])],[.one (.n 85 [.c i6,.s 3 i6])],0⟩
def ack:bW:=⟨[.agg sO],[.one (.s 3 [i6])],0⟩
def acm:bW:=⟨[.agg [.c i6,.c i6,.s 3 [i6],.s 3 [i6]],.agg [.c i6,.c i6,.s 3 [i6],.s 3 [i6]]],[oB],0⟩
def acn:bW:=⟨[.one (.n 85 [.c i6,.s 3 i6])],[.agg sO,oB],0⟩
def aco:bW:=⟨[.agg sO],[.one (.s 74 (rp 8 (i6))),oB],0⟩
def acp:bW:=⟨[.agg sO],[.agg [.c i6,.c i6,.s 3 [i6],.s 3 [i6]]],0⟩
def acq:bW:=⟨[.one (.s 74 (rp 8 (i6))),.one (.s 74 (rp 8 (i6)))],[oB],0⟩
def acr:bW:=⟨[oI,.one (.s 3 [i6])],[.agg [.c i6,.s 3 [i6]]],2⟩
def acs:bW:=⟨[],[.agg sO],0⟩
def acu:bW:=⟨[.agg sO,.agg [.c i6,.s 3 [i6]]],[.agg sO],94⟩
def acv:bW:=⟨[oI],[.agg [.c i6,.c i6,.c i6,.c i6]],0⟩
def acw:bW:=⟨[.agg [.c i6,.c i6,.s 3 [i6],.s 3 [i6]],.agg [.c i6,.c i6,.s 3 [i6],.s 3 [i6]]],[oB],0⟩
def acx:bW:=⟨[.one (.n 85 [.c i6,.s 3 i6]),oI,oI],[oB],0⟩
def acy:bW:=⟨[.agg sO],[.agg [.c i6,.c i6,.c i6,.c i6]],0⟩
def acz:bW:=⟨[.agg sO],[.one (.s 44 [i6,i6,i6,i6,i6])],0⟩
def acA:bW:=⟨[oI,.one (.s 4 [.b]),oB],[.one (.n 104 [.s 3 i6,.s 4 (.b),.c i6]),oI],0⟩
def acB:bW:=⟨[.one (.s 74 (rp 8 (i6))),.one (.s 74 (rp 8 (i6)))],[oB],0⟩
def acC:bW:=⟨[],[.agg [.c i6,.s 138 (rp 16 (i6)),.s 138 (rp 16 (i6))]],0⟩
def acD:bW:=⟨[.agg [.c i6,.s 3 [i6]]],[oI],0⟩
def acE:bW:=⟨[.agg [.c i6,.c i6,.s 3 [i6],.s 3 [i6]]],[.agg [.c i6,.c i6,.c i6,.c i6]],0⟩
def acF:bW:=⟨[.agg [.c i6,.c i6,.c i6,.c i6],.agg [.c i6,.c i6,.c i6,.c i6]],[.agg [.c i6,.c i6,.c i6,.c i6]],0⟩
def acG:bW:=⟨[.one (.s 44 [i6,i6,i6,i6,i6])],[.one (.s 44 [i6,i6,i6,i6,i6]),oI],0⟩
def acH:bW:=⟨[.one (.s 4 [.b])],[.one (.n 104 [.s 3 i6,.s 4 (.b),.c i6])],0⟩
def acI:bW:=⟨[oI,oI],[oI],0⟩
def acJ:bW:=⟨[.one (.s 3 [i6]),.one (.s 4 [.b]),oB],[.one (.s 4 [.b])],0⟩
def acK:bW:=⟨[oI],[oI,oB],0⟩
def acL:bW:=⟨[],[.agg (rp 16 (.c i6))],0⟩
def acM:bW:=⟨[.agg [.c i6,.s 3 [i6]]],[oI],0⟩
def acN:bW:=⟨[oB,oI],[oB],0⟩
def acO:bW:=⟨[oI],[.one (.s 146 [i6,i6]),oB],0⟩
def X2:bW:=⟨[.agg [.c i6,.c i6,.c i6,.c i6]],[oB],0⟩
def acP:bW:=⟨[.agg [.c i6,.c i6,.c i6,.c i6,.c i6]],[oB],0⟩
def acQ:bW:=⟨[.agg [.c i6,.c i6,.c i6,.c i6,.c i6],.agg (rp 8 (.c i6))],[oI],0⟩
def acR:bW:=⟨[.agg (rp 7 (.c i6)),oI,oI,.agg [.c i6,.c i6,.c i6,.c i6]],[.one (.s 74 (rp 8 (i6)))],0⟩
def acS:bW:=⟨[.agg (rp 8 (.c i6)),.agg (rp 8 (.c i6)),.one (.s 44 [i6,i6,i6,i6,i6])],[.agg (rp 8 (.c i6)),.agg (rp 8 (.c i6)),oB],0⟩
def acT:bW:=⟨[.agg (rp 7 (.c i6)),.agg (rp 7 (.c i6)),.agg ([.c i6,.c .b,.c .b]++rp 7 (.c i6)++[.c .b,.c i6,.c .b,.c i6,.c i6]),.agg [.c i6,.c i6,.c i6],.agg [.c i6,.c i6,.c i6,.c i6]],[.one (.s 74 (rp 8 (i6))),.agg [.c i6,.c i6,.c i6]],0⟩
def acU:bW:=⟨[.one (.s 76 (rp 8 (i6))),.one (.s 4 [.b]),.one (.s 44 [i6,i6,i6,i6,i6])],[.one (.s 76 (rp 8 (i6))),.one (.s 4 [.b]),oI],0⟩
def acV:bW:=⟨[.one (.s 30 (rp 7 (i6))),.one (.s 4 [.b]),.agg ([.c i6,.c .b,.c .b]++rp 7 (.c i6)++[.c .b,.c i6,.c .b,.c i6,.c i6]),.agg [.c i6,.c i6,.c i6,.c i6]],[.one (.s 74 (rp 8 (i6)))],0⟩
def acW:bW:=⟨[oI],[.one (.s 146 [i6,i6]),oB],0⟩
def acX:bW:=⟨[.agg [.c i6,.c i6,.s 3 [i6],.s 3 [i6]],.agg [.c i6,.c i6,.c i6,.c i6],oI,.agg [.c i6,.c i6,.c i6,.c i6],oI,.agg [.c .b,.c .b,.c .b,.c .b]],[.agg [.c i6,.c i6,.s 3 [i6],.s 3 [i6]]],0⟩
def acY:bW:=⟨[oI,oI,oI,oI],[.agg [.c i6,.c i6,.c i6,.c i6],oB],0⟩
def Yj:bW:=⟨[.one (.c (.f)),oI],[oI,oI],0⟩
def acZ:bW:=⟨[oI],[.one (.c (.f))],0⟩
def ac0:bW:=⟨[.agg [.c i6,.s 138 (rp 16 (i6)),.s 138 (rp 16 (i6))],oI],[.agg [.c i6,.s 138 (rp 16 (i6)),.s 138 (rp 16 (i6))],oI],0⟩
def ac1:bW:=⟨[.agg [.c i6,.s 138 (rp 16 (i6)),.s 138 (rp 16 (i6))],.agg (rp 16 (.c i6))],[.agg [.c i6,.s 138 (rp 16 (i6)),.s 138 (rp 16 (i6))],oI],0⟩
def ac2:bW:=⟨[.agg [.c i6,.s 138 (rp 16 (i6)),.s 138 (rp 16 (i6))],.agg (rp 16 (.c i6))],[.agg [.c i6,.s 138 (rp 16 (i6)),.s 138 (rp 16 (i6))],oI],0⟩
def ac3:bW:=⟨[.agg [.c i6,.s 138 (rp 16 (i6)),.s 138 (rp 16 (i6))]],[.agg [.c i6,.s 138 (rp 16 (i6)),.s 138 (rp 16 (i6))],oI],0⟩
def ac4:bW:=⟨[.agg [.c i6,.s 138 (rp 16 (i6)),.s 138 (rp 16 (i6))]],[.agg [.c i6,.s 138 (rp 16 (i6)),.s 138 (rp 16 (i6))],oI],0⟩
def ac5:bW:=⟨[],[.one (.n 34 [.s 3 i6])],0⟩
def Ti:bW:=⟨[oI,oI],[oB],0⟩
def Tj:bW:=⟨[.agg (rp 8 (.c i6))],[.agg [.c i6,.c i6,.c i6,.c i6]],0⟩
def Tk:bW:=⟨[.agg (rp 7 (.c i6)),oI,oI],[oB],0⟩
def Tl:bW:=⟨[.agg (rp 7 (.c i6)),oI,.agg [.c i6,.c i6,.c i6,.c i6]],[.one (.s 74 (rp 8 (i6)))],0⟩
def Tm:bW:=⟨[.agg (rp 7 (.c i6)),oI],[.agg [.c i6,.c i6,.c i6,.c i6]],0⟩
def Tn:bW:=⟨[oI,oI,.ptr 2 [i6],.ptr 2 [i6],.ptr 2 [i6]],[.agg (rp 8 (.c i6))],0⟩
def To:bW:=⟨[oI,oI],[oI],0⟩
def Tp:bW:=⟨[.agg (rp 8 (.c i6)),.agg [.c i6,.c i6,.c i6,.c i6]],[.agg (rp 7 (.c i6)),oI],0⟩
def Tq:bW:=⟨[.agg [.c i6,.c i6,.c i6,.c i6,.c i6],.agg (rp 8 (.c i6)),.agg (rp 8 (.c i6))],[oI,oI,oI],0⟩
def Tr:bW:=⟨[.agg [.c i6,.c i6],.agg [.c i6,.c i6]],[oB],0⟩
def Ts:bW:=⟨[.agg (rp 8 (.c i6)),.agg (rp 8 (.c i6)),oI,oI],[.agg (rp 8 (.c i6)),oI],0⟩
def Tt:bW:=⟨[.agg (rp 7 (.c i6)),.agg (rp 7 (.c i6)),oI,.agg [.c i6,.c i6,.c i6,.c i6]],[.one (.s 74 (rp 8 (i6)))],0⟩
def Tu:bW:=⟨[.agg (rp 7 (.c i6)),.agg (rp 7 (.c i6)),oI,oB,.agg [.c i6,.c i6,.c i6],.agg [.c i6,.c i6,.c i6,.c i6]],[.one (.s 74 (rp 8 (i6))),.agg [.c i6,.c i6,.c i6]],0⟩
def Tv:bW:=⟨[.one (.s 76 (rp 8 (i6))),.one (.s 4 [.b]),.one (.s 44 [i6,i6,i6,i6,i6])],[oB],0⟩
def Tw:bW:=⟨[.one (.s 76 (rp 8 (i6))),.one (.s 4 [.b])],[.one (.s 279 (rp 9 (i6)++[.b]))],0⟩
def Tx:bW:=⟨[.one (.s 279 (rp 9 (i6)++[.b]))],[.one (.s 76 (rp 8 (i6))),.one (.s 4 [.b])],0⟩
def Ty:bW:=⟨[.agg [.s 30 (rp 7 (i6)),.s 4 [.b],.c i6,.c .b,.c .b,.c i6,.c i6,.c i6,.c i6,.c i6,.c i6,.c i6,.c .b,.c i6,.c .b,.c i6,.c i6,.c i6,.c i6,.c i6,.c i6]],[oB],0⟩
def Tz:bW:=⟨[.agg ([.c i6,.c .b,.c .b]++rp 7 (.c i6)++[.c .b,.c i6,.c .b,.c i6,.c i6])],[oB],0⟩
def TA:bW:=⟨[.one (.s 30 (rp 7 (i6))),.agg ([.c i6,.c .b,.c .b]++rp 7 (.c i6)++[.c .b,.c i6,.c .b,.c i6,.c i6])],[oB],0⟩
def TB:bW:=⟨[.one (.s 30 (rp 7 (i6))),oB],[oB],0⟩
def TC:bW:=⟨[.agg [.s 30 (rp 7 (i6)),.s 4 [.b],.c i6,.c .b,.c .b,.c i6,.c i6,.c i6,.c i6,.c i6,.c i6,.c i6,.c .b,.c i6,.c .b,.c i6,.c i6,.c i6,.c i6,.c i6,.c i6]],[.one (.s 74 (rp 8 (i6)))],0⟩
def TD:bW:=⟨[.agg [.s 30 (rp 7 (i6)),.s 4 [.b],.c i6,.c .b,.c .b,.c i6,.c i6,.c i6,.c i6,.c i6,.c i6,.c i6,.c .b,.c i6,.c .b,.c i6,.c i6,.c i6,.c i6,.c i6,.c i6]],[.one (.s 74 (rp 8 (i6)))],0⟩
def TE:bW:=⟨[.agg [.s 30 (rp 7 (i6)),.s 4 [.b],.c i6,.c .b,.c .b,.c i6,.c i6,.c i6,.c i6,.c i6,.c i6,.c i6,.c .b,.c i6,.c .b,.c i6,.c i6,.c i6,.c i6,.c i6,.c i6]],[.one (.s 74 (rp 8 (i6)))],0⟩
def TF:bW:=⟨[oI],[.one (.s 146 [i6,i6]),oB],0⟩
def TG:bW:=⟨[oI],[.one (.s 146 [i6,i6]),oB],0⟩
def TH:bW:=⟨[oI,oI],[.agg [.c i6,.c i6,.s 3 [i6],.s 3 [i6]],oI],0⟩
def TI:bW:=⟨[.agg [.c i6,.c i6,.s 3 [i6],.s 3 [i6]]],[.agg [.c i6,.c i6,.s 3 [i6],.s 3 [i6]]],0⟩
def TJ:bW:=⟨[.agg [.c .b,.c .b,.c .b,.c .b]],[oI],0⟩
def TK:bW:=⟨[.agg [.c i6,.c i6,.c i6,.c i6]],[oI],0⟩
def TL:bW:=⟨[.one (.c (.i .u64)),.one (.c (.i .u64))],[.one (.c (.i .u64)),.one (.c (.i .u64))],0⟩
def Me:bW:=⟨[.one (.c (.i .u64))],[.one (.c (.f))],0⟩
def TM:bW:=⟨[.agg [.c i6,.s 138 (rp 16 (i6)),.s 138 (rp 16 (i6))]],[oB],0⟩
def TN:bW:=⟨[.agg (rp 16 (.c i6))],[oB],0⟩
def TO:bW:=⟨[.agg [.c i6,.s 138 (rp 16 (i6)),.s 138 (rp 16 (i6))],oI],[.agg (rp 16 (.c i6)),oI],0⟩
def TP:bW:=⟨[.agg (rp 16 (.c i6)),.agg (rp 16 (.c i6))],[.agg (rp 16 (.c i6)),oI],0⟩
def Mg:bW:=⟨[.one (.c (.f)),oI,oI],[oI,oI],0⟩
def TQ:bW:=⟨[.agg (rp 7 (.c i6)),.agg (rp 7 (.c i6)),oI,.agg [.c i6,.c i6,.c i6]],[oB],0⟩
def TR:bW:=⟨[oI,oI,.ptr 2 [i6],.ptr 2 [i6]],[.agg (rp 8 (.c i6))],0⟩
def TS:bW:=⟨[.agg (rp 7 (.c i6)),oI,oI,oI],[oI],0⟩
def TU:bW:=⟨[.agg [.c i6,.c i6,.c i6,.c i6]],[oB],0⟩
def TV:bW:=⟨[.agg (rp 8 (.c i6))],[oB],0⟩
def TW:bW:=⟨[oI,oI],[oI],0⟩
def TX:bW:=⟨[.agg [.c i6,.c (.i .u64)],.agg [.c i6,.c (.i .u64)]],[oI],0⟩
def TY:bW:=⟨[oI,oI],[.agg [.c i6,.c (.i .u64)]],0⟩
def TZ:bW:=⟨[.agg (rp 8 (.c i6))],[oB],0⟩
def T0:bW:=⟨[oI,oI,oI,oI],[oI],0⟩
def T4:bW:=⟨[.agg (rp 7 (.c i6)),.agg (rp 7 (.c i6)),oI],[oB],0⟩
def T5:bW:=⟨[.agg (rp 7 (.c i6)),.agg (rp 7 (.c i6)),oI],[.agg (rp 7 (.c i6))],0⟩
def T6:bW:=⟨[.agg (rp 7 (.c i6)),.agg (rp 7 (.c i6)),oI,.agg [.c i6,.c i6,.c i6,.c i6]],[oI,oI],0⟩
def T7:bW:=⟨[.agg (rp 7 (.c i6)),.agg (rp 7 (.c i6)),oI,oI],[oI,.agg [.c i6,.c i6,.c i6,.c i6]],0⟩
def T8:bW:=⟨[.agg (rp 7 (.c i6)),.agg (rp 7 (.c i6)),oI],[.agg [.c i6,.c i6,.c i6,.c i6,.c .b]],0⟩
def Ua:bW:=⟨[.agg [.c i6,.c i6,.c i6],oI],[.agg [.c i6,.c i6,.c i6]],0⟩
def Ub:bW:=⟨[.agg [.c i6,.c i6],.agg [.c i6,.c i6]],[oI],0⟩
def MN:bW:=⟨[.agg [.c i6,.c i6,.c i6,.c i6],oI,oI],[oB],0⟩
def CN:bW:=⟨[.agg [.c i6,.c i6],.agg [.c i6,.c i6],.agg [.c i6,.c i6,.c i6,.c i6]],[.one (.s 276 [i6,i6,i6])],0⟩
def Uc:bW:=⟨[.agg [.c i6,.c i6,.c i6,.c i6,.c .b],.agg [.c i6,.c i6,.c i6,.c i6],oI],[.agg [.c i6,.c i6,.c i6,.c i6]],0⟩
def Ud:bW:=⟨[.agg [.c i6,.c i6,.c i6],oI],[oB],0⟩
def Ue:bW:=⟨[.agg (rp 7 (.c i6)),.agg (rp 7 (.c i6)),oI,oI],[oI,.agg [.c i6,.c i6,.c i6,.c i6]],0⟩
def Uf:bW:=⟨[.agg (rp 9 (.c i6)++[.c .b]),.agg (rp 9 (.c i6)++[.c .b]),oB],[.agg (rp 9 (.c i6)++[.c .b])],0⟩
def Ug:bW:=⟨[.agg [.c i6,.c i6,.c i6]],[oB],0⟩
def Uh:bW:=⟨[.one (.s 30 (rp 7 (i6)))],[oI],0⟩
def Ui:bW:=⟨[.agg (rp 7 (.c i6)),.agg (rp 7 (.c i6)),.agg (rp 7 (.c i6)),oI,oI],[oI],0⟩
def Uj:bW:=⟨[.agg (rp 7 (.c i6)),.agg (rp 7 (.c i6)),.agg (rp 7 (.c i6)),oI,.agg [.c i6,.c i6,.c i6,.c i6]],[.one (.s 74 (rp 8 (i6)))],0⟩
def Uk:bW:=⟨[oI,.agg [.c i6,.c i6]],[.one (.s 146 [i6,i6])],0⟩
def Ul:bW:=⟨[oI,oI],[oB],0⟩
def Um:bW:=⟨[.ptr 3 [i6],oI,.ptr 3 [i6]],[oI],0⟩
def Un:bW:=⟨[.agg (rp 16 (.c i6)),.agg [.c i6,.c i6,.c i6,.c i6],oI],[.agg [.c i6,.c i6,.c i6,.c i6],oI],0⟩
def Uo:bW:=⟨[.agg (rp 7 (.c i6))],[oB],0⟩
def Up:bW:=⟨[oI],[.one (.c (.i .u64))],0⟩
def Uq:bW:=⟨[.one (.c (.i .u64)),.one (.c (.i .u64)),oB],[.agg [.c i6,.c (.i .u64)],oB],0⟩
def Ur:bW:=⟨[.agg [.c i6,.c (.i .u64)],oI],[.agg [.c i6,.c (.i .u64)],oI,oB],0⟩
def Us:bW:=⟨[.agg [.c i6,.c (.i .u64)]],[oI,oB],0⟩
def Ut:bW:=⟨[.agg [.c i6,.c (.i .u64)],oI],[.agg [.c i6,.c (.i .u64)],oB],0⟩
def Uu:bW:=⟨[oI],[.agg [.c i6,.c (.i .u64)]],0⟩
def Uv:bW:=⟨[.agg [.c i6,.c (.i .u64)]],[oI,oB],0⟩
def Uw:bW:=⟨[.agg (rp 7 (.c i6)),oI,oI,oI],[oI,oI],0⟩
def Ux:bW:=⟨[oI,oI],[oI],0⟩
def MH:bW:=⟨[.agg [.c i6,.c i6],.agg [.c i6,.c i6]],[.ptr 323 [i6,i6,i6,i6,.b,i6,i6,i6,.b,.b,i6,i6]],0⟩
def Uy:bW:=⟨[.ptr 323 [i6,i6,i6,i6,.b,i6,i6,i6,.b,.b,i6,i6]],[oI],0⟩
def MI:bW:=⟨[.ptr 323 [i6,i6,i6,i6,.b,i6,i6,i6,.b,.b,i6,i6]],[oI],0⟩
def MJ:bW:=⟨[.ptr 323 [i6,i6,i6,i6,.b,i6,i6,i6,.b,.b,i6,i6]],[oI],0⟩
def Uz:bW:=⟨[oI,oI],[oB],0⟩
def UA:bW:=⟨[.agg [.c i6,.c (.i .u64)],.agg [.c i6,.c (.i .u64)]],[.agg [.c i6,.c (.i .u64)],oB],0⟩
def UB:bW:=⟨[.agg (rp 7 (.c i6)),.agg (rp 7 (.c i6)),.agg (rp 7 (.c i6))],[oI],0⟩
def UC:bW:=⟨[.agg [.c i6,.c (.i .u64)]],[oI],0⟩
def UD:bW:=⟨[.agg [.c i6,.c (.i .u64)],.agg [.c i6,.c (.i .u64)]],[.agg [.c i6,.c (.i .u64)]],0⟩
def UE:bW:=⟨[.agg (rp 7 (.c i6)),.agg (rp 7 (.c i6)),.agg (rp 7 (.c i6)),.agg [.c i6,.c i6,.c i6,.c i6]],[.one (.s 344 [i6,i6,i6])],0⟩
def UF:bW:=⟨[.agg (rp 7 (.c i6)),.agg (rp 7 (.c i6)),.agg (rp 7 (.c i6))],[.agg (rp 22 (.c i6))],0⟩
def UG:bW:=⟨[.agg (rp 22 (.c i6))],[.agg [.c i6,.c (.i .u64),.c i6,.c (.i .u64),.c i6,.c (.i .u64),.c i6,.c i6,.c (.i .u64),.c i6,.c (.i .u64),.c i6,.c (.i .u64),.c i6,.c i6,.c (.i .u64),.c i6,.c (.i .u64),.c i6,.c (.i .u64),.c i6,.c i6,.c (.i .u64),.c i6,.c (.i .u64),.c i6,.c (.i .u64),.c i6,.c i6,.c (.i .u64),.c i6,.c (.i .u64),.c i6,.c (.i .u64),.c i6]],0⟩
def UH:bW:=⟨[.agg [.c i6,.c (.i .u64),.c i6,.c (.i .u64),.c i6,.c (.i .u64),.c i6],oI,oI],[.agg [.c i6,.c (.i .u64)]],0⟩
def UI:bW:=⟨[.agg [.c i6,.c (.i .u64),.c i6,.c (.i .u64),.c i6,.c (.i .u64),.c i6],.agg [.c i6,.c (.i .u64)]],[oI],0⟩
def UJ:bW:=⟨[.agg [.c .b,.c i6,.c i6,.c i6,.c i6,.c .b,.c i6,.c .b,.c .b,.c i6,.c i6,.c .b,.c .b,.c .b,.c .b]],[oB],0⟩
def UK:bW:=⟨[.agg (rp 8 (.c i6))],[oB],0⟩
def UL:bW:=⟨[.agg [.c i6,.c i6,.c i6,.c i6],oI],[.agg [.c i6,.c i6,.c i6,.c i6]],0⟩
def UM:bW:=⟨[.agg [.c i6,.c i6,.s 3 [i6],.s 3 [i6]],oI,oI],[.agg [.c i6,.c i6,.c i6,.c i6],oI,oB],0⟩
def UN:bW:=⟨[.agg [.c i6,.c i6,.c i6,.c i6],.agg [.c i6,.c i6,.c i6,.c i6],oI,oI],[.agg [.c i6,.c i6,.c i6,.c i6]],0⟩
def UO:bW:=⟨[.agg [.c i6,.c (.i .u64)]],[.agg [.c i6,.c (.i .u64)]],0⟩
def UP:bW:=⟨[.one (.c (.i .u64)),.one (.c (.i .u64)),.one (.c (.i .u64))],[.one (.c (.i .u64)),.one (.c (.i .u64))],0⟩
def UQ:bW:=⟨[.agg [.c i6,.c (.i .u64)],.agg [.c i6,.c (.i .u64)]],[.agg [.c i6,.c (.i .u64)],oB],0⟩
def Mc:bW:=⟨[.one (.c (.i .u64)),.one (.c (.i .u64)),.one (.c (.i .u64))],[.one (.c (.i .u64)),.one (.c (.i .u64))],0⟩
def UR:bW:=⟨(rp 6 (oI)),[oI,oI],0⟩
def US:bW:=⟨[oI,oI,.ptr 2 [i6],.ptr 2 [i6]],[oI],0⟩
def UT:bW:=⟨[oI,oI,oI,oI],[oI],0⟩
def UU:bW:=⟨[oI],[oI],0⟩
def MK:bW:=⟨[.ptr 323 [i6,i6,i6,i6,.b,i6,i6,i6,.b,.b,i6,i6],oI],[oI,oI],0⟩
def ML:bW:=⟨[.ptr 323 [i6,i6,i6,i6,.b,i6,i6,i6,.b,.b,i6,i6],oI],[oI],0⟩
def UW:bW:=⟨[.agg (rp 7 (.c i6)),.agg (rp 7 (.c i6)),.agg (rp 7 (.c i6))],[.one (.s 369 [i6,i6,i6,i6,i6])],0⟩
def UX:bW:=⟨[.agg [.c i6,.c i6,.c i6,.c i6,.c i6],oI,oI,oI],[oI,oI],0⟩
def UY:bW:=⟨[.agg (rp 22 (.c i6)),.agg [.c i6,.c i6,.c i6]],[.agg [.c i6,.c (.i .u64),.c i6,.c (.i .u64),.c i6,.c (.i .u64),.c i6]],0⟩
def UZ:bW:=⟨[oI,oI,oI],[oB],0⟩
def U0:bW:=⟨[oI],[.agg [.c i6,.c i6,.c i6,.c i6]],0⟩
def U1:bW:=⟨[oI,.agg [.c i6,.c i6,.c i6,.c i6],.agg [.c i6,.c i6,.c i6,.c i6],oI],[oI],0⟩
def Md:bW:=⟨[.one (.c (.i .u64)),.one (.c (.i .u64)),.one (.c (.i .u64))],[.one (.c (.i .u64)),.one (.c (.i .u64))],0⟩
def U2:bW:=⟨[.one (.c (.i .u64))],[oI],0⟩
def U3:bW:=⟨[.ptr 323 [i6,i6,i6,i6,.b,i6,i6,i6,.b,.b,i6,i6],.agg [.c i6,.c i6]],[oI,oI,oB],0⟩
def U4:bW:=⟨[.agg (rp 7 (.c i6)),.agg (rp 7 (.c i6))],[.agg [.c i6,.c i6,.c i6,.c i6,.c i6]],0⟩
def U5:bW:=⟨[.agg [.c i6,.c i6,.c i6,.c i6,.c i6],oI,oI],[oI],0⟩
def U6:bW:=⟨[oI,oI],[oI],0⟩
def U7:bW:=⟨[.agg (rp 22 (.c i6)),oI,oI],[.agg [.c i6,.c i6,.c i6]],0⟩
def U8:bW:=⟨[.agg [.c i6,.c i6,.c i6],.agg [.c i6,.c i6,.c i6]],[.agg [.c i6,.c (.i .u64)]],0⟩
def MC:bW:=⟨[.one (.c (.i .u64))],[oI],0⟩
def U9:bW:=⟨[.agg [.c i6,.c i6]],[oI,oI,oB],0⟩
def zr:bW:=⟨[.agg [.c i6,.c i6,.c i6,.c i6],.fn 106 [(2,.i64),(2,.i64),(2,.i64)]],[.one (.s 74 (rp 8 (i6)))],0⟩
def zt:bW:=⟨[.agg [.c i6,.c i6,.c i6,.c i6],.fn 150 [(2,.i64),(2,.i64)]],[.one (.s 74 (rp 8 (i6)))],0⟩
def vo:bW:=⟨[.agg (rp 7 (.c i6)),.agg (rp 7 (.c i6)),.fn 245 [(2,.i64),(2,.i64)]],[oI,.agg [.c i6,.c i6,.c i6,.c i6]],0⟩
def aW:List (FuncId×bW):=[(3,sg3),(4,sg4),(5,sg5),(6,sg6),(7,sg7),(8,sg8),(9,sg9),(10,acg),(11,ach),(12,Sl),(13,aci),(14,acj),(15,ack),(16,acm),(17,acn),(18,aco),(19,acp),(20,acq),(21,acr),(23,acs),(24,acu),(25,acv),(26,acw),(27,acx),(28,acy),(29,acz),(30,acA),(34,acB),(37,acC),(40,acD),(41,acE),(42,acF),(43,acG),(44,acH),(46,acI),(47,acJ),(55,acK),(56,acL),(57,acM),(59,acN),(64,acO),(65,X2),(66,acP),(67,acQ),(69,acR),(71,acS),(72,acT),(73,acU),(74,acV),(80,acW),(84,acX),(86,acY),(87,Yj),(88,acZ),(90,ac0),(91,ac1),(92,ac2),(93,ac3),(94,ac4),(99,ac5),(100,Ti),(101,Tj),(102,Tk),(103,Tl),(105,Tm),(106,Tn),(107,To),(108,Tp),(109,Tq),(110,Tr),(111,Ts),(112,Tt),(113,Tu),(114,Tv),(115,Tw),(117,Tx),(118,Ty),(119,Tz),(120,TA),(121,TB),(122,TC),(123,TD),(124,TE),(132,TF),(133,TG),(134,TH),(135,TI),(136,TJ),(137,TK),(139,TL),(140,Me),(141,TM),(143,TN),(144,TO),(145,TP),(146,Mg),(149,TQ),(150,TR),(151,TS),(152,TU),(153,TV),(154,TW),(155,TX),(156,TY),(157,TZ),(158,T0),(159,T4),(160,T5),(161,T6),(163,T7),(164,T8),(165,Ua),(166,Ub),(168,MN),(169,CN),(170,Uc),(171,Ud),(172,Ue),(173,Uf),(174,Ug),(175,Uh),(176,Ui),(177,Uj),(186,Uk),(187,Ul),(188,Um),(193,Un),(195,Uo),(196,Up),(197,Uq),(198,Ur),(199,Us),(200,Ut),(201,Uu),(202,Uv),(203,Uw),(204,Ux),(207,MH),(208,Uy),(210,MI),(211,MJ),(213,Uz),(214,UA),(215,UB),(216,UC),(220,UD),(221,UE),(222,UF),(223,UG),(224,UH),(225,UI),(232,UJ),(233,UK),(235,UL),(236,UM),(237,UN),(240,UO),(241,UP),(242,UQ),(243,Mc),(244,UR),(245,US),(246,UT),(247,UU),(250,MK),(251,ML),(252,UW),(253,UX),(254,UY),(262,UZ),(264,U0),(265,U1),(266,Md),(267,U2),(268,U3),(269,U4),(270,U5),(271,U6),(272,U7),(273,U8),(283,MC),(284,U9)]
def cB:kS:=⟨fun _=>none,false,[],[(30007,0,9),(46009,0,9),(93003,0,2),(94003,0,2),(91004,0,2),(144003,3,2),(262004,0,8),(74007,10,3),(74007,11,3)],[248,116,162,167,206,263,142,45,217,218,219,275,276,277,278,279,280,281,282,33,49,50,51,68,70,39,60,61,62,63,82,83,85,89,95,96,97,98,147,148,194,234,238,239],(some 58),(some 31),128,33,[(61003,([11],[])),(61005,([11],[])),(61007,([11],[])),(61013,([6],[])),(61015,([6,12],[4200])),(98003,([8],[])),(19001,([2],[])),(49006,([21],[])),(33014,([7],[])),(51008,([13],[]))],[],[(1,[0,255]),(2,[0,1])],none,(some 178),[123],none,[]⟩
def cO:List (FuncId×Nat):=[(104106,999999),(104150,999999),(205245,999999)]
def lG:List (Nat×oL):=[(9,⟨9,{cB with loops:=[(9004,⟨[],[],[],[],[]⟩)] },aW,sg9,cO⟩),
(56,⟨56,cB,aW,acL,cO⟩),
(37,⟨37,cB,aW,acC,cO⟩),
(23,⟨23,cB,aW,acs,cO⟩),
(41,⟨41,cB,aW,acE,cO⟩),
(65,⟨65,{cB with loops:=[(65003,⟨[],[],[],[],[]⟩)] },aW,X2,cO⟩),
(42,⟨42,cB,aW,acF,cO⟩),
(28,⟨28,cB,aW,acy,cO⟩),
(100,⟨100,cB,aW,Ti,cO⟩),
(66,⟨66,cB,aW,acP,cO⟩),
(43,⟨43,{cB with loops:=[(43005,⟨[],[(4,44,[i6,i6,i6,i6,i6])],[],[],[]⟩),(43010,⟨[],[(4,44,[i6,i6,i6,i6,i6])],[],[],[]⟩)] },aW,acG,cO⟩),
(29,⟨29,{cB with loops:=[(29003,⟨[],[(3,44,[i6,i6,i6,i6,i6])],[],[],[]⟩)] },aW,acz,cO⟩),
(47,⟨47,{cB with loops:=[(47005,⟨[],[(7,4,[.b])],[],[],[]⟩)] },aW,acJ,cO⟩),
(44,⟨44,{cB with loops:=[(44005,⟨[],[],[1],[],[]⟩)] },aW,acH,cO⟩),
(46,⟨46,cB,aW,acI,cO⟩),
(30,⟨30,{cB with loops:=[(30010,⟨[],[],[],[(9,104,[.s 3 i6,.s 4 (.b),.c i6])],[]⟩),(30017,⟨[],[],[19],[],[]⟩)] },aW,acA,cO⟩),
(101,⟨101,cB,aW,Tj,cO⟩),
(67,⟨67,{cB with gI:=true},aW,acQ,cO⟩),
(174,⟨174,cB,aW,Ug,cO⟩),
(195,⟨195,{cB with gI:=true},aW,Uo,cO⟩),
(149,⟨149,cB,aW,TQ,cO⟩),
(102,⟨102,cB,aW,Tk,cO⟩),
(151,⟨151,{cB with loops:=[(151003,⟨[],[],[],[],[]⟩),(151008,⟨[],[],[],[],[]⟩)] },aW,TS,cO⟩),
(150,⟨150,cB,aW,TR,cO⟩),
(104150,⟨104,{cB with loops:=[(104003,⟨[],[(5,74,iw)],[],[],[]⟩),(104006,⟨[],[(5,74,iw)],[],[],[]⟩)] },aW,zt,cO⟩),
(103,⟨103,cB,[(104,zt)]++aW,Tl,[(104,104150)]++cO⟩),
(107,⟨107,cB,aW,To,cO⟩),
(106,⟨106,cB,aW,Tn,cO⟩),
(104106,⟨104,{cB with loops:=[(104003,⟨[],[(5,74,iw)],[],[],[]⟩),(104006,⟨[],[(5,74,iw)],[],[],[]⟩)] },aW,zr,cO⟩),
(105,⟨105,cB,aW,Tm,cO⟩),
(69,⟨69,cB,[(104,zr)]++aW,acR,[(104,104106)]++cO⟩),
(109,⟨109,{cB with gI:=true},aW,Tq,cO⟩),
(155,⟨155,cB,aW,TX,cO⟩),
(139,⟨139,{cB with gI:=true},aW,TL,cO⟩),
(196,⟨196,{cB with gI:=true},aW,Up,cO⟩),
(240,⟨240,{cB with gI:=true},aW,UO,cO⟩),
(197,⟨197,{cB with gI:=true},aW,Uq,cO⟩),
(156,⟨156,cB,aW,TY,cO⟩),
(110,⟨110,cB,aW,Tr,cO⟩),
(157,⟨157,cB,aW,TZ,cO⟩),
(267,⟨267,cB,aW,U2,cO⟩),
(241,⟨241,{cB with gI:=true,loops:=[(241017,⟨[],[],[],[],[]⟩),(241024,⟨[],[],[],[],[]⟩)] },aW,UP,cO⟩),
(242,⟨242,{cB with gI:=true},aW,UQ,cO⟩),
(198,⟨198,{cB with gI:=true},aW,Ur,cO⟩),
(199,⟨199,{cB with gI:=true},aW,Us,cO⟩),
(158,⟨158,{cB with gI:=true},aW,T0,cO⟩),
(111,⟨111,cB,aW,Ts,cO⟩),
(71,⟨71,{cB with loops:=[(71003,⟨[(21,0),(21,1),(22,0),(22,1)],[],[],[],[]⟩)] },aW,acS,cO⟩),
(159,⟨159,cB,aW,T4,cO⟩),
(200,⟨200,{cB with gI:=true},aW,Ut,cO⟩),
(201,⟨201,{cB with gI:=true},aW,Uu,cO⟩),
(202,⟨202,{cB with loops:=[(202004,⟨[],[],[],[],[]⟩)] },aW,Uv,cO⟩),
(160,⟨160,cB,aW,T5,cO⟩),
(161,⟨161,cB,aW,T6,cO⟩),
(246,⟨246,{cB with gI:=true},aW,UT,cO⟩),
(245,⟨245,cB,aW,US,cO⟩),
(205245,⟨205,cB,aW,vo,cO⟩),
(163,⟨163,cB,[(205,vo)]++aW,T7,[(205,205245)]++cO⟩),
(204,⟨204,{cB with gI:=true},aW,Ux,cO⟩),
(244,⟨244,{cB with gI:=true},aW,UR,cO⟩),
(203,⟨203,{cB with gI:=true},aW,Uw,cO⟩),
(112,⟨112,{cB with gI:=true,loops:=[(112012,⟨[],[(12,74,iw)],[32],[],[]⟩),(112017,⟨[],[(12,74,iw)],[],[],[]⟩),(162003,⟨[],[],[32],[],[]⟩),(162008,⟨[],[],[32],[],[]⟩)] },aW,Tt,cO⟩),
(164,⟨164,cB,aW,T8,cO⟩),
(165,⟨165,cB,aW,Ua,cO⟩),
(210,⟨210,cB,aW,MI,cO⟩),
(211,⟨211,cB,aW,MJ,cO⟩),
(247,⟨247,cB,aW,UU,cO⟩),
(250,⟨250,cB,aW,MK,cO⟩),
(251,⟨251,cB,aW,ML,cO⟩),
(284,⟨284,cB,aW,U9,cO⟩),
(268,⟨268,cB,aW,U3,cO⟩),
(207,⟨207,cB,aW,MH,cO⟩),
(208,⟨208,cB,aW,Uy,cO⟩),
(166,⟨166,cB,aW,Ub,cO⟩),
(168,⟨168,cB,aW,MN,cO⟩),
(170,⟨170,cB,aW,Uc,cO⟩),
(213,⟨213,cB,aW,Uz,cO⟩),
(171,⟨171,cB,aW,Ud,cO⟩),
(172,⟨172,cB,[(205,vo)]++aW,Ue,[(205,205245)]++cO⟩),
(113,⟨113,{cB with loops:=[(113012,⟨[],[(105,74,iw)],[],[],[]⟩),(113018,⟨[(7214,0),(7214,1),(4139,0),(4139,1)],[(116,74,iw)],[],[],[]⟩)] },aW,Tu,cO⟩),
(72,⟨72,cB,aW,acT,cO⟩),
(114,⟨114,{cB with loops:=[(114004,⟨[],[],[],[],[]⟩),(114010,⟨[],[],[],[],[]⟩)] },aW,Tv,cO⟩),
(115,⟨115,{cB with loops:=[(115003,⟨[],[(5,279,[i6,i6,i6,i6,i6,i6,i6,i6,i6,.b])],[],[],[]⟩)] },aW,Tw,cO⟩),
(117,⟨117,{cB with loops:=[(117005,⟨[],[(4,76,iw),(5,4,[.b])],[],[],[]⟩)] },aW,Tx,cO⟩),
(173,⟨173,{cB with gI:=true},aW,Uf,cO⟩),
(73,⟨73,{cB with gI:=true,loops:=[(73005,⟨[],[(9,279,[i6,i6,i6,i6,i6,i6,i6,i6,i6,.b])],[],[],[]⟩),(116002,⟨[],[(0,279,[i6,i6,i6,i6,i6,i6,i6,i6,i6,.b])],[],[],[]⟩),(116008,⟨[],[(6,279,[i6,i6,i6,i6,i6,i6,i6,i6,i6,.b])],[],[],[]⟩)] },aW,acU,cO⟩),
(118,⟨118,{cB with loops:=[(118004,⟨[],[],[],[],[]⟩)] },aW,Ty,cO⟩),
(119,⟨119,cB,aW,Tz,cO⟩),
(214,⟨214,{cB with gI:=true},aW,UA,cO⟩),
(215,⟨215,cB,aW,UB,cO⟩),
(216,⟨216,cB,aW,UC,cO⟩),
(175,⟨175,{cB with loops:=[(175003,⟨[(1,0),(1,1)],[],[],[],[]⟩)] },aW,Uh,cO⟩),
(121,⟨121,cB,aW,TB,cO⟩),
(120,⟨120,cB,aW,TA,cO⟩),
(220,⟨220,cB,aW,UD,cO⟩),
(176,⟨176,cB,aW,Ui,cO⟩),
(269,⟨269,cB,aW,U4,cO⟩),
(252,⟨252,cB,aW,UW,cO⟩),
(270,⟨270,cB,aW,U5,cO⟩),
(271,⟨271,cB,aW,U6,cO⟩),
(253,⟨253,cB,aW,UX,cO⟩),
(221,⟨221,{cB with loops:=[(221008,⟨[],[(12,344,[i6,i6,i6])],[],[],[]⟩),(221012,⟨[],[],[],[],[]⟩)] },aW,UE,cO⟩),
(222,⟨222,cB,aW,UF,cO⟩),
(272,⟨272,cB,aW,U7,cO⟩),
(273,⟨273,cB,aW,U8,cO⟩),
(254,⟨254,cB,aW,UY,cO⟩),
(223,⟨223,cB,aW,UG,cO⟩),
(224,⟨224,cB,aW,UH,cO⟩),
(225,⟨225,cB,aW,UI,cO⟩),
(177,⟨177,{cB with gI:=true,loops:=[(177007,⟨[],[(13,74,iw)],[],[],[]⟩),(177011,⟨[(92,0),(92,1),(92,2),(92,3),(92,4),(92,5),(92,6),(92,7),(92,8),(92,9)],[],[],[],[]⟩),(177016,⟨[(92,0),(92,1),(92,2),(92,3),(92,4),(92,5),(92,6),(92,7),(92,8),(92,9)],[(13,74,iw)],[],[],[]⟩),(177021,⟨[(96,3),(96,4),(96,5),(96,6),(106,3),(106,4),(106,5),(106,6),(116,3),(116,4),(116,5),(116,6)],[],[],[],[]⟩),(177027,⟨[(92,0),(92,1),(92,2),(92,3),(92,4),(92,5),(92,6),(92,7),(92,8),(92,9)],[],[],[],[]⟩)] },aW,Uj,cO⟩),
(122,⟨122,{cB with loops:=[(122003,⟨[],[(3,74,iw)],[],[],[]⟩)] },aW,TC,cO⟩),
(123,⟨123,{cB with loops:=[(123004,⟨[(22,0),(22,1),(22,2)],[(3,74,iw)],[],[],[]⟩)] },aW,TD,cO⟩),
(124,⟨124,{cB with loops:=[(124003,⟨[],[(3,74,iw)],[],[],[]⟩)] },aW,TE,cO⟩),
(74,⟨74,cB,aW,acV,cO⟩),
(152,⟨152,cB,aW,TU,cO⟩),
(153,⟨153,cB,aW,TV,cO⟩),
(154,⟨154,cB,aW,TW,cO⟩),
(108,⟨108,cB,aW,Tp,cO⟩),
(18,⟨18,{cB with loops:=[(18004,⟨[(4703,99),(4703,100),(4703,101),(4703,102),(4703,103)],[],[],[],[(4703,102,74,iw)]⟩),(33003,⟨[],[],[5736,5741],[],[]⟩),(49002,⟨[],[],[],[],[]⟩),(51004,⟨[],[],[5741,5746,5747],[],[]⟩)] },aW,aco,cO⟩),
(186,⟨186,{cB with loops:=[(186003,⟨[],[(5,146,[i6,i6])],[],[],[]⟩)] },aW,Uk,cO⟩),
(132,⟨132,cB,aW,TF,cO⟩),
(133,⟨133,cB,aW,TG,cO⟩),
(80,⟨80,cB,aW,acW,cO⟩),
(57,⟨57,{cB with loops:=[(57007,⟨[],[],[],[],[]⟩)] },aW,acM,cO⟩),
(59,⟨59,cB,aW,acN,cO⟩),
(135,⟨135,cB,aW,TI,cO⟩),
(136,⟨136,cB,aW,TJ,cO⟩),
(137,⟨137,{cB with gI:=true},aW,TK,cO⟩),
(84,⟨84,{cB with loops:=[(84006,⟨[],[],[26,25],[],[]⟩),(84010,⟨[],[],[26,25],[],[]⟩)] },aW,acX,cO⟩),
(86,⟨86,{cB with gI:=true,loops:=[(86003,⟨[],[],[],[],[]⟩)] },aW,acY,cO⟩),
(88,⟨88,cB,aW,acZ,cO⟩),
(187,⟨187,cB,aW,Ul,cO⟩),
(143,⟨143,cB,aW,TN,cO⟩),
(141,⟨141,{cB with loops:=[(141009,⟨[],[],[],[],[]⟩)] },aW,TM,cO⟩),
(90,⟨90,cB,aW,ac0,cO⟩),
(91,⟨91,cB,aW,ac1,cO⟩),
(144,⟨144,cB,aW,TO,cO⟩),
(188,⟨188,cB,aW,Um,cO⟩),
(145,⟨145,cB,aW,TP,cO⟩),
(92,⟨92,cB,aW,ac2,cO⟩),
(93,⟨93,cB,aW,ac3,cO⟩),
(94,⟨94,cB,aW,ac4,cO⟩),
(134,⟨134,{cB with loops:=[(134005,⟨[],[(49,3,[i6])],[],[],[]⟩)] },aW,TH,cO⟩),
(193,⟨193,cB,aW,Un,cO⟩),
(232,⟨232,cB,aW,UJ,cO⟩),
(233,⟨233,cB,aW,UK,cO⟩),
(235,⟨235,cB,aW,UL,cO⟩),
(264,⟨264,cB,aW,U0,cO⟩),
(236,⟨236,cB,aW,UM,cO⟩),
(265,⟨265,cB,aW,U1,cO⟩),
(237,⟨237,cB,aW,UN,cO⟩),
(262,⟨262,cB,aW,UZ,cO⟩),
(24,⟨24,{cB with loops:=[(95003,⟨[],[],[4200,4201,3],[],[]⟩),(148003,⟨[],[],[4718,4717,4205,4204],[],[]⟩)],Hp:=[99],Ff:=(some (94,33)) },aW,acu,cO⟩),
(12,⟨12,{cB with loops:=[(12003,⟨[(96,0),(96,1),(96,2),(96,3),(96,4),(96,5),(96,6),(96,7),(96,8),(96,9),(96,10),(96,11),(96,12),(96,13),(96,14),(96,15),(96,16),(96,17),(96,18),(96,19),(96,20),(96,21),(96,22),(96,23),(96,24),(96,25),(96,26),(96,27),(96,28),(96,29),(96,30),(96,31),(96,32),(96,33),(96,34),(96,35),(96,36),(96,37),(96,38),(96,39),(96,40),(96,41),(96,42),(96,43),(96,44),(96,45),(96,46),(96,47),(96,48),(96,49),(96,50),(96,51),(96,52),(96,53),(96,54),(96,55),(96,56),(96,57),(96,58),(96,59),(96,60),(96,61),(96,62),(96,63),(96,64),(96,65),(96,66),(96,67),(96,68),(96,69),(96,70),(96,71),(96,72),(96,73),(96,74),(96,75),(96,76),(96,77),(96,78),(96,79),(96,80),(96,81),(96,82),(96,83),(96,84),(96,85),(96,86),(96,87),(96,88),(96,89),(96,90),(96,91),(96,92),(96,93)],[],[63,62,18,17,6,5],[],[]⟩)] },aW,Sl,cO⟩),
(55,⟨55,cB,aW,acK,cO⟩),
(10,⟨10,{cB with inl:=[248,116,162,167,206,263,142,45,217,218,219,275,276,277,278,279,280,281,282,33,49,50,51,68,70,39,60,61,62,63,82,83,85,89,95,96,97,98,147,148,194,234,238,239,22,36,35,52,75,125,53,76,54,77,129,180,78,79,130] },aW,acg,cO⟩),
(11,⟨11,cB,aW,ach,cO⟩),
(21,⟨21,cB,aW,acr,cO⟩),
(13,⟨13,cB,aW,aci,cO⟩),
(14,⟨14,{cB with loops:=[(14003,⟨[],[],[],[(5,85,[.c i6,.s 3 i6])],[]⟩)] },aW,acj,cO⟩),
(25,⟨25,cB,aW,acv,cO⟩),
(15,⟨15,{cB with loops:=[(15003,⟨[],[(3,3,[i6])],[],[],[]⟩)] },aW,ack,cO⟩),
(26,⟨26,{cB with loops:=[(26004,⟨[],[],[],[],[]⟩),(26009,⟨[],[],[],[],[]⟩)] },aW,acw,cO⟩),
(16,⟨16,cB,aW,acm,cO⟩),
(3,⟨3,{cB with loops:=[(3012,⟨[],[],[],[],[]⟩)] },aW,sg3,cO⟩),
(99,⟨99,cB,aW,ac5,cO⟩),
(64,⟨64,{cB with loops:=[(64004,⟨[],[(4,146,[i6,i6])],[],[],[]⟩),(64008,⟨[],[(4,146,[i6,i6])],[],[],[]⟩),(64011,⟨[],[(4,146,[i6,i6])],[],[],[]⟩)] },aW,acO,cO⟩),
(40,⟨40,{cB with loops:=[(40007,⟨[],[],[],[],[]⟩)] },aW,acD,cO⟩),
(27,⟨27,{cB with loops:=[(27004,⟨[],[],[],[],[]⟩)] },aW,acx,cO⟩),
(17,⟨17,cB,aW,acn,cO⟩),
(4,⟨4,{cB with loops:=[(4006,⟨[(97,0),(97,1),(97,2),(97,3)],[],[],[],[]⟩)] },aW,sg4,cO⟩),
(5,⟨5,{cB with loops:=[(5008,⟨[],[],[],[],[]⟩),(5012,⟨[],[],[],[],[]⟩)] },aW,sg5,cO⟩),
(19,⟨19,{cB with loops:=[(148003,⟨[],[],[4718,4717,4205,4204],[],[]⟩)],inl:=[248,116,162,167,206,263,142,45,217,218,219,275,276,277,278,279,280,281,282,33,49,50,51,68,70,39,60,61,62,63,82,83,85,89,95,96,97,98,147,148,194,234,238,239,24,21] },aW,acp,cO⟩),
(6,⟨6,cB,aW,sg6,cO⟩),
(34,⟨34,{cB with loops:=[(34004,⟨[],[],[],[],[]⟩)] },aW,acB,cO⟩),
(20,⟨20,cB,aW,acq,cO⟩),
(7,⟨7,cB,aW,sg7,cO⟩),
(8,⟨8,cB,aW,sg8,cO⟩)]
def sgt:List (Nat×bW):=[(9,sg9),(56,acL),(37,acC),(23,acs),(41,acE),(65,X2),(42,acF),(28,acy),(100,Ti),(66,acP),(43,acG),(29,acz),(47,acJ),(44,acH),(46,acI),(30,acA),(101,Tj),(67,acQ),(174,Ug),(195,Uo),(149,TQ),(102,Tk),(151,TS),(150,TR),(104150,zt),(103,Tl),(107,To),(106,Tn),(104106,zr),(105,Tm),(69,acR),(109,Tq),(155,TX),(139,TL),(196,Up),(266,Md),(240,UO),(197,Uq),(156,TY),(110,Tr),(157,TZ),(283,MC),(267,U2),(241,UP),(242,UQ),(198,Ur),(199,Us),(158,T0),(111,Ts),(71,acS),(159,T4),(243,Mc),(200,Ut),(201,Uu),(202,Uv),(160,T5),(161,T6),(246,UT),(245,US),(205245,vo),(163,T7),(204,Ux),(244,UR),(203,Uw),(112,Tt),(164,T8),(165,Ua),(210,MI),(211,MJ),(247,UU),(250,MK),(251,ML),(284,U9),(268,U3),(207,MH),(208,Uy),(166,Ub),(168,MN),(169,CN),(170,Uc),(213,Uz),(171,Ud),(172,Ue),(113,Tu),(72,acT),(114,Tv),(115,Tw),(117,Tx),(173,Uf),(73,acU),(118,Ty),(119,Tz),(214,UA),(215,UB),(216,UC),(175,Uh),(121,TB),(120,TA),(220,UD),(176,Ui),(269,U4),(252,UW),(270,U5),(271,U6),(253,UX),(221,UE),(222,UF),(272,U7),(273,U8),(254,UY),(223,UG),(224,UH),(225,UI),(177,Uj),(122,TC),(123,TD),(124,TE),(74,acV),(152,TU),(153,TV),(154,TW),(108,Tp),(18,aco),(186,Uk),(132,TF),(133,TG),(80,acW),(57,acM),(59,acN),(135,TI),(136,TJ),(137,TK),(84,acX),(86,acY),(87,Yj),(140,Me),(88,acZ),(187,Ul),(143,TN),(141,TM),(90,ac0),(91,ac1),(144,TO),(188,Um),(145,TP),(92,ac2),(93,ac3),(94,ac4),(134,TH),(146,Mg),(193,Un),(232,UJ),(233,UK),(235,UL),(264,U0),(236,UM),(265,U1),(237,UN),(262,UZ),(24,acu),(12,Sl),(55,acK),(10,acg),(11,ach),(21,acr),(13,aci),(14,acj),(25,acv),(15,ack),(26,acw),(16,acm),(3,sg3),(99,ac5),(64,acO),(40,acD),(27,acx),(17,acn),(4,sg4),(5,sg5),(19,acp),(6,sg6),(34,acB),(20,acq),(7,sg7),(8,sg8)]
def qX(k:Nat):Option bW:=lN k sgt
end Go.Proofs.YtohebioanhliiaaGreatDoor.av
namespace Go.Sx
def Cn.a(c:Cn)(ks:List Nat)(x:A):Cn:={c with args:=ks.foldl (fun l k=>l.set k x) c.args}
def Cn.r(c:Cn)(ks:List Nat)(x:A):Cn:={c with res:=ks.foldl (fun l k=>l.set k x) c.res}
def Cn.p(c:Cn)(ps:List BE):Cn:={c with pre:=c.pre++ps}
def Cn.q(c:Cn)(ps:List BE):Cn:={c with post:=c.post++ps}
def L7:A:=.i (-268435456) 268435456
def P36:A:=.i (-68719476736) 68719476736
def B8:A:=.i 0 255
def B1:A:=.i 0 100
def Cn.win(c:Cn)(k:Nat):Cn:=((c.a [k,k+1] L7).a [k+2] (.i 0 16777215)).a [k+3,k+4,k+5,k+6] B8
def Cn.W6(c:Cn)(k:Nat):Cn:=((c.r [k,k+1] L7).r [k+2] (.i 0 16777215)).r [k+3,k+4,k+5,k+6] B8
def Cn.xX(c:Cn)(k:Nat):Cn:=c.a [k,k+1,k+2,k+3] B1
def rr(j:Nat):IE:=.v (R0+j)
def rb(j:Nat):BE:=.v (R0+j)
def imp(a b:BE):BE:=.or (.not a) b
def mU(lo:Int)(x:IE)(hi:Int):List BE:=[.le (.c lo) x,.le x (.c hi)]
def N0:Int:=1099511627776
def A.cap:A->A
 |.l a none cs=>.l a (some N0) cs
 |x=>x
def H9:Int×Int:=(-268435456,268435456)
def Pc:A:=.i (-268500000) 268500000
def fF:List BE->BE
 | []=>.c true
 | [p]=>p
 |p::ps=>.and p (fF ps)
def Eu(k:Nat):BE:=fF (mU (-268435456) (.v k) 268435456++mU (-268435456) (.v (k+1)) 268435456++mU 0 (.v (k+2)) 16777215++[3,4,5,6].flatMap fun j=>mU 0 (.v (k+j)) 255)
def Ke(k:Nat):BE:=fF (mU 0 (.v k) 65535++mU 1 (.v (k+1)) 256++mU 0 (.v (k+2)) 1099511627776)
def cI:Int×Int:=(mn,mx)
def qZ:List (Int×Int):=[cI,cI,cI,cI,cI,cI,cI,cI]
def H':List (Int×Int):=[cI,cI,cI,cI,cI,cI,cI,cI,cI,(0,1)]
def Ia:List (Int×Int):=[H9,H9,(0,16777215),(0,255),(0,255),(0,255),(0,255)]
def aea:List (Int×Int):=[H9,H9,(-536870912,536870912),(-536870912,536870912),(0,1)]
def wY:A:=.l 1 (some 1) [(-268500000,268500000),(-268500000,268500000),(-268500000,268500000),(-268500000,268500000),(0,1),(0,1),(-1200000,1200000),(-1200000,1200000),(0,1),(0,1),(-1200000,1200000),(-1200000,1200000)]
def Y3(k:Nat):List BE:=[.le (.min (.v k) (.c 0)) (rr 0),.le (rr 0) (.max (.v (k+2)) (.c 0)),.le (.min (.v (k+1)) (.c 0)) (rr 1),.le (rr 1) (.max (.v (k+3)) (.c 0)),.le (.min (.v k) (.c 0)) (rr 2),.le (rr 2) (.max (.v (k+2)) (.c 0)),.le (.min (.v (k+1)) (.c 0)) (rr 3),.le (rr 3) (.max (.v (k+3)) (.c 0))]
def M28:A:=.i (-268435456) 268435456
def stN(n:Int):A:=.l n (some 8) (List.replicate 16 (-268435456,268435456))
def Y4:A:=stN 1
def stQ:BE:=fF (mU 0 (rr 0) 1++mU 1 (.len (R0+1)) 8++mU 1 (.len (R0+2)) 8)
def aeb:List (Int×Int):=[(-68719476736,68719476736),(-68719476736,68719476736),(-68719476736,68719476736),(-68719476736,68719476736),(0,255),(0,255),(0,255),(0,255)]
abbrev aI:A:=.i mn mx
def Rt:List A:=[aI,B1,B1,.l 0 (some 10000) [cI],.l 0 (some 10000) [cI],aI,aI,aI,aI,aI,aI,aI,aI,aI,aI,Y4,Y4]++(List.replicate 6 [.i 3 3,aI,aI,aI,aI]).flatten++[.b,.b,.b,.b,.b,.b,B8,B8,B8,B8,.b,.b,aI,.l 0 (some 256) aeb,.l 0 (some 256) [(0,1)],
 aI,.b,.b,aI,aI,aI,aI,aI,aI,aI,.b,aI,.b,aI,aI,.b,.b,.b,aI,aI,aI,aI,.b,aI,.b,.b,aI,aI,.b,.b,.b,.b]
def Ru(o:Nat):List BE:=[.eq (.len (o+3)) (.mul (.v (o+1)) (.v (o+2))),.eq (.len (o+4)) (.mul (.v (o+1)) (.v (o+2))),.eq (.len (o+60)) (.len (o+61))]
def Cn.pipe(c:Cn):Cn:={c with args:=Rt++c.args.drop 94,pre:=c.pre++Ru 0}
def Cn.Rv(c:Cn):Cn:={c with res:=Rt++c.res.drop 94,post:=c.post++Ru R0}
def aec:List (Nat×Nat):=[(1,2),(2,4),(3,1),(4,1),(5,4),(6,5),(7,1),(8,16),(9,16),(10,0),(11,0),(12,0),(13,6),(14,4),(15,1),(16,1),(17,4),(18,0),(19,1),(20,3),(21,2),(22,1),(23,2),(24,2),(25,3),(26,3),(27,3),(28,4),(29,2),(30,4),(31,16),(32,1)]
def aaS:List BE:=imp (rb 1) (fF (mU 1 (.v 0) 32))::imp (.eq (.v 0) (.c 13)) (fF [.eq (.get R0 (.c 0) 0) (.c 0),.eq (.get R0 (.c 0) 1) (.c 5)])::aec.map fun x=>imp (.and (.eq (.v 0) (.c x.1)) (rb 1)) (.eq (.len R0) (.c x.2))
def Kf(l:Nat):List BE:=.eq (.len l) (.c 2)::(mU 1 (.get l (.c 0) 0) 1024++mU 1 (.get l (.c 1) 0) 1024)
def aaT(l:Nat):List BE:=(List.range 4).flatMap fun(j:Nat)=>mU 0 (.get l (.c j) 0) 255
def aiT(k:Nat)(c:Cn):Cn:=match k with
 |100=>c.a [1] (.i 0 4611686018427387904)
 |42=>c.q (Y3 0++Y3 4++[.le (rr 0) (rr 2),.le (rr 1) (rr 3)])
 |65=>c.q [imp (rb 0) (.and (.lt (.v 0) (.v 2)) (.lt (.v 1) (.v 3)))]
 |151=>((c.a [0,1] L7).a [7,8] B1).a [9] (.i 0 67108864)
 |150=>(((c.a [0,1] B1).a [2] (.l 7 (some 7) [H9])).a [3] (.l 1 (some 1) [(0,8192)])).r [0,1] B1
 |106=>(((c.a [0,1] B1).a [2] (.l 7 (some 7) [H9])).a [3] (.l 1 (some 1) [(mn,mx)])).a [4] (.l 1 (some 1) [(1,64)])
 |104150=>(((c.xX 0).r [0] (.l 0 (some 10000) qZ)).a [4] (.l 7 (some 7) [H9])).a [5] (.l 1 (some 1) [(0,8192)])
 |104106=>((((c.xX 0).r [0] (.l 0 (some 10000) qZ)).a [4] (.l 7 (some 7) [H9])).a [5] (.l 1 (some 1) [(mn,mx)])).a [6] (.l 1 (some 1) [(1,64)])
 |103=>((c.win 0).a [7] (.i 1 64)).xX 8 |>.r [0] (.l 0 (some 10000) qZ)
 |107=>(c.a [1] (.i 1 2147483648)).a [0] (.i (-4611686018427387904) 4611686018427387904)
 |105=>(c.win 0).a [7] (.i 1 64)
 |69=>(c.xX 9).r [0] (.l 0 (some 10000) qZ)
 |166=>c.a [0,1,2,3] Pc |>.r [0] (.i (-1) 4000000)
 |160=>(((c.win 0).win 7).a [14] (.i 1 64)).r [0,1] L7 |>.r [2,3] (.i (-536870912) 536870912) |>.r [4] (.i 0 576460752303423488) |>.r [5,6] (.i (-1) mx)
 |202=>c.r [0] (.i 0 mx)
 |161=>(((c.win 0).win 7).a [14] (.i 1 64)).xX 15 |>.r [0,1] (.i (-1048707) 1048707) |>.q [.le (.v 16) (rr 0),.le (rr 1) (.v 18)]
 |245=>c.a [2,3] (.l 1 (some 1) [(mn,mx)])
 |205245=>((c.win 0).win 7).a [14,15] (.l 1 (some 1) [(mn,mx)])
 |163=>(((c.win 0).win 7).a [14,15] (.i (-1000) 1000))
 |172=>(((c.win 0).win 7).a [14,15] (.i (-16777216) 16777216))
 |204=>c.a [1] (.i 1 2147483648) |>.q [imp (fF (mU (-1073741824) (.v 0) 1073741824)) (fF ([.le (.mul (.v 1) (rr 0)) (.v 0),.lt (.v 0) (.add (.mul (.v 1) (rr 0)) (.v 1))]++mU (-1073741825) (rr 0) 1073741824))]
 |244=>(c.a [0] (.i (-536870912) 536870912)) |>.q [imp (.le (rr 0) (rr 1)) (.and (.le (.v 4) (rr 0)) (.le (rr 1) (.v 5)))]
 |203=>(c.a [0,1] L7).a [2,3] (.i (-536870912) 536870912) |>.q [imp (.le (rr 0) (rr 1)) (.and (.le (.v 8) (rr 0)) (.le (rr 1) (.v 9)))]
 |164=>(((c.win 0).win 7).a [14] (.i 1 64)).r [0,1,2,3] Pc
 |165=>((c.a [1] (.i 1 256)).a [2] (.i 0 1099511627776)).a [3] (.i (-1) 2147483648) |>.r [2] (.i (-1) 4096) |>.q [.eq (rr 0) (.v 0),.eq (rr 1) (.v 1)]
 |207=>c.a [0,1,2,3] Pc |>.p [.not (.and (.eq (.v 0) (.v 2)) (.eq (.v 1) (.v 3)))] |>.r [0] wY |>.q [.not (.eq (.get R0 (.c 0) 2) (.get R0 (.c 0) 0))]
 |208=>(c.a [0] wY).r [0] (.i (-1) 4000000)
 |209=>(c.a [0] wY).a [1,2] (.i (-16777216) 16777216)
 |210=>(c.a [0] wY).r [0] (.i 0 2500000)
 |211=>(c.a [0] wY).r [0] (.i (-1) 1)
 |247=>(c.a [0] Pc).r [0] (.i (-1100000) 1100000)
 |284=>c.a [0,1] Pc |>.r [0,1] (.i (-1200000) 1200000)
 |268=>(c.a [0] wY).a [1,2] Pc |>.r [0,1] (.i (-1200000) 1200000)
 |250=>((c.a [0] wY).a [1] (.i (-8388608) 8388608)).p [.not (.eq (.get 0 (.c 0) 2) (.get 0 (.c 0) 0))] |>.r [1] (.i 1 549755813888) |>.r [0] (.i (-4611686018427387904) 4611686018427387904)
 |251=>((c.a [0] wY).a [1] (.i (-8388608) 8388608)).p [.not (.eq (.get 0 (.c 0) 2) (.get 0 (.c 0) 0))] |>.r [0] (.i (-4611686018427387905) 4611686018427387904)
 |170=>(c.a [5,6,7,8] B1).a [9] (.i 1 64) |>.r [0,1,2,3] (.i (-64) 100)
 |169=>(c.a [0,1,2,3] Pc).a [4,5,6,7] (.i (-64) 100) |>.r [0] (.l 0 (some 200) [(0,4000000),(-64,100),(-64,100)])
 |174=>c.q [imp (rb 0) (Ke 0)]
 |171=>c.a [1] (.i 1 256) |>.a [2] (.i 0 1099511627776) |>.a [3] (.i 0 4000000)
 |195=>c.q [imp (rb 0) (Eu 0)]
 |149=>c.q [imp (rb 0) (fF [Eu 0,Eu 7,.le (.c 1) (.v 14),.le (.v 14) (.c 64),Ke 15])]
 |159=>c.q [imp (rb 0) (fF [Eu 0,Eu 7,.le (.c 1) (.v 14),.le (.v 14) (.c 64)])]
 |102=>c.q [imp (rb 0) (fF [Eu 0,.le (.c 1) (.v 7),.le (.v 7) (.c 64),.le (.c 0) (.v 8),.le (.v 8) (.c 2)])]
 |112=>(c.xX 15).r [0] (.l 0 (some 10000) qZ)
 |113=>(c.xX 19).r [0] (.l 0 (some 12800) qZ)
 |72=>(c.xX 32).r [0] (.l 0 (some 12800) qZ)
 |115=>c.p [.eq (.len 0) (.len 1)] |>.a [0] (.l 0 (some 256) (H'.take 8)) |>.a [1] (.l 0 (some 256) [(0,1)]) |>.r [0] (.l 0 (some 256) H') |>.q [.eq (.len R0) (.len 0)]
 |117=>(c.a [0] (.l 0 (some 131072) H')).q [.eq (.len R0) (.len 0),.eq (.len (R0+1)) (.len 0)] |>.r [0] (.l 0 (some 131072) (H'.take 8)) |>.r [1] (.l 0 (some 131072) [(0,1)])
 |114=>c.q [imp (rb 0) (fF [.le (.c 3) (.len 0),.le (.len 0) (.c 256),.eq (.len 1) (.len 0),.le (.len 2) (.c 9)])]
 |73=>c.r [0] (.l 0 (some 131072) (H'.take 8)) |>.r [1] (.l 0 (some 131072) [(0,1)]) |>.q [.eq (.len (R0+1)) (.len R0)]
 |118=>c.a [0] (.l 0 (some 131072) Ia) |>.a [1] (.l 0 (some 131072) [(0,1)]) |>.q [imp (rb 0) (fF [.le (.c 3) (.len 0),.eq (.len 1) (.len 0)])]
 |215=>(((c.a [0,1,7,8,14,15] L7))).r [0] (.i (-1152921504606846976) 1152921504606846976)
 |175=>c.a [0] (.l 0 (some 131072) Ia)
 |121=>c.a [0] (.l 0 (some 131072) Ia)
 |120=>c.a [0] (.l 0 (some 131072) Ia)
 |176=>((c.win 0).win 7).win 14 |>.a [21] (.i (-65536) 65536) |>.a [22] (.i (-16777216) 16777216)
 |269=>c.a [0,1,7,8] L7 |>.r [0,1] L7 |>.r [2,3] (.i (-536870912) 536870912) |>.r [4] (.i 0 1)
 |252=>c.a [0,1,7,8,14,15] L7 |>.r [0] (.l 0 (some 3) aea)
 |270=>c.a [0,1] L7 |>.a [2,3] (.i (-536870912) 536870912) |>.a [5,6] (.i 0 100) |>.r [0] (.i (-576460752303423488) 576460752303423488)
 |271=>(c.a [1] (.i 1 1152921504606846976)).a [0] (.i (-4611686018427387904) 4611686018427387904) |>.r [0] (.i (-4611686018427387905) 4611686018427387904)
 |253=>c.a [0,1] L7 |>.a [2,3] (.i (-536870912) 536870912) |>.a [4] (.i 0 1) |>.a [5] (.i 0 100) |>.q [imp (.lt (rr 0) (rr 1)) (.and (.le (.v 6) (rr 0)) (.le (rr 1) (.v 7)))] |>.a [6,7] (.i (-4611686018427387905) 4611686018427387905) |>.r [0,1] (.i (-4611686018427387905) 4611686018427387905)
 |221=>c.a [0,1,7,8,14,15] L7 |>.xX 21 |>.r [0] (.l 0 (some 100) [(0,100),(0,100),(0,100)])
 |222=>(((c.win 0).win 7).win 14).W6 0 |>.W6 7 |>.W6 14
 |254=>((c.win 0).win 7).win 14
 |223=>((c.win 0).win 7).win 14
 |177=>(((c.win 0).win 7).win 14).xX 22 |>.r [0] (.l 0 (some 10000) qZ)
 |122=>(((c.a [15] (.i (-65536) 65536)).a [16] (.i (-16777216) 16777216)).a [0] (.l 0 (some 131072) Ia)).xX 17 |>.r [0] (.l 0 (some 2000000000) qZ)
 |123=>(c.a [0] (.l 0 (some 131072) Ia)).xX 17 |>.p [.eq (.len 1) (.len 0)] |>.r [0] (.l 0 (some 2000000000) qZ)
 |124=>((c.a [8] (.i 1 64)).a [0] (.l 0 (some 131072) Ia)).xX 17 |>.p [.eq (.len 1) (.len 0)] |>.r [0] (.l 0 (some 2000000000) qZ)
 |272=>(((c.a [0,1,7,8,14,15] L7))).a [22,23] (.i 0 100)
 |119=>c.q [imp (rb 0) (fF (mU 1 (.v 0) 64++mU 1 (.v 6) 64++mU 0 (.v 7) 2++mU 0 (.v 8) 2++mU 0 (.v 9) 2++mU 0 (.v 11) 3++mU (-65536) (.v 13) 65536++mU (-16777216) (.v 14) 16777216++[Ke 3]))]
 |74=>(c.a [0] (.l 0 (some 131072) Ia)).xX 17 |>.a [1] (.l 0 (some 131072) [(0,1)]) |>.r [0] (.l 0 (some 2000000000) qZ)
 |154=>((c.a [1] (.i 1 4611686018427387904)).a [0] (.i (-4611686018427387904) 4611686018427387904)).r [0] (.i (-4611686018427387905) 4611686018427387904)
 |152=>c.q [imp (rb 0) (fF (mU (-8192) (.v 0) 8192++mU (-8192) (.v 1) 8192++mU 0 (.v 2) 4096++mU 0 (.v 3) 4096))]
 |153=>c.q [imp (rb 0) (fF (mU (-68719476736) (.v 0) 68719476736++mU (-68719476736) (.v 1) 68719476736++mU (-68719476736) (.v 2) 68719476736++mU 1 (.v 3) 68719476736++[4,5,6,7].flatMap fun j=>mU 0 (.v j) 255))]
 |108=>c.W6 0 |>.r [7] (.i 0 9)
 |186=>(c.a [0] (.i 0 16)).q [.eq (.len R0) (.v 0)]
 |41=>c.q [.eq (rr 0) (.c 0),.eq (rr 1) (.c 0),.eq (rr 2) (.v 0),.eq (rr 3) (.v 1)]
 |135=>c.q [imp (.eq (.len 2) (.mul (.v 0) (.v 1))) (.eq (.len (R0+2)) (.mul (rr 0) (rr 1))),imp (.eq (.len 3) (.mul (.v 0) (.v 1))) (.eq (.len (R0+3)) (.mul (rr 0) (rr 1))),.eq (rr 0) (.v 0),.eq (rr 1) (.v 1),.eq (.len (R0+2)) (.len 2),.eq (.len (R0+3)) (.len 3)] |>.a [2,3] (.l 0 (some 10000) [cI]) |>.r [2,3] (.l 0 (some 10000) [cI])
 |84=>c.a [0,1] B1 |>.a [2,3] (.l 0 (some 10000) [cI]) |>.r [2,3] (.l 0 (some 10000) [cI]) |>.p [.eq (.len 2) (.mul (.v 0) (.v 1)),.eq (.len 3) (.mul (.v 0) (.v 1))] |>.r [0,1] B1 |>.q [.eq (rr 0) (.v 0),.eq (rr 1) (.v 1),.eq (.len (R0+2)) (.mul (rr 0) (rr 1)),.eq (.len (R0+3)) (.mul (rr 0) (rr 1))]
 |187=>c.a [1] (.i 0 4611686018427387904) |>.q [.or (rb 0) (.and (.le (.sub (.c 0) (.v 1)) (.v 0)) (.le (.v 0) (.v 1)))]
 |143=>c.q [imp (rb 0) (fF ((List.range 16).flatMap fun j=>mU (-268435456) (.v j) 268435456))]
 |141=>c.q [imp (rb 0) (fF (mU 0 (.v 0) 1++mU 1 (.len 1) 8++mU 1 (.len 2) 8))]
 |188=>c.a [0] (.l 16 (some 16) [(-268435456,268435456)]) |>.a [1] (.i 0 3) |>.a [2] (.l 4 (some 4) [(-268435456,268435456)]) |>.r [0] (.i (-17592186044416) 17592186044416)
 |144=>(c.a [1,2] Y4).r ((List.range 16)) M28
 |145=>(c.r [16] (.i 0 12)).q [imp (.eq (rr 16) (.c 0)) (fF ((List.range 16).flatMap fun j=>mU (-268435456) (rr j) 268435456))]
 |90=>((c.a [1,2] Y4).r [3] (.i 0 12)).r [1,2] (stN 0) |>.q [imp (.eq (rr 3) (.c 0)) stQ]
 |91=>((c.a [1,2] Y4).r [3] (.i 0 12)).r [1,2] (stN 0) |>.q [imp (.eq (rr 3) (.c 0)) stQ]
 |92=>((c.a [1,2] Y4).r [3] (.i 0 12)).r [1,2] (stN 0) |>.q [imp (.eq (rr 3) (.c 0)) stQ]
 |93=>((c.a [1,2] Y4).r [3] (.i 0 12)).r [1,2] (stN 0) |>.q [imp (.eq (rr 3) (.c 0)) stQ]
 |94=>((c.a [1,2] Y4).r [3] (.i 0 12)).r [1,2] (stN 0) |>.q [imp (.eq (rr 3) (.c 0)) stQ]
 |193=>c.r [0,1,2,3] P36 |>.r [4] (.i 0 12)
 |134=>(c.r [4] (.i 0 12)).q [imp (.eq (rr 4) (.c 0)) (fF [.eq (rr 0) (.v 0),.eq (rr 1) (.v 1),.eq (.len (R0+2)) (.mul (rr 0) (rr 1)),.eq (.len (R0+3)) (.mul (rr 0) (rr 1))])] |>.p [.le (.mul (.v 0) (.v 1)) (.c 100)] |>.r [0,1] B1 |>.r [2,3] (.l 0 (some 10000) [cI])
 |59=>c.q [imp (.eq (.v 1) (.c 18)) (.iff (rb 0) (.v 0))]
 |132=>c.r [0] (.l 0 (some 40) [cI,cI]) |>.q (imp (.eq (.v 0) (.c 18)) (rb 1)::imp (.eq (.v 0) (.c 13)) (rb 1)::aaS)
 |133=>c.r [0] (.l 0 (some 40) [cI,cI]) |>.q (imp (rb 1) (fF (mU 14 (.v 0) 32))::aaS.drop 2)
 |80=>c.r [0] (.l 0 (some 40) [cI,cI]) |>.q (imp (.eq (.v 0) (.c 18)) (rb 1)::aaS)
 |57=>(c.a [1] (.l 0 (some 40) [cI])).r [0] (.i 0 12) |>.q (imp (.and (.eq (.v 0) (.c 18)) (.eq (.len 1) (.c 0))) (.eq (rr 0) (.c 0))::imp (.eq (rr 0) (.c 0)) (fF (mU 1 (.v 0) 32))::imp (.and (.eq (.v 0) (.c 13)) (.eq (rr 0) (.c 0))) (fF (mU 0 (.get 1 (.c 0) 0) 5))::(aec.map fun x=>imp (.and (.eq (.v 0) (.c x.1)) (.eq (rr 0) (.c 0))) (.eq (.len 1) (.c x.2)))++[imp (.and (.eq (.v 0) (.c 14)) (.eq (rr 0) (.c 0))) (fF (aaT 1)),imp (.and (.eq (.v 0) (.c 1)) (.eq (rr 0) (.c 0))) (fF (Kf 1))])
 |19=>(c.pipe.p [.v 58]).r [0,1] B1 |>.r [2,3] (.l 0 (some 10000) [cI]) |>.q [.eq (.len (R0+2)) (.mul (rr 0) (rr 1)),.eq (.len (R0+3)) (.mul (rr 0) (rr 1))]
 |233=>c.q [imp (rb 0) (fF (mU 0 (.v 2) 16777215++([3,4,5,6].flatMap fun j=>mU 0 (.v j) 255)++mU 1 (.v 7) 64))]
 |235=>(c.a [0,1,2,3] B8).a [4] (.i 1 64) |>.r [0,1,2,3] B8
 |264=>c.r [0,1,2,3] B8
 |236=>c.r [0,1,2,3] B8 |>.a [0,1] B1 |>.a [2,3] (.l 0 (some 10000) [cI]) |>.p [.eq (.len 2) (.mul (.v 0) (.v 1)),.eq (.len 3) (.mul (.v 0) (.v 1))] |>.q [imp (rb 5) (fF [.le (.c 0) (.v 4),.lt (.v 4) (.v 0),.le (.c 0) (.v 5),.lt (.v 5) (.v 1)])]
 |265=>(c.a [9] (.i 0 3)).a ([1,2,3,4,5,6,7,8]) B8 |>.r [0] B8
 |237=>c.a ([0,1,2,3,4,5,6,7]) B8 |>.r [0,1,2,3] B8
 |30=>c.a [1] (.l 0 (some 256) []) |>.r [0] (.l 0 (some 256) [(1,256),(0,256),(0,255)])
 |18=>c.pipe.r [0] (.l 0 (some 512000000000) qZ)
 |28=>c.pipe.r [0,1,2,3] B1
 |29=>c.pipe
 |24=>(c.pipe.a [95] (.l 0 (some 40) [cI])).p [imp (fF (.eq (.v 94) (.c 1)::Kf 95)) (.le (.mul (.get 95 (.c 0) 0) (.get 95 (.c 1) 0)) (.c 100))] |>.Rv
 |23=>c.Rv
 |12=>c.Rv.p [.c false]
 |44=>c.p [.c false]
 |241=>c.p [.lt (.v 0) (.v 2)]
 |47=>c.p [.c false]
 |64=>c.a [0] (.i 1 1) |>.r [0] (.l 2 (some 2) [(1,1),(1024,1024)]) |>.q [rb 1]
 |40=>c.a [0] (.i 1 1) |>.a [1] (.l 0 (some 40) [cI]) |>.r [0] (.i 0 12) |>.q [imp (.eq (rr 0) (.c 0)) (fF (Kf 1))]
 |17=>{c with pre:=[.c false],res:=(Rt.map fun a=>a.BW (DC a))++[.b],post:=Ru R0++[imp (rb 94) (fF [.le (.c 1) (.len (R0+15)),.le (.c 1) (.len (R0+16)),rb 58,.le (.c 1) (rr 1),.le (.c 1) (rr 2)])] }
 |37=>c.r [0] (.i 0 0) |>.r [1,2] (.l 1 (some 1) (List.replicate 16 (-268435456,268435456)))
 |56=>c.r (List.range 16) M28
 |87=>c.a [1] (.i 0 16777216) |>.r [0] (.i 0 16777216) |>.r [1] (.i 0 12) |>.q [.le (rr 0) (.v 1)]
 |146=>c.a [1] (.i 0 32) |>.a [2] (.i 0 1099511627776) |>.r [0] (.i (-1099511627776) 1099511627776) |>.r [1] (.i 0 12) |>.q [.le (.sub (.c 0) (.v 2)) (rr 0),.le (rr 0) (.v 2)]
 |283=>c.r [0] (.i 0 64)
 |243=>(c.a [2] (.i 0 1)).r [1] (.i 0 1)
 |266=>(c.a [2] (.i 0 1)).r [1] (.i 0 1)
 |14=>c.a [1] (.l 0 (some 100) [cI,cI]) |>.r [0] (.l 0 (some 200) [])
 |11=>(c.a [0,1,7,8,14,15] L7)
 |_=>c
def aed(i:IE):BE:=imp (.lt (.c 0) i) (.and (.le (.get 3 (.c 0) 0) (.get 1 (.c 0) 0)) (.le (.get 1 (.c 0) 0) (.get 3 (.c 0) 1)))
def Kg:IE:=.add (.add (.v 3) (.tdiv (.sub (.v 4) (.v 3)) (.c 2))) (.tmod (.sub (.v 4) (.v 3)) (.c 2))
def dxy(a b:Nat):IE:=.max (.sub (.v a) (.v b)) (.sub (.c 0) (.sub (.v a) (.v b)))
def xY:IE:=.max (.v 15) (.wrap .i64 (.sub (.ediv (.wrap .i64 (.sub (.min (.v 0) (.v 7)) (.wrap .i64 (.mul (.v 14) (.c 128))))) 256) (.c 1)))
def pix(x y w h:IE):List BE×BE:=([.le (.c 0) x,.lt x w,.le (.c 0) y,.lt y h,.le w (.c 100),.le h (.c 100)],fF [.le (.c 0) (.mul y w),.le (.mul y w) (.c 10000),.le (.c 0) (.add (.mul y w) x),.lt (.add (.mul y w) x) (.mul w h)])
def L9(a b c d:Nat):BE:=imp (.lt (.v a) (.v b)) (.and (.le (.v c) (.v a)) (.le (.v b) (.v d)))
def Rw:IE:=.wrap .i64 (.sub (.wrap .i64 (.tdiv (.v 0) (.v 1))) (.c 1))
def ux(k:Nat):List (List BE×BE):=match k with
 |202=>[([.lt (.v 3) (.v 4)],fF [.lt (.v 3) Kg,.le Kg (.v 4),.le (.tdiv (.sub (.v 4) (.v 3)) (.c 2)) (.sub (.v 4) (.v 3))])]
 |221=>[([L9 37 38 33 34,L9 33 34 21 23],L9 37 38 21 23),([.or (.eq (.len 31) (.c 0)) (.le (.v 32) (.c 100)),.le (.len 31) (.v 32)],.le (.len 31) (.c 100))]
 |198=>[([.le (.c 1) (.v 2),.le (.v 2) (.c 9223372036854775807)],.lt (.tmod (.wrap .u64 (.v 6)) (.wrap .u64 (.v 2))) (.wrap .u64 (.v 2))),([.le (.c 1) (.v 2),.le (.v 2) (.c 9223372036854775807)],.lt (.tmod (.wrap .u64 (.v 0)) (.wrap .u64 (.v 2))) (.wrap .u64 (.v 2)))]
 |123=>[([.lt (.c 0) (.len 0),.le (.c 0) (.v 24)],fF [.lt (.tmod (.add (.v 24) (.c 1)) (.len 0)) (.len 0),.le (.c 0) (.tmod (.add (.v 24) (.c 1)) (.len 0))])]
 |84=>[([.eq (.v 23) (.v 0),.eq (.v 24) (.v 1)],.eq (.mul (.v 23) (.v 24)) (.mul (.v 0) (.v 1))),([.lt (.v 1570) (.v 1567),.le (.v 1566) (.v 0),.le (.v 1567) (.v 1),.le (.c 0) (.v 1570),.le (.c 0) (.v 0)],.le (.add (.mul (.v 1570) (.v 0)) (.v 1566)) (.mul (.v 0) (.v 1)))]
 |73=>[([.le (.c 0) (.v 6),.le (.v 6) (.c 100)],.eq (.shl (.c 256) (.wrap .i64 (.add (.v 6) (.c 1)))) (.mul (.c 2) (.shl (.c 256) (.v 6))))]
 |134=>[([.le (.c 1) (.v 0),.le (.c 1) (.v 1),.le (.mul (.v 0) (.v 1)) (.c 100)],fF [.le (.v 0) (.c 100),.le (.v 1) (.c 100)])]
 |236=>[pix (.v 4) (.v 5) (.v 0) (.v 1)]
 |19=>[pix (.get 4713 (.v 4721) 0) (.get 4713 (.v 4721) 1) (.v 4715) (.v 4716)]
 |24=>[pix (.get 4200 (.v 4208) 0) (.get 4200 (.v 4208) 1) (.v 4202) (.v 4203),([.le (.c 1) (.get 95 (.c 0) 0),.le (.c 1) (.get 95 (.c 1) 0),.le (.mul (.get 95 (.c 0) 0) (.get 95 (.c 1) 0)) (.c 100)],fF [.le (.get 95 (.c 0) 0) (.c 100),.le (.get 95 (.c 1) 0) (.c 100)])]
 |57=>[([aed (.v 6),.le (.c 0) (.v 6),.le (.get 3 (.v 6) 0) (.get 1 (.v 6) 0),.le (.get 1 (.v 6) 0) (.get 3 (.v 6) 1)],.and (.le (.get 3 (.c 0) 0) (.get 1 (.c 0) 0)) (.le (.get 1 (.c 0) 0) (.get 3 (.c 0) 1)))]
 |141=>[([.not (.and (.not (.eq (.v 0) (.c 0))) (.not (.eq (.v 0) (.c 1))))],fF (mU 0 (.v 0) 1))]
 |112=>[([.le (.mul (.c 32) (.v 44)) (.sub (.c 16) (.v 42)),.le (.add (.mul (.c 256) xY) (.c 16)) (.v 42),.le (.sub (.c 0) (.v 44)) (.v 45),.le (.mul (.c 32) (.v 47)) (.sub (.v 43) (.c 16)),.le (.v 43) (.sub (.add (.mul (.c 256) xY) (.mul (.c 256) (.len 38))) (.c 16)),.le (.v 45) (.v 47),.eq (.len 46) (.len 38)],fF [.le (.c 0) (.sub (.ediv (.v 45) 8) xY),.lt (.sub (.ediv (.v 45) 8) xY) (.len 46)])]
 |204=>[([.lt (.tmod (.v 0) (.v 1)) (.c 0),.le (.c 1) (.v 1)],imp (fF (mU (-1073741824) (.v 0) 1073741824)) (fF [.le (.mul (.v 1) Rw) (.v 0),.lt (.v 0) (.add (.mul (.v 1) Rw) (.v 1))])),([.le (.c 0) (.tmod (.v 0) (.v 1)),.le (.c 1) (.v 1)],imp (fF (mU (-1073741824) (.v 0) 1073741824)) (fF [.le (.mul (.v 1) (.wrap .i64 (.tdiv (.v 0) (.v 1)))) (.v 0),.lt (.v 0) (.add (.mul (.v 1) (.wrap .i64 (.tdiv (.v 0) (.v 1)))) (.v 1))]))]
 |210=>[([],.le (.c 0) (.max (.sub (.get 0 (.c 0) 7) (.get 0 (.c 0) 6)) (.sub (.get 0 (.c 0) 6) (.get 0 (.c 0) 7))))]
 |207=>[([.lt (dxy 2 0) (dxy 3 1)],.not (.eq (.v 3) (.v 1))),([.le (dxy 3 1) (dxy 2 0),.not (.and (.eq (.v 0) (.v 2)) (.eq (.v 1) (.v 3)))],.not (.eq (.v 2) (.v 0)))]
 |_=>[]
def aiU(k j:Nat)(c:Cn):Cn:=if k=18/\j=73 then c.a [1] .t else if k=12/\j=24 then {c.a [94,95] .t with pre:=c.pre.dropLast}else if k=17/\j=12 then {c with pre:=[] }else c
def bare(k:Nat)(c:Cn):Cn:=if k=57 then {c with post:=c.post.dropLast.dropLast}else if k=12\/k=17 then {c with pre:=[] }else c
def aaU(k:Nat):List BE:=match k with
 |18=>[.le (.c 0) (.get 5224 (.v 5742) 0),.lt (.get 5224 (.v 5742) 0) (.len 60),.le (.c 0) (.get 5216 (.v 5218) 2),.lt (.get 5216 (.v 5218) 2) (.len 60)]
 |_=>[]
def lps(k:Nat):List (Nat×Nat×Iv):=match k with
 |9=>[(9004,2,⟨[.b,.i 0 1099511627776],[(.le (.c 0) (.v 3)),(.le (.v 3) (.len 0))],(.add (.mul (.c (-1)) (.v 3)) (.len 0))⟩)]
 |12=>[(12003,97,⟨[.i 0 1099511627776,aI,.i 0 100,.i 0 100,.l 0 (some 10000) [cI],.l 0 (some 10000) [cI],aI,aI,aI,aI,aI,aI,aI,aI,aI,aI,.l 1 (some 8) [((-268435456),268435456),((-268435456),268435456),((-268435456),268435456),((-268435456),268435456),((-268435456),268435456),((-268435456),268435456),((-268435456),268435456),((-268435456),268435456),((-268435456),268435456),((-268435456),268435456),((-268435456),268435456),((-268435456),268435456),((-268435456),268435456),((-268435456),268435456),((-268435456),268435456),((-268435456),268435456)],.l 1 (some 8) [((-268435456),268435456),((-268435456),268435456),((-268435456),268435456),((-268435456),268435456),((-268435456),268435456),((-268435456),268435456),((-268435456),268435456),((-268435456),268435456),((-268435456),268435456),((-268435456),268435456),((-268435456),268435456),((-268435456),268435456),((-268435456),268435456),((-268435456),268435456),((-268435456),268435456),((-268435456),268435456)],.i 3 3,aI,aI,aI,aI,.i 3 3,aI,aI,aI,aI,.i 3 3,aI,aI,aI,aI,.i 3 3,aI,aI,aI,aI,.i 3 3,aI,aI,aI,aI,.i 3 3,aI,aI,aI,aI,.b,.b,.b,.b,.b,.b,.i 0 255,.i 0 255,.i 0 255,.i 0 255,.b,.b,aI,.l 0 (some 256) [((-68719476736),68719476736),((-68719476736),68719476736),((-68719476736),68719476736),((-68719476736),68719476736),(0,255),(0,255),(0,255),(0,255)],.l 0 (some 256) [(0,1)],aI,.b,.b,aI,aI,aI,aI,aI,aI,aI,.b,aI,.b,aI,aI,.b,.b,.b,aI,aI,aI,aI,.b,aI,.b,.b,aI,aI,.b,.b,.b,.b],[(.eq (.len 101) (.mul (.v 99) (.v 100))),(.eq (.len 102) (.mul (.v 99) (.v 100))),(.eq (.len 158) (.len 159))],(.add (.mul (.c (-1)) (.v 97)) (.len 0))⟩)]
 |14=>[(14003,6,⟨[.l 1 (some 101) [],.i 0 100],[(.le (.add (.len 6) (.c 0)) (.add (.v 7) (.len 5))),(.le (.c 0) (.v 7)),(.le (.v 7) (.len 1))],(.add (.mul (.c (-1)) (.v 7)) (.len 1))⟩)]
 |15=>[(15003,95,⟨[.l 0 (some 1099511627776) [cI],.i 0 1099511627776],[(.le (.add (.len 95) (.c 0)) (.add (.v 96) (.c 0))),(.le (.c 0) (.v 96)),(.le (.v 96) (.len 3))],(.add (.mul (.c (-1)) (.v 96)) (.len 3))⟩)]
 |18=>[(18004,5218,⟨[.i 0 256,aI,aI,aI,.l 0 (some 512000000000) [cI,cI,cI,cI,cI,cI,cI,cI],.b],[(.le (.len 5222) (.mul (.c 2000000000) (.v 5218))),(.le (.c 0) (.v 5218)),(.le (.v 5218) (.len 5216))],(.add (.mul (.c (-1)) (.v 5218)) (.len 5216))⟩),(33003,5742,⟨[.i 0 256,.l 0 (some 256) [((-68719476736),68719476736),((-68719476736),68719476736),((-68719476736),68719476736),((-68719476736),68719476736),(0,255),(0,255),(0,255),(0,255)]],[(.le (.c 0) (.v 5742)),(.eq (.len 5743) (.len 5741)),(.le (.add (.len 5743) (.c 0)) (.add (.v 5742) (.len 5741))),(.le (.v 5742) (.len 5741)),(.le (.v 5742) (.len 5224))],(.add (.mul (.c (-1)) (.v 5742)) (.len 5743))⟩),(51004,5748,⟨[.i 0 131072,.l 1 (some 131072) [((-268435456),268435456),((-268435456),268435456),(0,16777215),(0,255),(0,255),(0,255),(0,255)],.l 0 (some 256) [((-68719476736),68719476736),((-68719476736),68719476736),((-68719476736),68719476736),((-68719476736),68719476736),(0,255),(0,255),(0,255),(0,255)]],[(.le (.c 0) (.v 5748)),(.eq (.len 5749) (.len 5747)),(.le (.add (.len 5749) (.c 0)) (.add (.v 5748) (.len 5747))),(.eq (.len 5750) (.len 5743)),(.le (.add (.len 5750) (.c 0)) (.add (.v 5748) (.len 5743))),(.le (.v 5748) (.len 5747)),(.le (.v 5748) (.len 5744)),(.le (.v 5748) (.len 5745))],(.add (.mul (.c (-1)) (.v 5748)) (.len 5749))⟩),(49002,5745,⟨[.i 0 1099511627776],[(.le (.c 0) (.v 5745))],(.add (.mul (.c (-1)) (.v 5745)) (.len 2143))⟩)]
 |19=>[(148003,4720,⟨[.i 0 512000000000,.i 0 512000000000,.l 0 (some 10000) [cI],.l 0 (some 10000) [cI]],[(.eq (.len 4722) (.mul (.v 4715) (.v 4716))),(.eq (.len 4723) (.mul (.v 4715) (.v 4716))),(.le (.c 0) (.v 4720)),(.le (.c 0) (.v 4721)),(.eq (.len 4722) (.len 4718)),(.le (.add (.len 4722) (.c 0)) (.add (.v 4720) (.len 4718))),(.le (.add (.len 4722) (.c 0)) (.add (.v 4721) (.len 4718))),(.eq (.len 4723) (.len 4717)),(.le (.add (.len 4723) (.c 0)) (.add (.v 4720) (.len 4717))),(.le (.add (.len 4723) (.c 0)) (.add (.v 4721) (.len 4717))),(.le (.v 4720) (.len 4713)),(.le (.add (.v 4720) (.c 0)) (.add (.v 4721) (.c 0))),(.le (.v 4721) (.len 4713))],(.add (.mul (.c (-1)) (.v 4721)) (.len 4713))⟩)]
 |24=>[(95003,4202,⟨[.i 0 16,.l 16 (some 16) [((-268435456),268435456)]],[(.le (.c 0) (.v 4202)),(.eq (.len 4203) (.len 4201)),(.le (.add (.len 4203) (.c 0)) (.add (.v 4202) (.len 4201))),(.le (.v 4202) (.len 4201))],(.add (.mul (.c (-1)) (.v 4202)) (.len 95))⟩),(95003,4201,⟨[.i 0 4,.l 4 (some 4) [((-1048576),1048576)]],[(.le (.c 0) (.v 4201)),(.eq (.len 4202) (.len 4200)),(.le (.add (.len 4202) (.c 0)) (.add (.v 4201) (.len 4200))),(.le (.v 4201) (.len 4200))],(.add (.mul (.c (-1)) (.v 4201)) (.len 95))⟩),(148003,4207,⟨[.i 0 512000000000,.i 0 512000000000,.l 0 (some 10000) [cI],.l 0 (some 10000) [cI]],[(.eq (.len 4209) (.mul (.v 4202) (.v 4203))),(.eq (.len 4210) (.mul (.v 4202) (.v 4203))),(.le (.c 0) (.v 4207)),(.le (.c 0) (.v 4208)),(.eq (.len 4209) (.len 4205)),(.le (.add (.len 4209) (.c 0)) (.add (.v 4207) (.len 4205))),(.le (.add (.len 4209) (.c 0)) (.add (.v 4208) (.len 4205))),(.eq (.len 4210) (.len 4204)),(.le (.add (.len 4210) (.c 0)) (.add (.v 4207) (.len 4204))),(.le (.add (.len 4210) (.c 0)) (.add (.v 4208) (.len 4204))),(.le (.v 4207) (.len 4200)),(.le (.add (.v 4207) (.c 0)) (.add (.v 4208) (.c 0))),(.le (.v 4208) (.len 4200))],(.add (.mul (.c (-1)) (.v 4208)) (.len 4200))⟩)]
 |26=>[(26004,10,⟨[.b,.i 0 1099511627776],[(.le (.c 0) (.v 11)),(.le (.v 11) (.len 2)),(.le (.v 11) (.len 6))],(.add (.mul (.c (-1)) (.v 11)) (.len 6))⟩),(26009,12,⟨[.b,.i 0 1099511627776],[(.le (.c 0) (.v 13)),(.le (.v 13) (.len 3)),(.le (.v 13) (.len 7))],(.add (.mul (.c (-1)) (.v 13)) (.len 7))⟩)]
 |29=>[(29003,95,⟨[.l 0 (some 6) [(3,3),cI,cI,cI,cI],.i 0 6],[(.le (.add (.len 95) (.c 0)) (.add (.v 96) (.c 0))),(.le (.c 0) (.v 96))],(.add (.mul (.c (-1)) (.v 96)) (.c 6))⟩)]
 |34=>[(34004,2,⟨[.b,.i 0 1099511627776],[(.le (.c 0) (.v 3)),(.le (.v 3) (.len 0)),(.le (.v 3) (.len 1))],(.add (.mul (.c (-1)) (.v 3)) (.len 1))⟩)]
 |43=>[(43005,2,⟨[.l 3 (some 3) [(0,mx),(0,0),(0,0),(0,0),(0,0)],.i 0 3],[(.eq (.len 2) (.len 1)),(.le (.add (.len 2) (.c 0)) (.add (.v 3) (.len 1))),(.le (.c 0) (.v 3)),(.le (.v 3) (.len 1))],(.add (.mul (.c (-1)) (.v 3)) (.c 3))⟩),(43010,4,⟨[.i 0 0,.l 3 (some 9) [cI,cI,cI,cI,cI],.i 0 6],[(.le (.c 0) (.v 4)),(.le (.v 4) (.c 0)),(.le (.add (.len 5) (.c 0)) (.add (.v 6) (.len 2))),(.le (.c 0) (.v 6)),(.le (.v 4) (.len 2)),(.le (.v 4) (.len 1)),(.le (.v 4) (.len 0)),(.le (.add (.v 4) (.c 0)) (.add (.v 6) (.c 0))),(.le (.v 6) (.len 0))],(.add (.mul (.c (-1)) (.v 6)) (.len 0))⟩)]
 |57=>[(57007,5,⟨[.i 0 0,.i 0 40],[(.or (.not (.lt (.c 0) (.v 6))) (.and (.le (.get 3 (.c 0) 0) (.get 1 (.c 0) 0)) (.le (.get 1 (.c 0) 0) (.get 3 (.c 0) 1)))),(.le (.c 0) (.v 5)),(.le (.v 5) (.c 0)),(.le (.c 0) (.v 6)),(.le (.v 5) (.len 3)),(.le (.v 5) (.len 1)),(.le (.add (.v 5) (.c 0)) (.add (.v 6) (.c 0))),(.le (.v 6) (.len 3)),(.le (.v 6) (.len 1))],(.add (.mul (.c (-1)) (.v 6)) (.len 3))⟩)]
 |65=>[(65003,6,⟨[.b,.i 0 4],[(.le (.c 0) (.v 7))],(.add (.mul (.c (-1)) (.v 7)) (.c 4))⟩)]
 |71=>[(71003,23,⟨[.b,.i 0 1099511627776,aI,aI,aI,aI],[(.le (.c 0) (.v 24)),(.le (.v 24) (.len 16))],(.add (.mul (.c (-1)) (.v 24)) (.len 16))⟩)]
 |73=>[(73005,5,⟨[.l 0 (some 131072) [cI,cI,cI,cI,cI,cI,cI,cI,cI,(0,1)],.i 0 9],[(.le (.len 5) (.shl (.c 256) (.v 6)))],(.sub (.len 2) (.v 6))⟩),(116002,9,⟨[.l 0 (some 65536) [cI,cI,cI,cI,cI,cI,cI,cI,cI,(0,1)],.i 0 65536],[(.eq (.len 9) (.len 5)),(.le (.add (.len 9) (.c 0)) (.add (.v 10) (.len 5))),(.le (.c 0) (.v 10)),(.le (.v 10) (.len 5))],(.add (.mul (.c (-1)) (.v 10)) (.len 9))⟩),(116008,11,⟨[.l 0 (some 131072) [cI,cI,cI,cI,cI,cI,cI,cI,cI,(0,1)],.i 0 65536],[(.le (.len 11) (.mul (.c 2) (.v 12))),(.le (.v 12) (.shl (.c 256) (.v 6))),(.le (.c 0) (.v 12)),(.le (.v 12) (.len 9)),(.le (.v 12) (.len 5))],(.add (.mul (.c (-1)) (.v 12)) (.len 9))⟩)]
 |84=>[(84006,1570,⟨[.i 0 100,.l 0 (some 10000) [cI],.l 0 (some 10000) [cI]],[(.eq (.len 1571) (.mul (.v 0) (.v 1))),(.eq (.len 1572) (.mul (.v 0) (.v 1))),(.le (.v 1565) (.v 1570)),(.eq (.len 1571) (.len 26)),(.le (.add (.len 1571) (.v 1565)) (.add (.v 1570) (.len 26))),(.eq (.len 1572) (.len 25)),(.le (.add (.len 1572) (.v 1565)) (.add (.v 1570) (.len 25)))],(.add (.mul (.c (-1)) (.v 1570)) (.v 1567))⟩),(84010,1573,⟨[.i 0 100,.l 0 (some 10000) [cI],.l 0 (some 10000) [cI]],[(.eq (.len 1574) (.mul (.v 0) (.v 1))),(.eq (.len 1575) (.mul (.v 0) (.v 1))),(.le (.c 0) (.v 1573)),(.eq (.len 1574) (.len 1571)),(.le (.add (.len 1574) (.c 0)) (.add (.v 1573) (.len 1571))),(.eq (.len 1575) (.len 1572)),(.le (.add (.len 1575) (.c 0)) (.add (.v 1573) (.len 1572))),(.le (.v 1573) (.len 1571)),(.le (.v 1573) (.len 1572)),(.le (.v 1573) (.len 25)),(.le (.v 1573) (.len 26)),(.le (.v 1573) (.len 2)),(.le (.v 1573) (.len 3))],(.add (.mul (.c (-1)) (.v 1573)) (.add (.mul (.c (-1)) (.v 1564)) (.v 1566)))⟩)]
 |86=>[(86003,6,⟨[.b,.i 0 4],[(.le (.c 0) (.v 7))],(.add (.mul (.c (-1)) (.v 7)) (.c 4))⟩)]
 |112=>[(112012,35,⟨[.l 0 (some 10000) [(0,mx),(0,99),cI,cI,cI,cI,cI,cI],.i 0 1048707,.l 0 (some 100) [cI]],[(.le (.len 35) (.mul (.c 100) (.v 36))),(.le (.v 33) (.v 36)),(.eq (.len 37) (.len 32)),(.le (.add (.len 37) (.v 33)) (.add (.v 36) (.len 32)))],(.add (.mul (.c (-1)) (.v 36)) (.v 34))⟩),(162003,40,⟨[.i 0 8,.l 0 (some 100) [cI]],[(.le (.c 0) (.v 40)),(.eq (.len 41) (.len 38)),(.le (.add (.len 41) (.c 0)) (.add (.v 40) (.len 38)))],(.add (.mul (.c (-1)) (.v 40)) (.c 8))⟩),(112017,42,⟨[.l 0 (some 10000) [(0,mx),(0,99),cI,cI,cI,cI,cI,cI],.i 0 100],[(.le (.add (.len 42) (.c 0)) (.add (.v 43) (.len 35))),(.le (.c 0) (.v 43)),(.le (.v 43) (.len 41)),(.le (.v 43) (.len 38)),(.le (.v 43) (.len 37))],(.add (.mul (.c (-1)) (.v 43)) (.len 41))⟩),(162008,45,⟨[.i 0 8389392,.l 0 (some 100) [cI]],[(.le (.wrap .i64 (.sub (.c 0) (.v 44))) (.v 45)),(.eq (.len 46) (.len 41)),(.le (.add (.len 46) (.wrap .i64 (.sub (.c 0) (.v 44)))) (.add (.v 45) (.len 41)))],(.sub (.c 1073741826) (.v 45))⟩)]
 |113=>[(113012,4135,⟨[.i 0 200,.l 0 (some 12800) [((-64),mx),((-64),mx),cI,cI,cI,cI,cI,(64,64)]],[(.le (.len 4136) (.mul (.c 64) (.v 4135))),(.le (.c 0) (.v 4135)),(.le (.v 4135) (.len 4134))],(.add (.mul (.c (-1)) (.v 4135)) (.len 4134))⟩),(113018,4145,⟨[.i 0 64,.i (-64) 164,.i (-64) 164,.l 0 (some 12800) [((-64),mx),((-64),mx),cI,cI,cI,cI,cI,(64,64)]],[(.le (.c 0) (.v 4145)),(.le (.get 4134 (.v 4135) 1) (.v 4146)),(.le (.get 4134 (.v 4135) 2) (.v 4147)),(.le (.add (.len 4148) (.c 0)) (.add (.v 4145) (.len 4136))),(.le (.add (.v 4146) (.c 0)) (.add (.v 4145) (.get 4134 (.v 4135) 1))),(.le (.add (.v 4147) (.c 0)) (.add (.v 4145) (.get 4134 (.v 4135) 2)))],(.add (.mul (.c (-1)) (.v 4145)) (.v 14))⟩),(113012,7210,⟨[.i 0 200,.l 0 (some 12800) [((-64),mx),((-64),mx),cI,cI,cI,cI,cI,(64,64)]],[(.le (.len 7211) (.mul (.c 64) (.v 7210))),(.le (.c 0) (.v 7210)),(.le (.v 7210) (.len 7209))],(.add (.mul (.c (-1)) (.v 7210)) (.len 7209))⟩),(113018,7220,⟨[.i 0 64,.i (-64) 164,.i (-64) 164,.l 0 (some 12800) [((-64),mx),((-64),mx),cI,cI,cI,cI,cI,(64,64)]],[(.le (.c 0) (.v 7220)),(.le (.get 7209 (.v 7210) 1) (.v 7221)),(.le (.get 7209 (.v 7210) 2) (.v 7222)),(.le (.add (.len 7223) (.c 0)) (.add (.v 7220) (.len 7211))),(.le (.add (.v 7221) (.c 0)) (.add (.v 7220) (.get 7209 (.v 7210) 1))),(.le (.add (.v 7222) (.c 0)) (.add (.v 7220) (.get 7209 (.v 7210) 2)))],(.add (.mul (.c (-1)) (.v 7220)) (.v 14))⟩)]
 |114=>[(114004,3,⟨[.b,.i 0 256],[(.le (.c 0) (.v 4)),(.le (.v 4) (.len 0)),(.le (.v 4) (.len 1))],(.add (.mul (.c (-1)) (.v 4)) (.len 0))⟩),(114010,5,⟨[.b,.i 0 9],[(.le (.c 0) (.v 6)),(.le (.v 6) (.len 2))],(.add (.mul (.c (-1)) (.v 6)) (.len 2))⟩)]
 |115=>[(115003,3,⟨[.l 0 (some 256) [cI,cI,cI,cI,cI,cI,cI,cI,(0,0),(0,1)],.i 0 256],[(.eq (.len 3) (.len 2)),(.le (.add (.len 3) (.c 0)) (.add (.v 4) (.len 2))),(.le (.c 0) (.v 4)),(.le (.v 4) (.len 2)),(.le (.v 4) (.len 0)),(.le (.v 4) (.len 1))],(.add (.mul (.c (-1)) (.v 4)) (.len 3))⟩)]
 |117=>[(117005,2562,⟨[.l 1 (some 131072) [cI,cI,cI,cI,cI,cI,cI,cI],.l 1 (some 131072) [(0,1)],.i 0 131072],[(.eq (.len 2562) (.len 1025)),(.le (.add (.len 2562) (.c 0)) (.add (.v 2564) (.len 1025))),(.eq (.len 2563) (.len 2561)),(.le (.add (.len 2563) (.c 0)) (.add (.v 2564) (.len 2561))),(.le (.c 0) (.v 2564)),(.le (.v 2564) (.len 2561)),(.le (.v 2564) (.len 1025)),(.le (.v 2564) (.len 0))],(.add (.mul (.c (-1)) (.v 2564)) (.len 2563))⟩)]
 |118=>[(118004,22,⟨[.b,.i 0 131072],[(.le (.c 0) (.v 23)),(.le (.v 23) (.len 0)),(.le (.v 23) (.len 1))],(.add (.mul (.c (-1)) (.v 23)) (.len 0))⟩)]
 |122=>[(122003,22,⟨[.l 0 (some 1310720000) [cI,cI,cI,cI,cI,cI,cI,cI],.i 2 131072],[(.le (.len 22) (.mul (.c 10000) (.v 23))),(.le (.c 2) (.v 23))],(.add (.mul (.c (-1)) (.v 23)) (.len 0))⟩)]
 |123=>[(123004,23,⟨[.l 0 (some 1677721600) [cI,cI,cI,cI,cI,cI,cI,cI],.i 0 131072,aI,aI,aI],[(.le (.len 23) (.mul (.c 12800) (.v 24))),(.le (.c 0) (.v 24)),(.le (.v 24) (.len 0)),(.le (.v 24) (.len 1))],(.add (.mul (.c (-1)) (.v 24)) (.len 1))⟩)]
 |124=>[(124003,22,⟨[.l 0 (some 1310720000) [cI,cI,cI,cI,cI,cI,cI,cI],.i 0 131072],[(.le (.len 22) (.mul (.c 10000) (.v 23))),(.le (.c 0) (.v 23)),(.le (.v 23) (.len 0)),(.le (.v 23) (.len 1))],(.add (.mul (.c (-1)) (.v 23)) (.len 0))⟩)]
 |134=>[(134005,5636,⟨[.i 0 1048576,.l 1 (some 1048576) [(0,16777215)]],[(.le (.c 0) (.v 5636)),(.eq (.len 5637) (.len 4611)),(.le (.add (.len 5637) (.c 0)) (.add (.v 5636) (.len 4611))),(.le (.v 5636) (.len 4611)),(.le (.v 5636) (.len 2563))],(.add (.mul (.c (-1)) (.v 5636)) (.len 5637))⟩)]
 |141=>[(141009,4,⟨[.b,.i 0 8],[(.le (.c 0) (.v 5)),(.le (.v 5) (.len 1))],(.add (.mul (.c (-1)) (.v 5)) (.len 1))⟩),(141009,6,⟨[.b,.i 0 8,.b],[(.le (.c 0) (.v 7)),(.le (.v 7) (.len 2))],(.add (.mul (.c (-1)) (.v 7)) (.len 2))⟩)]
 |151=>[(151003,11,⟨[.i 0 64,.i 0 8],[(.le (.v 11) (.mul (.c 8) (.v 12))),(.le (.c 0) (.v 11)),(.le (.c 0) (.v 12))],(.add (.mul (.c (-1)) (.v 12)) (.c 8))⟩),(151008,13,⟨[.i 0 64,.i 0 8],[(.le (.v 13) (.add (.mul (.c 8) (.v 12)) (.v 14))),(.le (.v 11) (.v 13)),(.le (.c 0) (.v 14)),(.le (.add (.v 13) (.c 0)) (.add (.v 14) (.v 11)))],(.add (.mul (.c (-1)) (.v 14)) (.c 8))⟩)]
 |175=>[(175003,2,⟨[.i 2 131072,aI,.i 0 18446744073709551615],[(.le (.c 2) (.v 2)),(.le (.c 0) (.v 4))],(.add (.mul (.c (-1)) (.v 2)) (.len 0))⟩)]
 |177=>[(177007,89,⟨[.l 0 (some 10000) [(0,99),(0,100),(0,16777215),cI,cI,cI,cI,(64,64)],.i 0 100],[(.le (.len 89) (.mul (.c 100) (.v 90))),(.le (.c 0) (.v 90)),(.le (.v 90) (.len 30))],(.add (.mul (.c (-1)) (.v 90)) (.len 30))⟩),(177011,93,⟨[.i 0 5,aI,.i 0 18446744073709551615,aI,.i 0 18446744073709551615,aI,.i 0 18446744073709551615,aI,.i 0 18446744073709551615,aI,.i 0 18446744073709551615],[],(.add (.mul (.c (-1)) (.v 93)) (.c 5))⟩),(177016,104,⟨[.l 0 (some 10000) [(0,99),(0,100),(0,16777215),cI,cI,cI,cI,(64,64)],.i 0 100,aI,.i 0 18446744073709551615,aI,.i 0 18446744073709551615,aI,.i 0 18446744073709551615,aI,.i 0 18446744073709551615,aI,.i 0 18446744073709551615],[(.le (.add (.len 104) (.get 30 (.v 90) 1)) (.add (.v 105) (.len 89)))],(.add (.mul (.c (-1)) (.v 105)) (.get 30 (.v 90) 2))⟩),(177021,118,⟨[.i 0 4,aI,aI,aI,aI],[(.le (.c 0) (.v 118))],(.add (.mul (.c (-1)) (.v 118)) (.c 4))⟩),(177027,125,⟨[.i 0 5,aI,.i 0 18446744073709551615,aI,.i 0 18446744073709551615,aI,.i 0 18446744073709551615,aI,.i 0 18446744073709551615,aI,.i 0 18446744073709551615],[],(.add (.mul (.c (-1)) (.v 125)) (.c 5))⟩)]
 |186=>[(186003,5,⟨[.l 0 (some 16) [cI,cI],.i 0 16],[(.eq (.len 5) (.len 4)),(.le (.add (.len 5) (.c 0)) (.add (.v 6) (.len 4))),(.le (.c 0) (.v 6)),(.le (.v 6) (.len 4))],(.add (.mul (.c (-1)) (.v 6)) (.len 5))⟩)]
 |202=>[(202004,3,⟨[aI,aI],[(.le (.c 0) (.v 3)),(.le (.v 3) (.v 4)),(.le (.c 0) (.v 3)),(.le (.v 4) (.c mx)),(.le (.add (.v 4) (.c 0)) (.add (.v 3) (.c mx)))],(.sub (.v 4) (.v 3))⟩)]
 |221=>[(221008,31,⟨[.l 0 (some 100) [(0,99),(0,99),(1,100)],.i 0 1048575],[(.or (.eq (.len 31) (.c 0)) (.le (.v 32) (.c 100))),(.le (.add (.len 31) (.max (.v 22) (.sub (.ediv (.min (.min (.v 1) (.v 8)) (.v 15)) 256) (.c 1)))) (.add (.v 32) (.c 0))),(.le (.max (.v 22) (.sub (.ediv (.min (.min (.v 1) (.v 8)) (.v 15)) 256) (.c 1))) (.v 32))],(.add (.mul (.c (-1)) (.v 32)) (.add (.ediv (.max (.max (.v 1) (.v 8)) (.v 15)) 256) (.c 2)))⟩),(221012,33,⟨[.i (-4611686018427387905) 4611686018427387905,.i (-4611686018427387905) 4611686018427387905,.i 0 3],[(.or (.not (.lt (.v 33) (.v 34))) (.and (.le (.v 21) (.v 33)) (.le (.v 34) (.v 23)))),(.le (.c 0) (.v 35)),(.le (.v 35) (.len 29))],(.add (.mul (.c (-1)) (.v 35)) (.len 29))⟩)]
 |104106=>[(104003,8,⟨[.l 0 (some 10000) [cI,cI,cI,cI,cI,cI,cI,(1,mx)],.i 0 100],[(.le (.len 8) (.mul (.c 100) (.sub (.v 9) (.v 1)))),(.le (.v 1) (.v 9))],(.add (.mul (.c (-1)) (.v 9)) (.v 3))⟩),(104006,10,⟨[.l 0 (some 10000) [cI,cI,cI,cI,cI,cI,cI,(1,mx)],.i 0 100],[(.le (.len 10) (.add (.mul (.c 100) (.sub (.v 9) (.v 1))) (.sub (.v 11) (.v 0)))),(.le (.add (.len 10) (.v 0)) (.add (.v 11) (.len 8))),(.le (.v 0) (.v 11))],(.add (.mul (.c (-1)) (.v 11)) (.v 2))⟩)]
 |104150=>[(104003,7,⟨[.l 0 (some 10000) [(0,100),(0,100),cI,cI,cI,cI,cI,(1,mx)],.i 0 100],[(.le (.len 7) (.mul (.c 100) (.sub (.v 8) (.v 1)))),(.le (.v 1) (.v 8))],(.add (.mul (.c (-1)) (.v 8)) (.v 3))⟩),(104006,9,⟨[.l 0 (some 10000) [(0,100),(0,100),cI,cI,cI,cI,cI,(1,mx)],.i 0 100],[(.le (.len 9) (.add (.mul (.c 100) (.sub (.v 8) (.v 1))) (.sub (.v 10) (.v 0)))),(.le (.add (.len 9) (.v 0)) (.add (.v 10) (.len 7))),(.le (.v 0) (.v 10))],(.add (.mul (.c (-1)) (.v 10)) (.v 2))⟩)]
 |_=>[]
end Go.Sx
namespace Go.Proofs.YtohebioanhliiaaGreatDoor.av
open Go.Sx
def kc(k:Nat):Cn:=match qX k with
 | some s=>let c:=aiT k (adL s)
   ⟨c.args.map A.cap,c.pre,c.res.map A.cap,c.post⟩
 |none=>⟨[],[],[],[]⟩
def an(k:Nat):An:=⟨lps k,ux k,if k=24\/k=18 then(1,12)else if k=19 then(1,0)else(mn,mx)⟩
end Go.Proofs.YtohebioanhliiaaGreatDoor.av
namespace Go.Proofs.YtohebioanhliiaaGreatDoor.av
open Go.Sx
def ord:List Nat:=[283,140,243,266,87,146,169,9,56,37,23,41,65,42,28,100,66,43,29,47,44,46,30,101,67,174,195,149,102,151,150,104150,103,107,106,104106,105,69,109,155,139,196,240,197,156,110,157,267,241,242,198,199,158,111,71,159,200,201,202,160,161,246,245,205245,163,204,244,203,112,164,165,210,211,247,250,251,284,268,207,208,166,168,170,213,171,172,113,72,114,115,117,173,73,118,119,214,215,216,175,121,120,220,176,269,252,270,271,253,221,222,272,273,254,223,224,225,177,122,123,124,74,152,153,154,108,18,186,132,133,80,57,59,135,136,137,84,86,88,187,143,141,90,91,144,188,145,92,93,94,134,193,232,233,235,264,236,265,237,262,24,12,55,11,21,13,14,25,15,26,16,99,64,40,27,17,34,20,19,10,3,4,5,6,7,8]
abbrev one(P:Program)(i k:Nat):Bool:=WI (mO P lG) kc an (ord.take i) k
def Kw(k i j:Nat):Option Cn:=match Kof kc (ord.take i) j with
 |some c=>some (aiU k j c)
 |none=>none
def Sw(k:Nat)(p:BE):Bool:=(aaU k).any p.beq
abbrev al3(P:Program)(i k:Nat):Bool:=match mO P lG k with
 |some e=>Nat.ble (bare k (kc k)).args.length R0&&(Q1 (Kw k i) e.key (an k) (bare k (kc k)) (e.tree.strip (Sw k))).isEmpty
 |none=>false
def rowOf(k:Nat):oL:=(lN k lG).getD ⟨0,cB,[],⟨[],[],0⟩,[]⟩
def kd:Kind:=⟨58,31,128,33,178,[(1,[0,255]),(2,[0,1])]⟩
def xs:List Nat:=[283,140,243,266,87,146,169]
abbrev row(P:Program)(k:Nat):Bool:=On P kd qX lG xs k (rowOf k)&&(gV P (rowOf k)).nB (bL (rowOf k).s.res)
abbrev part(P:Program)(i n:Nat):Bool:=LX P (rowOf 24) (Kof kc (ord.take i)) (ir.key ⟨24,.stuck "",(rowOf 24).sub⟩) (an 24) (kc 24) 94 n
abbrev rest(P:Program)(i:Nat):Bool:=H4 P (rowOf 24) (Kof kc (ord.take i)) (ir.key ⟨24,.stuck "",(rowOf 24).sub⟩) (an 24) (kc 24) 94 33
end Go.Proofs.YtohebioanhliiaaGreatDoor.av

/- The functions' signatures, how each is walked, their contracts. -/
import Derived.Test.YtohebioanhliiaaGreatDoorKAK
set_option maxRecDepth 100000
set_option linter.unusedVariables false
namespace Go.Proofs.YtohebioanhliiaaGreatDoor.aD
open Go.Sx
abbrev i6:CK:=.i .i64
abbrev oI:VT:=.one (.c i6)
abbrev oB:VT:=.one (.c .b)
abbrev rp{α:Type}(n:Nat)(x:α):List α:=List.replicate n x
abbrev sH:List CT:=[.c i6,.c i6,.c i6,.s 3 [i6],.s 3 [i6],.c i6,.c i6,.c i6,.c i6,.c i6,.c i6,.c i6,.c i6,.c i6,.c i6,.s 138 (rp 16 (i6)),.s 138 (rp 16 (i6)),.c i6,.c i6,.c i6,.c i6,.c i6,.c i6,.c i6,.c i6,.c i6,.c i6,.c i6,.c i6,.c i6,.c i6,.c i6,.c i6,.c i6,.c i6,.c i6,.c i6,.c i6,.c i6,.c i6,.c i6,.c i6,.c i6,.c i6,.c i6,.c i6,.c i6,.c .b,.c .b,.c .b,.c .b,.c .b,.c .b,.c i6,.c i6,.c i6,.c i6,.c .b,.c .b,.c i6,.s 76 (rp 8 (i6)),.s 4 [.b],.c i6,.c .b,.c .b,.c i6,.c i6,.c i6,.c i6,.c i6,.c i6,.c i6,.c .b,.c i6,.c .b,.c i6,.c i6,.c .b,.c .b,.c .b,.c i6,.c i6,.c i6,.c i6,.c .b,.c i6,.c .b,.c .b,.c i6,.c i6,.c .b,.c .b,.c .b,.c .b]
abbrev bY:List CK:=[i6,i6,i6,i6,i6,i6,i6,i6]
def sg3:bN:=⟨[.agg [.c i6,.c i6],.agg [.c i6,.c i6],.agg [.c i6,.c i6]],[oB],0⟩
def sg4:bN:=⟨[.one (.n 85 [.c i6,.s 3 i6])],[oB],0⟩
def sg5:bN:=⟨[.one (.n 85 [.c i6,.s 3 i6])],[oB],0⟩
def sg6:bN:=⟨[.one (.n 85 [.c i6,.s 3 i6])],[oB],0⟩
def sg7:bN:=⟨[.one (.n 85 [.c i6,.s 3 i6]),.agg (rp 8 (.c (.i .i16)))],[oB],0⟩
def sg8:bN:=⟨[.one (.s 23 [i6,i6]),.agg [.c (.i .u8),.c (.i .u8),.c (.i .u8)],oB],[oB],0⟩
def sg9:bN:=⟨[.one (.s 23 [i6,i6]),oI],[oB],0⟩
def Xr:bN:=⟨[],[oB],0⟩
def Xs:bN:=⟨[.agg (rp 7 (.c i6)),.agg (rp 7 (.c i6)),.agg (rp 7 (.c i6))],[oI],0⟩
def Xt:bN:=⟨[.one (.n 85 [.c i6,.s 3 i6])],[.agg sH],0⟩
def Xu:bN:=⟨[oI,oI],[.one (.n 85 [.c i6,.s 3 i6])],0⟩
def Xv:bN:=⟨[oI,.one (.s 23 [i6,i6])],[.one (.n 85 [.c i6,.s 3 i6])],0⟩
def Xw:bN:=⟨[.agg sH],[.one (.s 3 [i6])],0⟩
def Xx:bN:=⟨[.agg [.c i6,.c i6,.s 3 [i6],.s 3 [i6]],.agg [.c i6,.c i6,.s 3 [i6],.s 3 [i6]]],[oB],0⟩
def Xy:bN:=⟨[.one (.n 85 [.c i6,.s 3 i6])],[.agg sH,oB],0⟩
def Xz:bN:=⟨[.agg sH],[.one (.s 74 (rp 8 (i6))),oB],0⟩
def XA:bN:=⟨[.agg sH],[.agg [.c i6,.c i6,.s 3 [i6],.s 3 [i6]]],0⟩
def XB:bN:=⟨[.one (.s 74 (rp 8 (i6))),.one (.s 74 (rp 8 (i6)))],[oB],0⟩
def XC:bN:=⟨[oI,.one (.s 3 [i6])],[.agg [.c i6,.s 3 [i6]]],2⟩
def XD:bN:=⟨[],[.agg sH],0⟩
def XE:bN:=⟨[.agg sH,.agg [.c i6,.s 3 [i6]]],[.agg sH],94⟩
def XG:bN:=⟨[oI],[.agg [.c i6,.c i6,.c i6,.c i6]],0⟩
def XH:bN:=⟨[.agg [.c i6,.c i6,.s 3 [i6],.s 3 [i6]],.agg [.c i6,.c i6,.s 3 [i6],.s 3 [i6]]],[oB],0⟩
def XI:bN:=⟨[.one (.n 85 [.c i6,.s 3 i6]),oI,oI],[oB],0⟩
def Sl:bN:=⟨[.agg sH],[.agg [.c i6,.c i6,.c i6,.c i6]],0⟩
def Sm:bN:=⟨[.agg sH],[.one (.s 44 [i6,i6,i6,i6,i6])],0⟩
def Sn:bN:=⟨[oI,.one (.s 4 [.b]),oB],[.one (.n 104 [.s 3 i6,.s 4 (.b),.c i6]),oI],0⟩
def XJ:bN:=⟨[.one (.s 74 (rp 8 (i6))),.one (.s 74 (rp 8 (i6)))],[oB],0⟩
def XK:bN:=⟨[],[.agg [.c i6,.s 138 (rp 16 (i6)),.s 138 (rp 16 (i6))]],0⟩
def XL:bN:=⟨[.agg [.c i6,.s 3 [i6]]],[oI],0⟩
def XM:bN:=⟨[.agg [.c i6,.c i6,.s 3 [i6],.s 3 [i6]]],[.agg [.c i6,.c i6,.c i6,.c i6]],0⟩
def XO:bN:=⟨[.agg [.c i6,.c i6,.c i6,.c i6],.agg [.c i6,.c i6,.c i6,.c i6]],[.agg [.c i6,.c i6,.c i6,.c i6]],0⟩
def XP:bN:=⟨[.one (.s 44 [i6,i6,i6,i6,i6])],[.one (.s 44 [i6,i6,i6,i6,i6]),oI],0⟩
def XQ:bN:=⟨[.one (.s 4 [.b])],[.one (.n 104 [.s 3 i6,.s 4 (.b),.c i6])],0⟩
def XR:bN:=⟨[oI,oI],[oI],0⟩
def XS:bN:=⟨[.one (.s 3 [i6]),.one (.s 4 [.b]),oB],[.one (.s 4 [.b])],0⟩
def XT:bN:=⟨[oI],[oI,oB],0⟩
def XU:bN:=⟨[],[.agg (rp 16 (.c i6))],0⟩
def XV:bN:=⟨[.agg [.c i6,.s 3 [i6]]],[oI],0⟩
def XW:bN:=⟨[oB,oI],[oB],0⟩
def XY:bN:=⟨[oI],[.one (.s 146 [i6,i6]),oB],0⟩
def SP:bN:=⟨[.agg [.c i6,.c i6,.c i6,.c i6]],[oB],0⟩
def XZ:bN:=⟨[.agg [.c i6,.c i6,.c i6,.c i6,.c i6]],[oB],0⟩
def Se:bN:=⟨[.agg [.c i6,.c i6,.c i6,.c i6,.c i6],.agg (rp 8 (.c i6))],[oI],0⟩
def Sf:bN:=⟨[.agg (rp 7 (.c i6)),oI,oI,.agg [.c i6,.c i6,.c i6,.c i6]],[.one (.s 74 (rp 8 (i6)))],0⟩
def Sg:bN:=⟨[.agg (rp 8 (.c i6)),.agg (rp 8 (.c i6)),.one (.s 44 [i6,i6,i6,i6,i6])],[.agg (rp 8 (.c i6)),.agg (rp 8 (.c i6)),oB],0⟩
def Sh:bN:=⟨[.agg (rp 7 (.c i6)),.agg (rp 7 (.c i6)),.agg ([.c i6,.c .b,.c .b]++rp 7 (.c i6)++[.c .b,.c i6,.c .b,.c i6,.c i6]),.agg [.c i6,.c i6,.c i6],.agg [.c i6,.c i6,.c i6,.c i6]],[.one (.s 74 (rp 8 (i6))),.agg [.c i6,.c i6,.c i6]],0⟩
def Si:bN:=⟨[.one (.s 76 (rp 8 (i6))),.one (.s 4 [.b]),.one (.s 44 [i6,i6,i6,i6,i6])],[.one (.s 76 (rp 8 (i6))),.one (.s 4 [.b]),oI],0⟩
def Sj:bN:=⟨[.one (.s 30 (rp 7 (i6))),.one (.s 4 [.b]),.agg ([.c i6,.c .b,.c .b]++rp 7 (.c i6)++[.c .b,.c i6,.c .b,.c i6,.c i6]),.agg [.c i6,.c i6,.c i6,.c i6]],[.one (.s 74 (rp 8 (i6)))],0⟩
def X1:bN:=⟨[oI],[.one (.s 146 [i6,i6]),oB],0⟩
def X2:bN:=⟨[.agg [.c i6,.c i6,.s 3 [i6],.s 3 [i6]],.agg [.c i6,.c i6,.c i6,.c i6],oI,.agg [.c i6,.c i6,.c i6,.c i6],oI,.agg [.c .b,.c .b,.c .b,.c .b]],[.agg [.c i6,.c i6,.s 3 [i6],.s 3 [i6]]],0⟩
def X3:bN:=⟨[oI,oI,oI,oI],[.agg [.c i6,.c i6,.c i6,.c i6],oB],0⟩
def S':bN:=⟨[.one (.c (.f)),oI],[oI,oI],0⟩
def X4:bN:=⟨[oI],[.one (.c (.f))],0⟩
def X5:bN:=⟨[.agg [.c i6,.s 138 (rp 16 (i6)),.s 138 (rp 16 (i6))],oI],[.agg [.c i6,.s 138 (rp 16 (i6)),.s 138 (rp 16 (i6))],oI],0⟩
def X6:bN:=⟨[.agg [.c i6,.s 138 (rp 16 (i6)),.s 138 (rp 16 (i6))],.agg (rp 16 (.c i6))],[.agg [.c i6,.s 138 (rp 16 (i6)),.s 138 (rp 16 (i6))],oI],0⟩
def X7:bN:=⟨[.agg [.c i6,.s 138 (rp 16 (i6)),.s 138 (rp 16 (i6))],.agg (rp 16 (.c i6))],[.agg [.c i6,.s 138 (rp 16 (i6)),.s 138 (rp 16 (i6))],oI],0⟩
def X8:bN:=⟨[.agg [.c i6,.s 138 (rp 16 (i6)),.s 138 (rp 16 (i6))]],[.agg [.c i6,.s 138 (rp 16 (i6)),.s 138 (rp 16 (i6))],oI],0⟩
def X9:bN:=⟨[.agg [.c i6,.s 138 (rp 16 (i6)),.s 138 (rp 16 (i6))]],[.agg [.c i6,.s 138 (rp 16 (i6)),.s 138 (rp 16 (i6))],oI],0⟩
def X':bN:=⟨[],[.one (.n 34 [.s 3 i6])],0⟩
def N2:bN:=⟨[oI,oI],[oB],0⟩
def N3:bN:=⟨[.agg (rp 8 (.c i6))],[.agg [.c i6,.c i6,.c i6,.c i6]],0⟩
def N4:bN:=⟨[.agg (rp 7 (.c i6)),oI,oI],[oB],0⟩
def N5:bN:=⟨[.agg (rp 7 (.c i6)),oI,.agg [.c i6,.c i6,.c i6,.c i6]],[.one (.s 74 (rp 8 (i6)))],0⟩
def N6:bN:=⟨[.agg (rp 7 (.c i6)),oI],[.agg [.c i6,.c i6,.c i6,.c i6]],0⟩
def N7:bN:=⟨[oI,oI,.ptr 2 [i6],.ptr 2 [i6],.ptr 2 [i6]],[.agg (rp 8 (.c i6))],0⟩
def N8:bN:=⟨[oI,oI],[oI],0⟩
def HI:bN:=⟨[.agg (rp 8 (.c i6)),.agg [.c i6,.c i6,.c i6,.c i6]],[.agg (rp 7 (.c i6)),oI],0⟩
def N9:bN:=⟨[.agg [.c i6,.c i6,.c i6,.c i6,.c i6],.agg (rp 8 (.c i6)),.agg (rp 8 (.c i6))],[oI,oI,oI],0⟩
def Oa:bN:=⟨[.agg [.c i6,.c i6],.agg [.c i6,.c i6]],[oB],0⟩
def Ob:bN:=⟨[.agg (rp 8 (.c i6)),.agg (rp 8 (.c i6)),oI,oI],[.agg (rp 8 (.c i6)),oI],0⟩
def Oc:bN:=⟨[.agg (rp 7 (.c i6)),.agg (rp 7 (.c i6)),oI,.agg [.c i6,.c i6,.c i6,.c i6]],[.one (.s 74 (rp 8 (i6)))],0⟩
def Od:bN:=⟨[.agg (rp 7 (.c i6)),.agg (rp 7 (.c i6)),oI,oB,.agg [.c i6,.c i6,.c i6],.agg [.c i6,.c i6,.c i6,.c i6]],[.one (.s 74 (rp 8 (i6))),.agg [.c i6,.c i6,.c i6]],0⟩
def Oe:bN:=⟨[.one (.s 76 (rp 8 (i6))),.one (.s 4 [.b]),.one (.s 44 [i6,i6,i6,i6,i6])],[oB],0⟩
def Of:bN:=⟨[.one (.s 76 (rp 8 (i6))),.one (.s 4 [.b])],[.one (.s 279 (rp 9 (i6)++[.b]))],0⟩
def Og:bN:=⟨[.one (.s 279 (rp 9 (i6)++[.b]))],[.one (.s 76 (rp 8 (i6))),.one (.s 4 [.b])],0⟩
def Oh:bN:=⟨[.agg [.s 30 (rp 7 (i6)),.s 4 [.b],.c i6,.c .b,.c .b,.c i6,.c i6,.c i6,.c i6,.c i6,.c i6,.c i6,.c .b,.c i6,.c .b,.c i6,.c i6,.c i6,.c i6,.c i6,.c i6]],[oB],0⟩
def Oi:bN:=⟨[.agg ([.c i6,.c .b,.c .b]++rp 7 (.c i6)++[.c .b,.c i6,.c .b,.c i6,.c i6])],[oB],0⟩
def Oj:bN:=⟨[.one (.s 30 (rp 7 (i6))),.agg ([.c i6,.c .b,.c .b]++rp 7 (.c i6)++[.c .b,.c i6,.c .b,.c i6,.c i6])],[oB],0⟩
def Ok:bN:=⟨[.one (.s 30 (rp 7 (i6))),oB],[oB],0⟩
def Ol:bN:=⟨[.agg [.s 30 (rp 7 (i6)),.s 4 [.b],.c i6,.c .b,.c .b,.c i6,.c i6,.c i6,.c i6,.c i6,.c i6,.c i6,.c .b,.c i6,.c .b,.c i6,.c i6,.c i6,.c i6,.c i6,.c i6]],[.one (.s 74 (rp 8 (i6)))],0⟩
def Om:bN:=⟨[.agg [.s 30 (rp 7 (i6)),.s 4 [.b],.c i6,.c .b,.c .b,.c i6,.c i6,.c i6,.c i6,.c i6,.c i6,.c i6,.c .b,.c i6,.c .b,.c i6,.c i6,.c i6,.c i6,.c i6,.c i6]],[.one (.s 74 (rp 8 (i6)))],0⟩
def On:bN:=⟨[.agg [.s 30 (rp 7 (i6)),.s 4 [.b],.c i6,.c .b,.c .b,.c i6,.c i6,.c i6,.c i6,.c i6,.c i6,.c i6,.c .b,.c i6,.c .b,.c i6,.c i6,.c i6,.c i6,.c i6,.c i6]],[.one (.s 74 (rp 8 (i6)))],0⟩
def Oo:bN:=⟨[oI],[.one (.s 146 [i6,i6]),oB],0⟩
def Oq:bN:=⟨[oI],[.one (.s 146 [i6,i6]),oB],0⟩
def Ot:bN:=⟨[oI,oI],[.agg [.c i6,.c i6,.s 3 [i6],.s 3 [i6]],oI],0⟩
def Ou:bN:=⟨[.agg [.c i6,.c i6,.s 3 [i6],.s 3 [i6]]],[.agg [.c i6,.c i6,.s 3 [i6],.s 3 [i6]]],0⟩
def Ov:bN:=⟨[.agg [.c .b,.c .b,.c .b,.c .b]],[oI],0⟩
def Ow:bN:=⟨[.agg [.c i6,.c i6,.c i6,.c i6]],[oI],0⟩
def Ox:bN:=⟨[.one (.c (.i .u64)),.one (.c (.i .u64))],[.one (.c (.i .u64)),.one (.c (.i .u64))],0⟩
def HM:bN:=⟨[.one (.c (.i .u64))],[.one (.c (.f))],0⟩
def Oy:bN:=⟨[.agg [.c i6,.s 138 (rp 16 (i6)),.s 138 (rp 16 (i6))]],[oB],0⟩
def Oz:bN:=⟨[.agg (rp 16 (.c i6))],[oB],0⟩
def OA:bN:=⟨[.agg [.c i6,.s 138 (rp 16 (i6)),.s 138 (rp 16 (i6))],oI],[.agg (rp 16 (.c i6)),oI],0⟩
def OB:bN:=⟨[.agg (rp 16 (.c i6)),.agg (rp 16 (.c i6))],[.agg (rp 16 (.c i6)),oI],0⟩
def HO:bN:=⟨[.one (.c (.f)),oI,oI],[oI,oI],0⟩
def OC:bN:=⟨[.agg (rp 7 (.c i6)),.agg (rp 7 (.c i6)),oI,.agg [.c i6,.c i6,.c i6]],[oB],0⟩
def OD:bN:=⟨[oI,oI,.ptr 2 [i6],.ptr 2 [i6]],[.agg (rp 8 (.c i6))],0⟩
def OE:bN:=⟨[.agg (rp 7 (.c i6)),oI,oI,oI],[oI],0⟩
def OF:bN:=⟨[.agg [.c i6,.c i6,.c i6,.c i6]],[oB],0⟩
def OG:bN:=⟨[.agg (rp 8 (.c i6))],[oB],0⟩
def OH:bN:=⟨[oI,oI],[oI],0⟩
def OI:bN:=⟨[.agg [.c i6,.c (.i .u64)],.agg [.c i6,.c (.i .u64)]],[oI],0⟩
def OJ:bN:=⟨[oI,oI],[.agg [.c i6,.c (.i .u64)]],0⟩
def OK:bN:=⟨[.agg (rp 8 (.c i6))],[oB],0⟩
def OL:bN:=⟨[oI,oI,oI,oI],[oI],0⟩
def OM:bN:=⟨[.agg (rp 7 (.c i6)),.agg (rp 7 (.c i6)),oI],[oB],0⟩
def ON:bN:=⟨[.agg (rp 7 (.c i6)),.agg (rp 7 (.c i6)),oI],[.agg (rp 7 (.c i6))],0⟩
def OO:bN:=⟨[.agg (rp 7 (.c i6)),.agg (rp 7 (.c i6)),oI,.agg [.c i6,.c i6,.c i6,.c i6]],[oI,oI],0⟩
def OP:bN:=⟨[.agg (rp 7 (.c i6)),.agg (rp 7 (.c i6)),oI,oI],[oI,.agg [.c i6,.c i6,.c i6,.c i6]],0⟩
def OQ:bN:=⟨[.agg (rp 7 (.c i6)),.agg (rp 7 (.c i6)),oI],[.agg [.c i6,.c i6,.c i6,.c i6,.c .b]],0⟩
def OR:bN:=⟨[.agg [.c i6,.c i6,.c i6],oI],[.agg [.c i6,.c i6,.c i6]],0⟩
def OS:bN:=⟨[.agg [.c i6,.c i6],.agg [.c i6,.c i6]],[oI],0⟩
def H5:bN:=⟨[.agg [.c i6,.c i6,.c i6,.c i6],oI,oI],[oB],0⟩
def y9:bN:=⟨[.agg [.c i6,.c i6],.agg [.c i6,.c i6],.agg [.c i6,.c i6,.c i6,.c i6]],[.one (.s 276 [i6,i6,i6])],0⟩
def OT:bN:=⟨[.agg [.c i6,.c i6,.c i6,.c i6,.c .b],.agg [.c i6,.c i6,.c i6,.c i6],oI],[.agg [.c i6,.c i6,.c i6,.c i6]],0⟩
def OU:bN:=⟨[.agg [.c i6,.c i6,.c i6],oI],[oB],0⟩
def OV:bN:=⟨[.agg (rp 7 (.c i6)),.agg (rp 7 (.c i6)),oI,oI],[oI,.agg [.c i6,.c i6,.c i6,.c i6]],0⟩
def OW:bN:=⟨[.agg (rp 9 (.c i6)++[.c .b]),.agg (rp 9 (.c i6)++[.c .b]),oB],[.agg (rp 9 (.c i6)++[.c .b])],0⟩
def OX:bN:=⟨[.agg [.c i6,.c i6,.c i6]],[oB],0⟩
def OY:bN:=⟨[.one (.s 30 (rp 7 (i6)))],[oI],0⟩
def OZ:bN:=⟨[.agg (rp 7 (.c i6)),.agg (rp 7 (.c i6)),.agg (rp 7 (.c i6)),oI,oI],[oI],0⟩
def O0:bN:=⟨[.agg (rp 7 (.c i6)),.agg (rp 7 (.c i6)),.agg (rp 7 (.c i6)),oI,.agg [.c i6,.c i6,.c i6,.c i6]],[.one (.s 74 (rp 8 (i6)))],0⟩
def O1:bN:=⟨[oI,.agg [.c i6,.c i6]],[.one (.s 146 [i6,i6])],0⟩
def O2:bN:=⟨[oI,oI],[oB],0⟩
def O3:bN:=⟨[.ptr 3 [i6],oI,.ptr 3 [i6]],[oI],0⟩
def O4:bN:=⟨[.agg (rp 16 (.c i6)),.agg [.c i6,.c i6,.c i6,.c i6],oI],[.agg [.c i6,.c i6,.c i6,.c i6],oI],0⟩
def O5:bN:=⟨[.agg (rp 7 (.c i6))],[oB],0⟩
def O6:bN:=⟨[oI],[.one (.c (.i .u64))],0⟩
def O7:bN:=⟨[.one (.c (.i .u64)),.one (.c (.i .u64)),oB],[.agg [.c i6,.c (.i .u64)],oB],0⟩
def O8:bN:=⟨[.agg [.c i6,.c (.i .u64)],oI],[.agg [.c i6,.c (.i .u64)],oI,oB],0⟩
def O9:bN:=⟨[.agg [.c i6,.c (.i .u64)]],[oI,oB],0⟩
def O':bN:=⟨[.agg [.c i6,.c (.i .u64)],oI],[.agg [.c i6,.c (.i .u64)],oB],0⟩
def Pa:bN:=⟨[oI],[.agg [.c i6,.c (.i .u64)]],0⟩
def Pb:bN:=⟨[.agg [.c i6,.c (.i .u64)]],[oI,oB],0⟩
def Pd:bN:=⟨[.agg (rp 7 (.c i6)),oI,oI,oI],[oI,oI],0⟩
def Pe:bN:=⟨[oI,oI],[oI],0⟩
def HZ:bN:=⟨[.agg [.c i6,.c i6],.agg [.c i6,.c i6]],[.ptr 323 [i6,i6,i6,i6,.b,i6,i6,i6,.b,.b,i6,i6]],0⟩
def Pf:bN:=⟨[.ptr 323 [i6,i6,i6,i6,.b,i6,i6,i6,.b,.b,i6,i6]],[oI],0⟩
def H0:bN:=⟨[.ptr 323 [i6,i6,i6,i6,.b,i6,i6,i6,.b,.b,i6,i6]],[oI],0⟩
def H2:bN:=⟨[.ptr 323 [i6,i6,i6,i6,.b,i6,i6,i6,.b,.b,i6,i6]],[oI],0⟩
def Pg:bN:=⟨[oI,oI],[oB],0⟩
def Pj:bN:=⟨[.agg [.c i6,.c (.i .u64)],.agg [.c i6,.c (.i .u64)]],[.agg [.c i6,.c (.i .u64)],oB],0⟩
def Pk:bN:=⟨[.agg (rp 7 (.c i6)),.agg (rp 7 (.c i6)),.agg (rp 7 (.c i6))],[oI],0⟩
def Pm:bN:=⟨[.agg [.c i6,.c (.i .u64)]],[oI],0⟩
def Pn:bN:=⟨[.agg [.c i6,.c (.i .u64)],.agg [.c i6,.c (.i .u64)]],[.agg [.c i6,.c (.i .u64)]],0⟩
def Po:bN:=⟨[.agg (rp 7 (.c i6)),.agg (rp 7 (.c i6)),.agg (rp 7 (.c i6)),.agg [.c i6,.c i6,.c i6,.c i6]],[.one (.s 344 [i6,i6,i6])],0⟩
def Pp:bN:=⟨[.agg (rp 7 (.c i6)),.agg (rp 7 (.c i6)),.agg (rp 7 (.c i6))],[.agg (rp 22 (.c i6))],0⟩
def Pq:bN:=⟨[.agg (rp 22 (.c i6))],[.agg [.c i6,.c (.i .u64),.c i6,.c (.i .u64),.c i6,.c (.i .u64),.c i6,.c i6,.c (.i .u64),.c i6,.c (.i .u64),.c i6,.c (.i .u64),.c i6,.c i6,.c (.i .u64),.c i6,.c (.i .u64),.c i6,.c (.i .u64),.c i6,.c i6,.c (.i .u64),.c i6,.c (.i .u64),.c i6,.c (.i .u64),.c i6,.c i6,.c (.i .u64),.c i6,.c (.i .u64),.c i6,.c (.i .u64),.c i6]],0⟩
def Pr:bN:=⟨[.agg [.c i6,.c (.i .u64),.c i6,.c (.i .u64),.c i6,.c (.i .u64),.c i6],oI,oI],[.agg [.c i6,.c (.i .u64)]],0⟩
def Pu:bN:=⟨[.agg [.c i6,.c (.i .u64),.c i6,.c (.i .u64),.c i6,.c (.i .u64),.c i6],.agg [.c i6,.c (.i .u64)]],[oI],0⟩
def Pv:bN:=⟨[.agg [.c .b,.c i6,.c i6,.c i6,.c i6,.c .b,.c i6,.c .b,.c .b,.c i6,.c i6,.c .b,.c .b,.c .b,.c .b]],[oB],0⟩
def Pw:bN:=⟨[.agg (rp 8 (.c i6))],[oB],0⟩
def Px:bN:=⟨[.agg [.c i6,.c i6,.c i6,.c i6],oI],[.agg [.c i6,.c i6,.c i6,.c i6]],0⟩
def Py:bN:=⟨[.agg [.c i6,.c i6,.s 3 [i6],.s 3 [i6]],oI,oI],[.agg [.c i6,.c i6,.c i6,.c i6],oI,oB],0⟩
def Pz:bN:=⟨[.agg [.c i6,.c i6,.c i6,.c i6],.agg [.c i6,.c i6,.c i6,.c i6],oI,oI],[.agg [.c i6,.c i6,.c i6,.c i6]],0⟩
def PA:bN:=⟨[.agg [.c i6,.c (.i .u64)]],[.agg [.c i6,.c (.i .u64)]],0⟩
def PB:bN:=⟨[.one (.c (.i .u64)),.one (.c (.i .u64)),.one (.c (.i .u64))],[.one (.c (.i .u64)),.one (.c (.i .u64))],0⟩
def PC:bN:=⟨[.agg [.c i6,.c (.i .u64)],.agg [.c i6,.c (.i .u64)]],[.agg [.c i6,.c (.i .u64)],oB],0⟩
def HK:bN:=⟨[.one (.c (.i .u64)),.one (.c (.i .u64)),.one (.c (.i .u64))],[.one (.c (.i .u64)),.one (.c (.i .u64))],0⟩
def PD:bN:=⟨(rp 6 (oI)),[oI,oI],0⟩
def PE:bN:=⟨[oI,oI,.ptr 2 [i6],.ptr 2 [i6]],[oI],0⟩
def PF:bN:=⟨[oI,oI,oI,oI],[oI],0⟩
def PG:bN:=⟨[oI],[oI],0⟩
def H3:bN:=⟨[.ptr 323 [i6,i6,i6,i6,.b,i6,i6,i6,.b,.b,i6,i6],oI],[oI,oI],0⟩
def H4:bN:=⟨[.ptr 323 [i6,i6,i6,i6,.b,i6,i6,i6,.b,.b,i6,i6],oI],[oI],0⟩
def PH:bN:=⟨[.agg (rp 7 (.c i6)),.agg (rp 7 (.c i6)),.agg (rp 7 (.c i6))],[.one (.s 369 [i6,i6,i6,i6,i6])],0⟩
def PI:bN:=⟨[.agg [.c i6,.c i6,.c i6,.c i6,.c i6],oI,oI,oI],[oI,oI],0⟩
def PJ:bN:=⟨[.agg (rp 22 (.c i6)),.agg [.c i6,.c i6,.c i6]],[.agg [.c i6,.c (.i .u64),.c i6,.c (.i .u64),.c i6,.c (.i .u64),.c i6]],0⟩
def PK:bN:=⟨[oI,oI,oI],[oB],0⟩
def PL:bN:=⟨[oI],[.agg [.c i6,.c i6,.c i6,.c i6]],0⟩
def PM:bN:=⟨[oI,.agg [.c i6,.c i6,.c i6,.c i6],.agg [.c i6,.c i6,.c i6,.c i6],oI],[oI],0⟩
def HL:bN:=⟨[.one (.c (.i .u64)),.one (.c (.i .u64)),.one (.c (.i .u64))],[.one (.c (.i .u64)),.one (.c (.i .u64))],0⟩
def PN:bN:=⟨[.one (.c (.i .u64))],[oI],0⟩
def PO:bN:=⟨[.ptr 323 [i6,i6,i6,i6,.b,i6,i6,i6,.b,.b,i6,i6],.agg [.c i6,.c i6]],[oI,oI,oB],0⟩
def PQ:bN:=⟨[.agg (rp 7 (.c i6)),.agg (rp 7 (.c i6))],[.agg [.c i6,.c i6,.c i6,.c i6,.c i6]],0⟩
def PR:bN:=⟨[.agg [.c i6,.c i6,.c i6,.c i6,.c i6],oI,oI],[oI],0⟩
def PS:bN:=⟨[oI,oI],[oI],0⟩
def PT:bN:=⟨[.agg (rp 22 (.c i6)),oI,oI],[.agg [.c i6,.c i6,.c i6]],0⟩
def PU:bN:=⟨[.agg [.c i6,.c i6,.c i6],.agg [.c i6,.c i6,.c i6]],[.agg [.c i6,.c (.i .u64)]],0⟩
def HY:bN:=⟨[.one (.c (.i .u64))],[oI],0⟩
def PV:bN:=⟨[.agg [.c i6,.c i6]],[oI,oI,oB],0⟩
def vr:bN:=⟨[.agg [.c i6,.c i6,.c i6,.c i6],.fn 106 [(2,.i64),(2,.i64),(2,.i64)]],[.one (.s 74 (rp 8 (i6)))],0⟩
def vu:bN:=⟨[.agg [.c i6,.c i6,.c i6,.c i6],.fn 150 [(2,.i64),(2,.i64)]],[.one (.s 74 (rp 8 (i6)))],0⟩
def rV:bN:=⟨[.agg (rp 7 (.c i6)),.agg (rp 7 (.c i6)),.fn 245 [(2,.i64),(2,.i64)]],[oI,.agg [.c i6,.c i6,.c i6,.c i6]],0⟩
def aQ:List (FuncId×bN):=[(3,sg3),(4,sg4),(5,sg5),(6,sg6),(7,sg7),(8,sg8),(9,sg9),(10,Xr),(11,Xs),(12,Xt),(13,Xu),(14,Xv),(15,Xw),(16,Xx),(17,Xy),(18,Xz),(19,XA),(20,XB),(21,XC),(23,XD),(24,XE),(25,XG),(26,XH),(27,XI),(28,Sl),(29,Sm),(30,Sn),(34,XJ),(37,XK),(40,XL),(41,XM),(42,XO),(43,XP),(44,XQ),(46,XR),(47,XS),(55,XT),(56,XU),(57,XV),(59,XW),(64,XY),(65,SP),(66,XZ),(67,Se),(69,Sf),(71,Sg),(72,Sh),(73,Si),(74,Sj),(80,X1),(84,X2),(86,X3),(87,S'),(88,X4),(90,X5),(91,X6),(92,X7),(93,X8),(94,X9),(99,X'),(100,N2),(101,N3),(102,N4),(103,N5),(105,N6),(106,N7),(107,N8),(108,HI),(109,N9),(110,Oa),(111,Ob),(112,Oc),(113,Od),(114,Oe),(115,Of),(117,Og),(118,Oh),(119,Oi),(120,Oj),(121,Ok),(122,Ol),(123,Om),(124,On),(132,Oo),(133,Oq),(134,Ot),(135,Ou),(136,Ov),(137,Ow),(139,Ox),(140,HM),(141,Oy),(143,Oz),(144,OA),(145,OB),(146,HO),(149,OC),(150,OD),(151,OE),(152,OF),(153,OG),(154,OH),(155,OI),(156,OJ),(157,OK),(158,OL),(159,OM),(160,ON),(161,OO),(163,OP),(164,OQ),(165,OR),(166,OS),(168,H5),(169,y9),(170,OT),(171,OU),(172,OV),(173,OW),(174,OX),(175,OY),(176,OZ),(177,O0),(186,O1),(187,O2),(188,O3),(193,O4),(195,O5),(196,O6),(197,O7),(198,O8),(199,O9),(200,O'),(201,Pa),(202,Pb),(203,Pd),(204,Pe),(207,HZ),(208,Pf),(210,H0),(211,H2),(213,Pg),(214,Pj),(215,Pk),(216,Pm),(220,Pn),(221,Po),(222,Pp),(223,Pq),(224,Pr),(225,Pu),(232,Pv),(233,Pw),(235,Px),(236,Py),(237,Pz),(240,PA),(241,PB),(242,PC),(243,HK),(244,PD),(245,PE),(246,PF),(247,PG),(250,H3),(251,H4),(252,PH),(253,PI),(254,PJ),(262,PK),(264,PL),(265,PM),(266,HL),(267,PN),(268,PO),(269,PQ),(270,PR),(271,PS),(272,PT),(273,PU),(283,HY),(284,PV)]
def cB:jo:=⟨fun _=>none,false,[],[(30007,0,9),(46009,0,9),(93003,0,2),(94003,0,2),(91004,0,2),(144003,3,2),(262004,0,8),(74007,10,3),(74007,11,3)],[248,116,162,167,206,263,142,45,217,218,219,275,276,277,278,279,280,281,282,33,49,50,51,68,70,39,60,61,62,63,82,83,85,89,95,96,97,98,147,148,194,234,238,239],(some 58),(some 31),128,33,[(61003,([11],[])),(61005,([11],[])),(61007,([11],[])),(61013,([6],[])),(61015,([6,12],[4200])),(98003,([8],[])),(19001,([2],[])),(49006,([21],[])),(33014,([7],[])),(51008,([13],[]))],[],[(1,[0,255]),(2,[0,1])],none,(some 178),[123],none,[]⟩
def cq:List (FuncId×Nat):=[(104106,999999),(104150,999999),(205245,999999)]
def jF:List (Nat×lN):=[(9,⟨9,{cB with loops:=[(9004,⟨[],[],[],[],[]⟩)] },aQ,sg9,cq⟩),
(56,⟨56,cB,aQ,XU,cq⟩),
(37,⟨37,cB,aQ,XK,cq⟩),
(23,⟨23,cB,aQ,XD,cq⟩),
(41,⟨41,cB,aQ,XM,cq⟩),
(65,⟨65,{cB with loops:=[(65003,⟨[],[],[],[],[]⟩)] },aQ,SP,cq⟩),
(42,⟨42,cB,aQ,XO,cq⟩),
(28,⟨28,cB,aQ,Sl,cq⟩),
(100,⟨100,cB,aQ,N2,cq⟩),
(66,⟨66,cB,aQ,XZ,cq⟩),
(43,⟨43,{cB with loops:=[(43005,⟨[],[(4,44,[i6,i6,i6,i6,i6])],[],[],[]⟩),(43010,⟨[],[(4,44,[i6,i6,i6,i6,i6])],[],[],[]⟩)] },aQ,XP,cq⟩),
(29,⟨29,{cB with loops:=[(29003,⟨[],[(3,44,[i6,i6,i6,i6,i6])],[],[],[]⟩)] },aQ,Sm,cq⟩),
(47,⟨47,{cB with loops:=[(47005,⟨[],[(7,4,[.b])],[],[],[]⟩)] },aQ,XS,cq⟩),
(44,⟨44,{cB with loops:=[(44005,⟨[],[],[1],[],[]⟩)] },aQ,XQ,cq⟩),
(46,⟨46,cB,aQ,XR,cq⟩),
(30,⟨30,{cB with loops:=[(30010,⟨[],[],[],[(9,104,[.s 3 i6,.s 4 (.b),.c i6])],[]⟩),(30017,⟨[],[],[19],[],[]⟩)] },aQ,Sn,cq⟩),
(101,⟨101,cB,aQ,N3,cq⟩),
(67,⟨67,{cB with fF:=true},aQ,Se,cq⟩),
(174,⟨174,cB,aQ,OX,cq⟩),
(195,⟨195,{cB with fF:=true},aQ,O5,cq⟩),
(149,⟨149,cB,aQ,OC,cq⟩),
(102,⟨102,cB,aQ,N4,cq⟩),
(151,⟨151,{cB with loops:=[(151003,⟨[],[],[],[],[]⟩),(151008,⟨[],[],[],[],[]⟩)] },aQ,OE,cq⟩),
(150,⟨150,cB,aQ,OD,cq⟩),
(104150,⟨104,{cB with loops:=[(104003,⟨[],[(5,74,bY)],[],[],[]⟩),(104006,⟨[],[(5,74,bY)],[],[],[]⟩)] },aQ,vu,cq⟩),
(103,⟨103,cB,[(104,vu)]++aQ,N5,[(104,104150)]++cq⟩),
(107,⟨107,cB,aQ,N8,cq⟩),
(106,⟨106,cB,aQ,N7,cq⟩),
(104106,⟨104,{cB with loops:=[(104003,⟨[],[(5,74,bY)],[],[],[]⟩),(104006,⟨[],[(5,74,bY)],[],[],[]⟩)] },aQ,vr,cq⟩),
(105,⟨105,cB,aQ,N6,cq⟩),
(69,⟨69,cB,[(104,vr)]++aQ,Sf,[(104,104106)]++cq⟩),
(109,⟨109,{cB with fF:=true},aQ,N9,cq⟩),
(155,⟨155,cB,aQ,OI,cq⟩),
(139,⟨139,{cB with fF:=true},aQ,Ox,cq⟩),
(196,⟨196,{cB with fF:=true},aQ,O6,cq⟩),
(240,⟨240,{cB with fF:=true},aQ,PA,cq⟩),
(197,⟨197,{cB with fF:=true},aQ,O7,cq⟩),
(156,⟨156,cB,aQ,OJ,cq⟩),
(110,⟨110,cB,aQ,Oa,cq⟩),
(157,⟨157,cB,aQ,OK,cq⟩),
(267,⟨267,cB,aQ,PN,cq⟩),
(241,⟨241,{cB with fF:=true,loops:=[(241017,⟨[],[],[],[],[]⟩),(241024,⟨[],[],[],[],[]⟩)] },aQ,PB,cq⟩),
(242,⟨242,{cB with fF:=true},aQ,PC,cq⟩),
(198,⟨198,{cB with fF:=true},aQ,O8,cq⟩),
(199,⟨199,{cB with fF:=true},aQ,O9,cq⟩),
(158,⟨158,{cB with fF:=true},aQ,OL,cq⟩),
(111,⟨111,cB,aQ,Ob,cq⟩),
(71,⟨71,{cB with loops:=[(71003,⟨[(21,0),(21,1),(22,0),(22,1)],[],[],[],[]⟩)] },aQ,Sg,cq⟩),
(159,⟨159,cB,aQ,OM,cq⟩),
(200,⟨200,{cB with fF:=true},aQ,O',cq⟩),
(201,⟨201,{cB with fF:=true},aQ,Pa,cq⟩),
(202,⟨202,{cB with loops:=[(202004,⟨[],[],[],[],[]⟩)] },aQ,Pb,cq⟩),
(160,⟨160,cB,aQ,ON,cq⟩),
(161,⟨161,cB,aQ,OO,cq⟩),
(246,⟨246,{cB with fF:=true},aQ,PF,cq⟩),
(245,⟨245,cB,aQ,PE,cq⟩),
(205245,⟨205,cB,aQ,rV,cq⟩),
(163,⟨163,cB,[(205,rV)]++aQ,OP,[(205,205245)]++cq⟩),
(204,⟨204,{cB with fF:=true},aQ,Pe,cq⟩),
(244,⟨244,{cB with fF:=true},aQ,PD,cq⟩),
(203,⟨203,{cB with fF:=true},aQ,Pd,cq⟩),
(112,⟨112,{cB with fF:=true,loops:=[(112012,⟨[],[(12,74,bY)],[32],[],[]⟩),(112017,⟨[],[(12,74,bY)],[],[],[]⟩),(162003,⟨[],[],[32],[],[]⟩),(162008,⟨[],[],[32],[],[]⟩)] },aQ,Oc,cq⟩),
(164,⟨164,cB,aQ,OQ,cq⟩),
(165,⟨165,cB,aQ,OR,cq⟩),
(210,⟨210,cB,aQ,H0,cq⟩),
(211,⟨211,cB,aQ,H2,cq⟩),
(247,⟨247,cB,aQ,PG,cq⟩),
(250,⟨250,cB,aQ,H3,cq⟩),
(251,⟨251,cB,aQ,H4,cq⟩),
(284,⟨284,cB,aQ,PV,cq⟩),
(268,⟨268,cB,aQ,PO,cq⟩),
(207,⟨207,cB,aQ,HZ,cq⟩),
(208,⟨208,cB,aQ,Pf,cq⟩),
(166,⟨166,cB,aQ,OS,cq⟩),
(168,⟨168,cB,aQ,H5,cq⟩),
(170,⟨170,cB,aQ,OT,cq⟩),
(213,⟨213,cB,aQ,Pg,cq⟩),
(171,⟨171,cB,aQ,OU,cq⟩),
(172,⟨172,cB,[(205,rV)]++aQ,OV,[(205,205245)]++cq⟩),
(113,⟨113,{cB with loops:=[(113012,⟨[],[(105,74,bY)],[],[],[]⟩),(113018,⟨[(7214,0),(7214,1),(4139,0),(4139,1)],[(116,74,bY)],[],[],[]⟩)] },aQ,Od,cq⟩),
(72,⟨72,cB,aQ,Sh,cq⟩),
(114,⟨114,{cB with loops:=[(114004,⟨[],[],[],[],[]⟩),(114010,⟨[],[],[],[],[]⟩)] },aQ,Oe,cq⟩),
(115,⟨115,{cB with loops:=[(115003,⟨[],[(5,279,[i6,i6,i6,i6,i6,i6,i6,i6,i6,.b])],[],[],[]⟩)] },aQ,Of,cq⟩),
(117,⟨117,{cB with loops:=[(117005,⟨[],[(4,76,bY),(5,4,[.b])],[],[],[]⟩)] },aQ,Og,cq⟩),
(173,⟨173,{cB with fF:=true},aQ,OW,cq⟩),
(73,⟨73,{cB with fF:=true,loops:=[(73005,⟨[],[(9,279,[i6,i6,i6,i6,i6,i6,i6,i6,i6,.b])],[],[],[]⟩),(116002,⟨[],[(0,279,[i6,i6,i6,i6,i6,i6,i6,i6,i6,.b])],[],[],[]⟩),(116008,⟨[],[(6,279,[i6,i6,i6,i6,i6,i6,i6,i6,i6,.b])],[],[],[]⟩)] },aQ,Si,cq⟩),
(118,⟨118,{cB with loops:=[(118004,⟨[],[],[],[],[]⟩)] },aQ,Oh,cq⟩),
(119,⟨119,cB,aQ,Oi,cq⟩),
(214,⟨214,{cB with fF:=true},aQ,Pj,cq⟩),
(215,⟨215,cB,aQ,Pk,cq⟩),
(216,⟨216,cB,aQ,Pm,cq⟩),
(175,⟨175,{cB with loops:=[(175003,⟨[(1,0),(1,1)],[],[],[],[]⟩)] },aQ,OY,cq⟩),
(121,⟨121,cB,aQ,Ok,cq⟩),
(120,⟨120,cB,aQ,Oj,cq⟩),
(220,⟨220,cB,aQ,Pn,cq⟩),
(176,⟨176,cB,aQ,OZ,cq⟩),
(269,⟨269,cB,aQ,PQ,cq⟩),
(252,⟨252,cB,aQ,PH,cq⟩),
(270,⟨270,cB,aQ,PR,cq⟩),
(271,⟨271,cB,aQ,PS,cq⟩),
(253,⟨253,cB,aQ,PI,cq⟩),
(221,⟨221,{cB with loops:=[(221008,⟨[],[(12,344,[i6,i6,i6])],[],[],[]⟩),(221012,⟨[],[],[],[],[]⟩)] },aQ,Po,cq⟩),
(222,⟨222,cB,aQ,Pp,cq⟩),
(272,⟨272,cB,aQ,PT,cq⟩),
(273,⟨273,cB,aQ,PU,cq⟩),
(254,⟨254,cB,aQ,PJ,cq⟩),
(223,⟨223,cB,aQ,Pq,cq⟩),
(224,⟨224,cB,aQ,Pr,cq⟩),
(225,⟨225,cB,aQ,Pu,cq⟩),
(177,⟨177,{cB with fF:=true,loops:=[(177007,⟨[],[(13,74,bY)],[],[],[]⟩),(177011,⟨[(92,0),(92,1),(92,2),(92,3),(92,4),(92,5),(92,6),(92,7),(92,8),(92,9)],[],[],[],[]⟩),(177016,⟨[(92,0),(92,1),(92,2),(92,3),(92,4),(92,5),(92,6),(92,7),(92,8),(92,9)],[(13,74,bY)],[],[],[]⟩),(177021,⟨[(96,3),(96,4),(96,5),(96,6),(106,3),(106,4),(106,5),(106,6),(116,3),(116,4),(116,5),(116,6)],[],[],[],[]⟩),(177027,⟨[(92,0),(92,1),(92,2),(92,3),(92,4),(92,5),(92,6),(92,7),(92,8),(92,9)],[],[],[],[]⟩)] },aQ,O0,cq⟩),
(122,⟨122,{cB with loops:=[(122003,⟨[],[(3,74,bY)],[],[],[]⟩)] },aQ,Ol,cq⟩),
(123,⟨123,{cB with loops:=[(123004,⟨[(22,0),(22,1),(22,2)],[(3,74,bY)],[],[],[]⟩)] },aQ,Om,cq⟩),
(124,⟨124,{cB with loops:=[(124003,⟨[],[(3,74,bY)],[],[],[]⟩)] },aQ,On,cq⟩),
(74,⟨74,cB,aQ,Sj,cq⟩),
(152,⟨152,cB,aQ,OF,cq⟩),
(153,⟨153,cB,aQ,OG,cq⟩),
(154,⟨154,cB,aQ,OH,cq⟩),
(108,⟨108,cB,aQ,HI,cq⟩),
(18,⟨18,{cB with loops:=[(18004,⟨[(4703,99),(4703,100),(4703,101),(4703,102),(4703,103)],[],[],[],[(4703,102,74,bY)]⟩),(33003,⟨[],[],[5736,5741],[],[]⟩),(49002,⟨[],[],[],[],[]⟩),(51004,⟨[],[],[5741,5746,5747],[],[]⟩)] },aQ,Xz,cq⟩),
(186,⟨186,{cB with loops:=[(186003,⟨[],[(5,146,[i6,i6])],[],[],[]⟩)] },aQ,O1,cq⟩),
(132,⟨132,cB,aQ,Oo,cq⟩),
(133,⟨133,cB,aQ,Oq,cq⟩),
(80,⟨80,cB,aQ,X1,cq⟩),
(57,⟨57,{cB with loops:=[(57007,⟨[],[],[],[],[]⟩)] },aQ,XV,cq⟩),
(59,⟨59,cB,aQ,XW,cq⟩),
(135,⟨135,cB,aQ,Ou,cq⟩),
(136,⟨136,cB,aQ,Ov,cq⟩),
(137,⟨137,{cB with fF:=true},aQ,Ow,cq⟩),
(84,⟨84,{cB with loops:=[(84006,⟨[],[],[26,25],[],[]⟩),(84010,⟨[],[],[26,25],[],[]⟩)] },aQ,X2,cq⟩),
(86,⟨86,{cB with fF:=true,loops:=[(86003,⟨[],[],[],[],[]⟩)] },aQ,X3,cq⟩),
(88,⟨88,cB,aQ,X4,cq⟩),
(187,⟨187,cB,aQ,O2,cq⟩),
(143,⟨143,cB,aQ,Oz,cq⟩),
(141,⟨141,{cB with loops:=[(141009,⟨[],[],[],[],[]⟩)] },aQ,Oy,cq⟩),
(90,⟨90,cB,aQ,X5,cq⟩),
(91,⟨91,cB,aQ,X6,cq⟩),
(144,⟨144,cB,aQ,OA,cq⟩),
(188,⟨188,cB,aQ,O3,cq⟩),
(145,⟨145,cB,aQ,OB,cq⟩),
(92,⟨92,cB,aQ,X7,cq⟩),
(93,⟨93,cB,aQ,X8,cq⟩),
(94,⟨94,cB,aQ,X9,cq⟩),
(134,⟨134,{cB with loops:=[(134005,⟨[],[(49,3,[i6])],[],[],[]⟩)] },aQ,Ot,cq⟩),
(193,⟨193,cB,aQ,O4,cq⟩),
(232,⟨232,cB,aQ,Pv,cq⟩),
(233,⟨233,cB,aQ,Pw,cq⟩),
(235,⟨235,cB,aQ,Px,cq⟩),
(264,⟨264,cB,aQ,PL,cq⟩),
(236,⟨236,cB,aQ,Py,cq⟩),
(265,⟨265,cB,aQ,PM,cq⟩),
(237,⟨237,cB,aQ,Pz,cq⟩),
(262,⟨262,cB,aQ,PK,cq⟩),
(24,⟨24,{cB with loops:=[(95003,⟨[],[],[4200,4201,3],[],[]⟩),(148003,⟨[],[],[4718,4717,4205,4204],[],[]⟩)],Dk:=[99],xx:=(some (94,33)) },aQ,XE,cq⟩),
(12,⟨12,{cB with loops:=[(12003,⟨[(96,0),(96,1),(96,2),(96,3),(96,4),(96,5),(96,6),(96,7),(96,8),(96,9),(96,10),(96,11),(96,12),(96,13),(96,14),(96,15),(96,16),(96,17),(96,18),(96,19),(96,20),(96,21),(96,22),(96,23),(96,24),(96,25),(96,26),(96,27),(96,28),(96,29),(96,30),(96,31),(96,32),(96,33),(96,34),(96,35),(96,36),(96,37),(96,38),(96,39),(96,40),(96,41),(96,42),(96,43),(96,44),(96,45),(96,46),(96,47),(96,48),(96,49),(96,50),(96,51),(96,52),(96,53),(96,54),(96,55),(96,56),(96,57),(96,58),(96,59),(96,60),(96,61),(96,62),(96,63),(96,64),(96,65),(96,66),(96,67),(96,68),(96,69),(96,70),(96,71),(96,72),(96,73),(96,74),(96,75),(96,76),(96,77),(96,78),(96,79),(96,80),(96,81),(96,82),(96,83),(96,84),(96,85),(96,86),(96,87),(96,88),(96,89),(96,90),(96,91),(96,92),(96,93)],[],[63,62,18,17,6,5],[],[]⟩)] },aQ,Xt,cq⟩),
(55,⟨55,cB,aQ,XT,cq⟩),
(10,⟨10,{cB with inl:=[248,116,162,167,206,263,142,45,217,218,219,275,276,277,278,279,280,281,282,33,49,50,51,68,70,39,60,61,62,63,82,83,85,89,95,96,97,98,147,148,194,234,238,239,22,36,35,52,75,125,53,76,54,77,129,180,78,79,130] },aQ,Xr,cq⟩),
(11,⟨11,cB,aQ,Xs,cq⟩),
(21,⟨21,cB,aQ,XC,cq⟩),
(13,⟨13,cB,aQ,Xu,cq⟩),
(14,⟨14,{cB with loops:=[(14003,⟨[],[],[],[(5,85,[.c i6,.s 3 i6])],[]⟩)] },aQ,Xv,cq⟩),
(25,⟨25,cB,aQ,XG,cq⟩),
(15,⟨15,{cB with loops:=[(15003,⟨[],[(3,3,[i6])],[],[],[]⟩)] },aQ,Xw,cq⟩),
(26,⟨26,{cB with loops:=[(26004,⟨[],[],[],[],[]⟩),(26009,⟨[],[],[],[],[]⟩)] },aQ,XH,cq⟩),
(16,⟨16,cB,aQ,Xx,cq⟩),
(3,⟨3,{cB with loops:=[(3012,⟨[],[],[],[],[]⟩)] },aQ,sg3,cq⟩),
(99,⟨99,cB,aQ,X',cq⟩),
(64,⟨64,{cB with loops:=[(64004,⟨[],[(4,146,[i6,i6])],[],[],[]⟩),(64008,⟨[],[(4,146,[i6,i6])],[],[],[]⟩),(64011,⟨[],[(4,146,[i6,i6])],[],[],[]⟩)] },aQ,XY,cq⟩),
(40,⟨40,{cB with loops:=[(40007,⟨[],[],[],[],[]⟩)] },aQ,XL,cq⟩),
(27,⟨27,{cB with loops:=[(27004,⟨[],[],[],[],[]⟩)] },aQ,XI,cq⟩),
(17,⟨17,cB,aQ,Xy,cq⟩),
(4,⟨4,{cB with loops:=[(4006,⟨[(97,0),(97,1),(97,2),(97,3)],[],[],[],[]⟩)] },aQ,sg4,cq⟩),
(5,⟨5,{cB with loops:=[(5008,⟨[],[],[],[],[]⟩),(5012,⟨[],[],[],[],[]⟩)] },aQ,sg5,cq⟩),
(19,⟨19,{cB with loops:=[(148003,⟨[],[],[4718,4717,4205,4204],[],[]⟩)],inl:=[248,116,162,167,206,263,142,45,217,218,219,275,276,277,278,279,280,281,282,33,49,50,51,68,70,39,60,61,62,63,82,83,85,89,95,96,97,98,147,148,194,234,238,239,24,21] },aQ,XA,cq⟩),
(6,⟨6,cB,aQ,sg6,cq⟩),
(34,⟨34,{cB with loops:=[(34004,⟨[],[],[],[],[]⟩)] },aQ,XJ,cq⟩),
(20,⟨20,cB,aQ,XB,cq⟩),
(7,⟨7,cB,aQ,sg7,cq⟩),
(8,⟨8,cB,aQ,sg8,cq⟩)]
def sgt:List (Nat×bN):=[(9,sg9),(56,XU),(37,XK),(23,XD),(41,XM),(65,SP),(42,XO),(28,Sl),(100,N2),(66,XZ),(43,XP),(29,Sm),(47,XS),(44,XQ),(46,XR),(30,Sn),(101,N3),(67,Se),(174,OX),(195,O5),(149,OC),(102,N4),(151,OE),(150,OD),(104150,vu),(103,N5),(107,N8),(106,N7),(104106,vr),(105,N6),(69,Sf),(109,N9),(155,OI),(139,Ox),(196,O6),(266,HL),(240,PA),(197,O7),(156,OJ),(110,Oa),(157,OK),(283,HY),(267,PN),(241,PB),(242,PC),(198,O8),(199,O9),(158,OL),(111,Ob),(71,Sg),(159,OM),(243,HK),(200,O'),(201,Pa),(202,Pb),(160,ON),(161,OO),(246,PF),(245,PE),(205245,rV),(163,OP),(204,Pe),(244,PD),(203,Pd),(112,Oc),(164,OQ),(165,OR),(210,H0),(211,H2),(247,PG),(250,H3),(251,H4),(284,PV),(268,PO),(207,HZ),(208,Pf),(166,OS),(168,H5),(169,y9),(170,OT),(213,Pg),(171,OU),(172,OV),(113,Od),(72,Sh),(114,Oe),(115,Of),(117,Og),(173,OW),(73,Si),(118,Oh),(119,Oi),(214,Pj),(215,Pk),(216,Pm),(175,OY),(121,Ok),(120,Oj),(220,Pn),(176,OZ),(269,PQ),(252,PH),(270,PR),(271,PS),(253,PI),(221,Po),(222,Pp),(272,PT),(273,PU),(254,PJ),(223,Pq),(224,Pr),(225,Pu),(177,O0),(122,Ol),(123,Om),(124,On),(74,Sj),(152,OF),(153,OG),(154,OH),(108,HI),(18,Xz),(186,O1),(132,Oo),(133,Oq),(80,X1),(57,XV),(59,XW),(135,Ou),(136,Ov),(137,Ow),(84,X2),(86,X3),(87,S'),(140,HM),(88,X4),(187,O2),(143,Oz),(141,Oy),(90,X5),(91,X6),(144,OA),(188,O3),(145,OB),(92,X7),(93,X8),(94,X9),(134,Ot),(146,HO),(193,O4),(232,Pv),(233,Pw),(235,Px),(264,PL),(236,Py),(265,PM),(237,Pz),(262,PK),(24,XE),(12,Xt),(55,XT),(10,Xr),(11,Xs),(21,XC),(13,Xu),(14,Xv),(25,XG),(15,Xw),(26,XH),(16,Xx),(3,sg3),(99,X'),(64,XY),(40,XL),(27,XI),(17,Xy),(4,sg4),(5,sg5),(19,XA),(6,sg6),(34,XJ),(20,XB),(7,sg7),(8,sg8)]
def iD(k:Nat):Option bN:=jP k sgt
end Go.Proofs.YtohebioanhliiaaGreatDoor.aD
namespace Go.Sx
def Cn.a(c:Cn)(ks:List Nat)(x:A):Cn:={c with args:=ks.foldl (fun l k=>l.set k x) c.args}
def Cn.r(c:Cn)(ks:List Nat)(x:A):Cn:={c with res:=ks.foldl (fun l k=>l.set k x) c.res}
def Cn.p(c:Cn)(ps:List BE):Cn:={c with pre:=c.pre++ps}
def Cn.q(c:Cn)(ps:List BE):Cn:={c with post:=c.post++ps}
def Hx:A:=.i (-268435456) 268435456
def P36:A:=.i (-68719476736) 68719476736
def B8:A:=.i 0 255
def B1:A:=.i 0 100
def Cn.win(c:Cn)(k:Nat):Cn:=((c.a [k,k+1] Hx).a [k+2] (.i 0 16777215)).a [k+3,k+4,k+5,k+6] B8
def Cn.RW(c:Cn)(k:Nat):Cn:=((c.r [k,k+1] Hx).r [k+2] (.i 0 16777215)).r [k+3,k+4,k+5,k+6] B8
def Cn.uj(c:Cn)(k:Nat):Cn:=c.a [k,k+1,k+2,k+3] B1
def rr(j:Nat):IE:=.v (R0+j)
def rb(j:Nat):BE:=.v (R0+j)
def imp(a b:BE):BE:=.or (.not a) b
def kI(lo:Int)(x:IE)(hi:Int):List BE:=[.le (.c lo) x,.le x (.c hi)]
def N0:Int:=1099511627776
def A.cap:A->A
 |.l a none cs=>.l a (some N0) cs
 |x=>x
def D6:Int×Int:=(-268435456,268435456)
def Pc:A:=.i (-268500000) 268500000
def eA:List BE->BE
 | []=>.c true
 | [p]=>p
 |p::ps=>.and p (eA ps)
def A4(k:Nat):BE:=eA (kI (-268435456) (.v k) 268435456++kI (-268435456) (.v (k+1)) 268435456++kI 0 (.v (k+2)) 16777215++[3,4,5,6].flatMap fun j=>kI 0 (.v (k+j)) 255)
def F3(k:Nat):BE:=eA (kI 0 (.v k) 65535++kI 1 (.v (k+1)) 256++kI 0 (.v (k+2)) 1099511627776)
def cI:Int×Int:=(mn,mx)
def na:List (Int×Int):=[cI,cI,cI,cI,cI,cI,cI,cI]
def D7:List (Int×Int):=[cI,cI,cI,cI,cI,cI,cI,cI,cI,(0,1)]
def D8:List (Int×Int):=[D6,D6,(0,16777215),(0,255),(0,255),(0,255),(0,255)]
def aaV:List (Int×Int):=[D6,D6,(-536870912,536870912),(-536870912,536870912),(0,1)]
def tj:A:=.l 1 (some 1) [(-268500000,268500000),(-268500000,268500000),(-268500000,268500000),(-268500000,268500000),(0,1),(0,1),(-1200000,1200000),(-1200000,1200000),(0,1),(0,1),(-1200000,1200000),(-1200000,1200000)]
def TS(k:Nat):List BE:=[.le (.min (.v k) (.c 0)) (rr 0),.le (rr 0) (.max (.v (k+2)) (.c 0)),.le (.min (.v (k+1)) (.c 0)) (rr 1),.le (rr 1) (.max (.v (k+3)) (.c 0)),.le (.min (.v k) (.c 0)) (rr 2),.le (rr 2) (.max (.v (k+2)) (.c 0)),.le (.min (.v (k+1)) (.c 0)) (rr 3),.le (rr 3) (.max (.v (k+3)) (.c 0))]
def M28:A:=.i (-268435456) 268435456
def YF(n:Int):A:=.l n (some 8) (List.replicate 16 (-268435456,268435456))
def TU:A:=YF 1
def stQ:BE:=eA (kI 0 (rr 0) 1++kI 1 (.len (R0+1)) 8++kI 1 (.len (R0+2)) 8)
def aaW:List (Int×Int):=[(-68719476736,68719476736),(-68719476736,68719476736),(-68719476736,68719476736),(-68719476736,68719476736),cI,cI,cI,cI]
abbrev aI:A:=.i mn mx
def MS:List A:=[aI,B1,B1,.l 0 (some 10000) [cI],.l 0 (some 10000) [cI],aI,aI,aI,aI,aI,aI,aI,aI,aI,aI,TU,TU]++List.replicate 30 aI++[.b,.b,.b,.b,.b,.b,aI,aI,aI,aI,.b,.b,aI,.l 0 (some 256) aaW,.l 0 (some 256) [(0,1)],
 aI,.b,.b,aI,aI,aI,aI,aI,aI,aI,.b,aI,.b,aI,aI,.b,.b,.b,aI,aI,aI,aI,.b,aI,.b,.b,aI,aI,.b,.b,.b,.b]
def qX(o:Nat):List BE:=[.eq (.len (o+3)) (.mul (.v (o+1)) (.v (o+2))),.eq (.len (o+4)) (.mul (.v (o+1)) (.v (o+2))),.eq (.len (o+60)) (.len (o+61))]
def Cn.pipe(c:Cn):Cn:={c with args:=MS++c.args.drop 94,pre:=c.pre++qX 0}
def Cn.MT(c:Cn):Cn:={c with res:=MS++c.res.drop 94,post:=c.post++qX R0}
def aaX:List (Nat×Nat):=[(1,2),(2,4),(3,1),(4,1),(5,4),(6,5),(7,1),(8,16),(9,16),(10,0),(11,0),(12,0),(13,6),(14,4),(15,1),(16,1),(17,4),(18,0),(19,1),(20,3),(21,2),(22,1),(23,2),(24,2),(25,3),(26,3),(27,3),(28,4),(29,2),(30,4),(31,16),(32,1)]
def V8:List BE:=imp (rb 1) (eA (kI 1 (.v 0) 32))::imp (.eq (.v 0) (.c 13)) (eA [.eq (.get R0 (.c 0) 0) (.c 0),.eq (.get R0 (.c 0) 1) (.c 5)])::aaX.map fun x=>imp (.and (.eq (.v 0) (.c x.1)) (rb 1)) (.eq (.len R0) (.c x.2))
def pg(l:Nat):List BE:=.eq (.len l) (.c 2)::(kI 1 (.get l (.c 0) 0) 1024++kI 1 (.get l (.c 1) 0) 1024)
def agJ(k:Nat)(c:Cn):Cn:=match k with
 |100=>c.a [1] (.i 0 4611686018427387904)
 |42=>c.q (TS 0++TS 4++[.le (rr 0) (rr 2),.le (rr 1) (rr 3)])
 |65=>c.q [imp (rb 0) (.and (.lt (.v 0) (.v 2)) (.lt (.v 1) (.v 3)))]
 |151=>((c.a [0,1] Hx).a [7,8] B1).a [9] (.i 0 67108864)
 |150=>(((c.a [0,1] B1).a [2] (.l 7 (some 7) [D6])).a [3] (.l 1 (some 1) [(0,8192)])).r [0,1] B1
 |106=>(((c.a [0,1] B1).a [2] (.l 7 (some 7) [D6])).a [3] (.l 1 (some 1) [(mn,mx)])).a [4] (.l 1 (some 1) [(1,64)])
 |104150=>(((c.uj 0).r [0] (.l 0 (some 10000) na)).a [4] (.l 7 (some 7) [D6])).a [5] (.l 1 (some 1) [(0,8192)])
 |104106=>((((c.uj 0).r [0] (.l 0 (some 10000) na)).a [4] (.l 7 (some 7) [D6])).a [5] (.l 1 (some 1) [(mn,mx)])).a [6] (.l 1 (some 1) [(1,64)])
 |103=>((c.win 0).a [7] (.i 1 64)).uj 8 |>.r [0] (.l 0 (some 10000) na)
 |107=>(c.a [1] (.i 1 2147483648)).a [0] (.i (-4611686018427387904) 4611686018427387904)
 |105=>(c.win 0).a [7] (.i 1 64)
 |69=>(c.uj 9).r [0] (.l 0 (some 10000) na)
 |166=>c.a [0,1,2,3] Pc |>.r [0] (.i (-1) 4000000)
 |160=>(((c.win 0).win 7).a [14] (.i 1 64)).r [0,1] Hx |>.r [2,3] (.i (-536870912) 536870912) |>.r [4] (.i 0 576460752303423488) |>.r [5,6] (.i (-1) mx)
 |202=>c.r [0] (.i 0 mx)
 |161=>(((c.win 0).win 7).a [14] (.i 1 64)).uj 15 |>.r [0,1] (.i (-1048707) 1048707) |>.q [.le (.v 16) (rr 0),.le (rr 1) (.v 18)]
 |245=>c.a [2,3] (.l 1 (some 1) [(mn,mx)])
 |205245=>((c.win 0).win 7).a [14,15] (.l 1 (some 1) [(mn,mx)])
 |163=>(((c.win 0).win 7).a [14,15] (.i (-1000) 1000))
 |172=>(((c.win 0).win 7).a [14,15] (.i (-16777216) 16777216))
 |204=>c.a [1] (.i 1 2147483648) |>.q [imp (eA (kI (-1073741824) (.v 0) 1073741824)) (eA ([.le (.mul (.v 1) (rr 0)) (.v 0),.lt (.v 0) (.add (.mul (.v 1) (rr 0)) (.v 1))]++kI (-1073741825) (rr 0) 1073741824))]
 |244=>(c.a [0] (.i (-536870912) 536870912)) |>.q [imp (.le (rr 0) (rr 1)) (.and (.le (.v 4) (rr 0)) (.le (rr 1) (.v 5)))]
 |203=>(c.a [0,1] Hx).a [2,3] (.i (-536870912) 536870912) |>.q [imp (.le (rr 0) (rr 1)) (.and (.le (.v 8) (rr 0)) (.le (rr 1) (.v 9)))]
 |164=>(((c.win 0).win 7).a [14] (.i 1 64)).r [0,1,2,3] Pc
 |165=>((c.a [1] (.i 1 256)).a [2] (.i 0 1099511627776)).a [3] (.i (-1) 2147483648) |>.r [2] (.i (-1) 4096) |>.q [.eq (rr 0) (.v 0),.eq (rr 1) (.v 1)]
 |207=>c.a [0,1,2,3] Pc |>.p [.not (.and (.eq (.v 0) (.v 2)) (.eq (.v 1) (.v 3)))] |>.r [0] tj |>.q [.not (.eq (.get R0 (.c 0) 2) (.get R0 (.c 0) 0))]
 |208=>(c.a [0] tj).r [0] (.i (-1) 4000000)
 |209=>(c.a [0] tj).a [1,2] (.i (-16777216) 16777216)
 |210=>(c.a [0] tj).r [0] (.i 0 2500000)
 |211=>(c.a [0] tj).r [0] (.i (-1) 1)
 |247=>(c.a [0] Pc).r [0] (.i (-1100000) 1100000)
 |284=>c.a [0,1] Pc |>.r [0,1] (.i (-1200000) 1200000)
 |268=>(c.a [0] tj).a [1,2] Pc |>.r [0,1] (.i (-1200000) 1200000)
 |250=>((c.a [0] tj).a [1] (.i (-8388608) 8388608)).p [.not (.eq (.get 0 (.c 0) 2) (.get 0 (.c 0) 0))] |>.r [1] (.i 1 549755813888) |>.r [0] (.i (-4611686018427387904) 4611686018427387904)
 |251=>((c.a [0] tj).a [1] (.i (-8388608) 8388608)).p [.not (.eq (.get 0 (.c 0) 2) (.get 0 (.c 0) 0))] |>.r [0] (.i (-4611686018427387905) 4611686018427387904)
 |170=>(c.a [5,6,7,8] B1).a [9] (.i 1 64) |>.r [0,1,2,3] (.i (-64) 100)
 |169=>(c.a [0,1,2,3] Pc).a [4,5,6,7] (.i (-64) 100) |>.r [0] (.l 0 (some 200) [(0,4000000),(-64,100),(-64,100)])
 |174=>c.q [imp (rb 0) (F3 0)]
 |171=>c.a [1] (.i 1 256) |>.a [2] (.i 0 1099511627776) |>.a [3] (.i 0 4000000)
 |195=>c.q [imp (rb 0) (A4 0)]
 |149=>c.q [imp (rb 0) (eA [A4 0,A4 7,.le (.c 1) (.v 14),.le (.v 14) (.c 64),F3 15])]
 |159=>c.q [imp (rb 0) (eA [A4 0,A4 7,.le (.c 1) (.v 14),.le (.v 14) (.c 64)])]
 |102=>c.q [imp (rb 0) (eA [A4 0,.le (.c 1) (.v 7),.le (.v 7) (.c 64),.le (.c 0) (.v 8),.le (.v 8) (.c 2)])]
 |112=>(c.uj 15).r [0] (.l 0 (some 10000) na)
 |113=>(c.uj 19).r [0] (.l 0 (some 12800) na)
 |72=>(c.uj 32).r [0] (.l 0 (some 12800) na)
 |115=>c.p [.eq (.len 0) (.len 1)] |>.a [0] (.l 0 (some 256) (D7.take 8)) |>.a [1] (.l 0 (some 256) [(0,1)]) |>.r [0] (.l 0 (some 256) D7) |>.q [.eq (.len R0) (.len 0)]
 |117=>(c.a [0] (.l 0 (some 131072) D7)).q [.eq (.len R0) (.len 0),.eq (.len (R0+1)) (.len 0)] |>.r [0] (.l 0 (some 131072) (D7.take 8)) |>.r [1] (.l 0 (some 131072) [(0,1)])
 |114=>c.q [imp (rb 0) (eA [.le (.c 3) (.len 0),.le (.len 0) (.c 256),.eq (.len 1) (.len 0),.le (.len 2) (.c 9)])]
 |73=>c.r [0] (.l 0 (some 131072) (D7.take 8)) |>.r [1] (.l 0 (some 131072) [(0,1)]) |>.q [.eq (.len (R0+1)) (.len R0)]
 |118=>c.a [0] (.l 0 (some 131072) D8) |>.a [1] (.l 0 (some 131072) [(0,1)]) |>.q [imp (rb 0) (eA [.le (.c 3) (.len 0),.eq (.len 1) (.len 0)])]
 |215=>(((c.a [0,1,7,8,14,15] Hx))).r [0] (.i (-1152921504606846976) 1152921504606846976)
 |175=>c.a [0] (.l 0 (some 131072) D8)
 |121=>c.a [0] (.l 0 (some 131072) D8)
 |120=>c.a [0] (.l 0 (some 131072) D8)
 |176=>((c.win 0).win 7).win 14 |>.a [21] (.i (-65536) 65536) |>.a [22] (.i (-16777216) 16777216)
 |269=>c.a [0,1,7,8] Hx |>.r [0,1] Hx |>.r [2,3] (.i (-536870912) 536870912) |>.r [4] (.i 0 1)
 |252=>c.a [0,1,7,8,14,15] Hx |>.r [0] (.l 0 (some 3) aaV)
 |270=>c.a [0,1] Hx |>.a [2,3] (.i (-536870912) 536870912) |>.a [5,6] (.i 0 100) |>.r [0] (.i (-576460752303423488) 576460752303423488)
 |271=>(c.a [1] (.i 1 1152921504606846976)).a [0] (.i (-4611686018427387904) 4611686018427387904) |>.r [0] (.i (-4611686018427387905) 4611686018427387904)
 |253=>c.a [0,1] Hx |>.a [2,3] (.i (-536870912) 536870912) |>.a [4] (.i 0 1) |>.a [5] (.i 0 100) |>.q [imp (.lt (rr 0) (rr 1)) (.and (.le (.v 6) (rr 0)) (.le (rr 1) (.v 7)))] |>.a [6,7] (.i (-4611686018427387905) 4611686018427387905) |>.r [0,1] (.i (-4611686018427387905) 4611686018427387905)
 |221=>c.a [0,1,7,8,14,15] Hx |>.uj 21 |>.r [0] (.l 0 (some 100) [(0,100),(0,100),(0,100)])
 |222=>(((c.win 0).win 7).win 14).RW 0 |>.RW 7 |>.RW 14
 |254=>((c.win 0).win 7).win 14
 |223=>((c.win 0).win 7).win 14
 |177=>(((c.win 0).win 7).win 14).uj 22 |>.r [0] (.l 0 (some 10000) na)
 |122=>(((c.a [15] (.i (-65536) 65536)).a [16] (.i (-16777216) 16777216)).a [0] (.l 0 (some 131072) D8)).uj 17 |>.r [0] (.l 0 (some 2000000000) na)
 |123=>(c.a [0] (.l 0 (some 131072) D8)).uj 17 |>.p [.eq (.len 1) (.len 0)] |>.r [0] (.l 0 (some 2000000000) na)
 |124=>((c.a [8] (.i 1 64)).a [0] (.l 0 (some 131072) D8)).uj 17 |>.p [.eq (.len 1) (.len 0)] |>.r [0] (.l 0 (some 2000000000) na)
 |272=>(((c.a [0,1,7,8,14,15] Hx))).a [22,23] (.i 0 100)
 |119=>c.q [imp (rb 0) (eA (kI 1 (.v 0) 64++kI 1 (.v 6) 64++kI 0 (.v 7) 2++kI 0 (.v 8) 2++kI 0 (.v 9) 2++kI 0 (.v 11) 3++kI (-65536) (.v 13) 65536++kI (-16777216) (.v 14) 16777216++[F3 3]))]
 |74=>(c.a [0] (.l 0 (some 131072) D8)).uj 17 |>.a [1] (.l 0 (some 131072) [(0,1)]) |>.r [0] (.l 0 (some 2000000000) na)
 |154=>((c.a [1] (.i 1 4611686018427387904)).a [0] (.i (-4611686018427387904) 4611686018427387904)).r [0] (.i (-4611686018427387905) 4611686018427387904)
 |152=>c.q [imp (rb 0) (eA (kI (-8192) (.v 0) 8192++kI (-8192) (.v 1) 8192++kI 0 (.v 2) 4096++kI 0 (.v 3) 4096))]
 |153=>c.q [imp (rb 0) (eA (kI (-68719476736) (.v 0) 68719476736++kI (-68719476736) (.v 1) 68719476736++kI (-68719476736) (.v 2) 68719476736++kI 1 (.v 3) 68719476736++[4,5,6,7].flatMap fun j=>kI 0 (.v j) 255))]
 |108=>c.RW 0 |>.r [7] (.i 0 9)
 |186=>(c.a [0] (.i 0 16)).q [.eq (.len R0) (.v 0)]
 |41=>c.q [.eq (rr 0) (.c 0),.eq (rr 1) (.c 0),.eq (rr 2) (.v 0),.eq (rr 3) (.v 1)]
 |135=>c.q [imp (.eq (.len 2) (.mul (.v 0) (.v 1))) (.eq (.len (R0+2)) (.mul (rr 0) (rr 1))),imp (.eq (.len 3) (.mul (.v 0) (.v 1))) (.eq (.len (R0+3)) (.mul (rr 0) (rr 1))),.eq (rr 0) (.v 0),.eq (rr 1) (.v 1),.eq (.len (R0+2)) (.len 2),.eq (.len (R0+3)) (.len 3)] |>.a [2,3] (.l 0 (some 10000) [cI]) |>.r [2,3] (.l 0 (some 10000) [cI])
 |84=>c.a [0,1] B1 |>.a [2,3] (.l 0 (some 10000) [cI]) |>.r [2,3] (.l 0 (some 10000) [cI]) |>.p [.eq (.len 2) (.mul (.v 0) (.v 1)),.eq (.len 3) (.mul (.v 0) (.v 1))] |>.r [0,1] B1 |>.q [.eq (rr 0) (.v 0),.eq (rr 1) (.v 1),.eq (.len (R0+2)) (.mul (rr 0) (rr 1)),.eq (.len (R0+3)) (.mul (rr 0) (rr 1))]
 |187=>c.a [1] (.i 0 4611686018427387904) |>.q [.or (rb 0) (.and (.le (.sub (.c 0) (.v 1)) (.v 0)) (.le (.v 0) (.v 1)))]
 |143=>c.q [imp (rb 0) (eA ((List.range 16).flatMap fun j=>kI (-268435456) (.v j) 268435456))]
 |141=>c.q [imp (rb 0) (eA (kI 0 (.v 0) 1++kI 1 (.len 1) 8++kI 1 (.len 2) 8))]
 |188=>c.a [0] (.l 16 (some 16) [(-268435456,268435456)]) |>.a [1] (.i 0 3) |>.a [2] (.l 4 (some 4) [(-268435456,268435456)]) |>.r [0] (.i (-17592186044416) 17592186044416)
 |144=>(c.a [1,2] TU).r ((List.range 16)) M28
 |145=>(c.r [16] (.i 0 12)).q [imp (.eq (rr 16) (.c 0)) (eA ((List.range 16).flatMap fun j=>kI (-268435456) (rr j) 268435456))]
 |90=>((c.a [1,2] TU).r [3] (.i 0 12)).r [1,2] (YF 0) |>.q [imp (.eq (rr 3) (.c 0)) stQ]
 |91=>((c.a [1,2] TU).r [3] (.i 0 12)).r [1,2] (YF 0) |>.q [imp (.eq (rr 3) (.c 0)) stQ]
 |92=>((c.a [1,2] TU).r [3] (.i 0 12)).r [1,2] (YF 0) |>.q [imp (.eq (rr 3) (.c 0)) stQ]
 |93=>((c.a [1,2] TU).r [3] (.i 0 12)).r [1,2] (YF 0) |>.q [imp (.eq (rr 3) (.c 0)) stQ]
 |94=>((c.a [1,2] TU).r [3] (.i 0 12)).r [1,2] (YF 0) |>.q [imp (.eq (rr 3) (.c 0)) stQ]
 |193=>c.r [0,1,2,3] P36 |>.r [4] (.i 0 12)
 |134=>(c.r [4] (.i 0 12)).q [imp (.eq (rr 4) (.c 0)) (eA [.eq (rr 0) (.v 0),.eq (rr 1) (.v 1),.eq (.len (R0+2)) (.mul (rr 0) (rr 1)),.eq (.len (R0+3)) (.mul (rr 0) (rr 1))])] |>.p [.le (.mul (.v 0) (.v 1)) (.c 100)] |>.r [0,1] B1 |>.r [2,3] (.l 0 (some 10000) [cI])
 |59=>c.q [imp (.eq (.v 1) (.c 18)) (.iff (rb 0) (.v 0))]
 |132=>c.r [0] (.l 0 (some 40) [cI,cI]) |>.q (imp (.eq (.v 0) (.c 18)) (rb 1)::imp (.eq (.v 0) (.c 13)) (rb 1)::V8)
 |133=>c.r [0] (.l 0 (some 40) [cI,cI]) |>.q (imp (rb 1) (eA (kI 14 (.v 0) 32))::V8.drop 2)
 |80=>c.r [0] (.l 0 (some 40) [cI,cI]) |>.q (imp (.eq (.v 0) (.c 18)) (rb 1)::V8)
 |57=>(c.a [1] (.l 0 (some 40) [cI])).r [0] (.i 0 12) |>.q (imp (.and (.eq (.v 0) (.c 18)) (.eq (.len 1) (.c 0))) (.eq (rr 0) (.c 0))::imp (.eq (rr 0) (.c 0)) (eA (kI 1 (.v 0) 32))::imp (.and (.eq (.v 0) (.c 13)) (.eq (rr 0) (.c 0))) (eA (kI 0 (.get 1 (.c 0) 0) 5))::(aaX.map fun x=>imp (.and (.eq (.v 0) (.c x.1)) (.eq (rr 0) (.c 0))) (.eq (.len 1) (.c x.2)))++[imp (.and (.eq (.v 0) (.c 1)) (.eq (rr 0) (.c 0))) (eA (pg 1))])
 |19=>(c.pipe.p [.v 58]).r [0,1] B1 |>.r [2,3] (.l 0 (some 10000) [cI]) |>.q [.eq (.len (R0+2)) (.mul (rr 0) (rr 1)),.eq (.len (R0+3)) (.mul (rr 0) (rr 1))]
 |233=>c.q [imp (rb 0) (eA (kI 0 (.v 2) 16777215++([3,4,5,6].flatMap fun j=>kI 0 (.v j) 255)++kI 1 (.v 7) 64))]
 |235=>(c.a [0,1,2,3] B8).a [4] (.i 1 64) |>.r [0,1,2,3] B8
 |264=>c.r [0,1,2,3] B8
 |236=>c.r [0,1,2,3] B8 |>.a [0,1] B1 |>.a [2,3] (.l 0 (some 10000) [cI]) |>.p [.eq (.len 2) (.mul (.v 0) (.v 1)),.eq (.len 3) (.mul (.v 0) (.v 1))] |>.q [imp (rb 5) (eA [.le (.c 0) (.v 4),.lt (.v 4) (.v 0),.le (.c 0) (.v 5),.lt (.v 5) (.v 1)])]
 |265=>(c.a [9] (.i 0 3)).a ([1,2,3,4,5,6,7,8]) B8 |>.r [0] B8
 |237=>c.a ([0,1,2,3,4,5,6,7]) B8 |>.r [0,1,2,3] B8
 |30=>c.a [1] (.l 0 (some 256) []) |>.r [0] (.l 0 (some 256) [(1,256),(0,256),(0,255)])
 |18=>c.pipe.r [0] (.l 0 (some 512000000000) na)
 |28=>c.pipe.r [0,1,2,3] B1
 |29=>c.pipe
 |24=>(c.pipe.a [95] (.l 0 (some 40) [cI])).p [imp (eA (.eq (.v 94) (.c 1)::pg 95)) (.le (.mul (.get 95 (.c 0) 0) (.get 95 (.c 1) 0)) (.c 100))] |>.MT
 |23=>c.MT
 |12=>c.MT.p [.c false]
 |44=>c.p [.c false]
 |241=>c.p [.lt (.v 0) (.v 2)]
 |47=>c.p [.c false]
 |64=>c.a [0] (.i 1 1) |>.r [0] (.l 2 (some 2) [(1,1),(1024,1024)]) |>.q [rb 1]
 |40=>c.a [0] (.i 1 1) |>.a [1] (.l 0 (some 40) [cI]) |>.r [0] (.i 0 12) |>.q [imp (.eq (rr 0) (.c 0)) (eA (pg 1))]
 |17=>{c with pre:=[.c false],res:=(MS.map fun a=>a.yj (zX a))++[.b],post:=qX R0++[imp (rb 94) (eA [.le (.c 1) (.len (R0+15)),.le (.c 1) (.len (R0+16)),rb 58,.le (.c 1) (rr 1),.le (.c 1) (rr 2)])] }
 |37=>c.r [0] (.i 0 0) |>.r [1,2] (.l 1 (some 1) (List.replicate 16 (-268435456,268435456)))
 |56=>c.r (List.range 16) M28
 |87=>c.a [1] (.i 0 16777216) |>.r [0] (.i 0 16777216) |>.r [1] (.i 0 12) |>.q [.le (rr 0) (.v 1)]
 |146=>c.a [1] (.i 0 32) |>.a [2] (.i 0 1099511627776) |>.r [0] (.i (-1099511627776) 1099511627776) |>.r [1] (.i 0 12) |>.q [.le (.sub (.c 0) (.v 2)) (rr 0),.le (rr 0) (.v 2)]
 |283=>c.r [0] (.i 0 64)
 |243=>(c.a [2] (.i 0 1)).r [1] (.i 0 1)
 |266=>(c.a [2] (.i 0 1)).r [1] (.i 0 1)
 |14=>c.a [1] (.l 0 (some 100) [cI,cI]) |>.r [0] (.l 0 (some 200) [])
 |11=>(c.a [0,1,7,8,14,15] Hx)
 |_=>c
def aaY(i:IE):BE:=imp (.lt (.c 0) i) (.and (.le (.get 3 (.c 0) 0) (.get 1 (.c 0) 0)) (.le (.get 1 (.c 0) 0) (.get 3 (.c 0) 1)))
def F4:IE:=.add (.add (.v 3) (.tdiv (.sub (.v 4) (.v 3)) (.c 2))) (.tmod (.sub (.v 4) (.v 3)) (.c 2))
def YG(a b:Nat):IE:=.max (.sub (.v a) (.v b)) (.sub (.c 0) (.sub (.v a) (.v b)))
def uk:IE:=.max (.v 15) (.wrap .i64 (.sub (.ediv (.wrap .i64 (.sub (.min (.v 0) (.v 7)) (.wrap .i64 (.mul (.v 14) (.c 128))))) 256) (.c 1)))
def YH(x y w h:IE):List BE×BE:=([.le (.c 0) x,.lt x w,.le (.c 0) y,.lt y h,.le w (.c 100),.le h (.c 100)],eA [.le (.c 0) (.mul y w),.le (.mul y w) (.c 10000),.le (.c 0) (.add (.mul y w) x),.lt (.add (.mul y w) x) (.mul w h)])
def Hy(a b c d:Nat):BE:=imp (.lt (.v a) (.v b)) (.and (.le (.v c) (.v a)) (.le (.v b) (.v d)))
def MU:IE:=.wrap .i64 (.sub (.wrap .i64 (.tdiv (.v 0) (.v 1))) (.c 1))
def qY(k:Nat):List (List BE×BE):=match k with
 |202=>[([.lt (.v 3) (.v 4)],eA [.lt (.v 3) F4,.le F4 (.v 4),.le (.tdiv (.sub (.v 4) (.v 3)) (.c 2)) (.sub (.v 4) (.v 3))])]
 |221=>[([Hy 37 38 33 34,Hy 33 34 21 23],Hy 37 38 21 23),([.or (.eq (.len 31) (.c 0)) (.le (.v 32) (.c 100)),.le (.len 31) (.v 32)],.le (.len 31) (.c 100))]
 |198=>[([.le (.c 1) (.v 2),.le (.v 2) (.c 9223372036854775807)],.lt (.tmod (.wrap .u64 (.v 6)) (.wrap .u64 (.v 2))) (.wrap .u64 (.v 2))),([.le (.c 1) (.v 2),.le (.v 2) (.c 9223372036854775807)],.lt (.tmod (.wrap .u64 (.v 0)) (.wrap .u64 (.v 2))) (.wrap .u64 (.v 2)))]
 |123=>[([.lt (.c 0) (.len 0),.le (.c 0) (.v 24)],eA [.lt (.tmod (.add (.v 24) (.c 1)) (.len 0)) (.len 0),.le (.c 0) (.tmod (.add (.v 24) (.c 1)) (.len 0))])]
 |84=>[([.eq (.v 23) (.v 0),.eq (.v 24) (.v 1)],.eq (.mul (.v 23) (.v 24)) (.mul (.v 0) (.v 1))),([.lt (.v 1570) (.v 1567),.le (.v 1566) (.v 0),.le (.v 1567) (.v 1),.le (.c 0) (.v 1570),.le (.c 0) (.v 0)],.le (.add (.mul (.v 1570) (.v 0)) (.v 1566)) (.mul (.v 0) (.v 1)))]
 |73=>[([.le (.c 0) (.v 6),.le (.v 6) (.c 100)],.eq (.shl (.c 256) (.wrap .i64 (.add (.v 6) (.c 1)))) (.mul (.c 2) (.shl (.c 256) (.v 6))))]
 |134=>[([.le (.c 1) (.v 0),.le (.c 1) (.v 1),.le (.mul (.v 0) (.v 1)) (.c 100)],eA [.le (.v 0) (.c 100),.le (.v 1) (.c 100)])]
 |236=>[YH (.v 4) (.v 5) (.v 0) (.v 1)]
 |19=>[YH (.get 4713 (.v 4721) 0) (.get 4713 (.v 4721) 1) (.v 4715) (.v 4716)]
 |24=>[YH (.get 4200 (.v 4208) 0) (.get 4200 (.v 4208) 1) (.v 4202) (.v 4203),([.le (.c 1) (.get 95 (.c 0) 0),.le (.c 1) (.get 95 (.c 1) 0),.le (.mul (.get 95 (.c 0) 0) (.get 95 (.c 1) 0)) (.c 100)],eA [.le (.get 95 (.c 0) 0) (.c 100),.le (.get 95 (.c 1) 0) (.c 100)])]
 |57=>[([aaY (.v 6),.le (.c 0) (.v 6),.le (.get 3 (.v 6) 0) (.get 1 (.v 6) 0),.le (.get 1 (.v 6) 0) (.get 3 (.v 6) 1)],.and (.le (.get 3 (.c 0) 0) (.get 1 (.c 0) 0)) (.le (.get 1 (.c 0) 0) (.get 3 (.c 0) 1)))]
 |141=>[([.not (.and (.not (.eq (.v 0) (.c 0))) (.not (.eq (.v 0) (.c 1))))],eA (kI 0 (.v 0) 1))]
 |112=>[([.le (.mul (.c 32) (.v 44)) (.sub (.c 16) (.v 42)),.le (.add (.mul (.c 256) uk) (.c 16)) (.v 42),.le (.sub (.c 0) (.v 44)) (.v 45),.le (.mul (.c 32) (.v 47)) (.sub (.v 43) (.c 16)),.le (.v 43) (.sub (.add (.mul (.c 256) uk) (.mul (.c 256) (.len 38))) (.c 16)),.le (.v 45) (.v 47),.eq (.len 46) (.len 38)],eA [.le (.c 0) (.sub (.ediv (.v 45) 8) uk),.lt (.sub (.ediv (.v 45) 8) uk) (.len 46)])]
 |204=>[([.lt (.tmod (.v 0) (.v 1)) (.c 0),.le (.c 1) (.v 1)],imp (eA (kI (-1073741824) (.v 0) 1073741824)) (eA [.le (.mul (.v 1) MU) (.v 0),.lt (.v 0) (.add (.mul (.v 1) MU) (.v 1))])),([.le (.c 0) (.tmod (.v 0) (.v 1)),.le (.c 1) (.v 1)],imp (eA (kI (-1073741824) (.v 0) 1073741824)) (eA [.le (.mul (.v 1) (.wrap .i64 (.tdiv (.v 0) (.v 1)))) (.v 0),.lt (.v 0) (.add (.mul (.v 1) (.wrap .i64 (.tdiv (.v 0) (.v 1)))) (.v 1))]))]
 |210=>[([],.le (.c 0) (.max (.sub (.get 0 (.c 0) 7) (.get 0 (.c 0) 6)) (.sub (.get 0 (.c 0) 6) (.get 0 (.c 0) 7))))]
 |207=>[([.lt (YG 2 0) (YG 3 1)],.not (.eq (.v 3) (.v 1))),([.le (YG 3 1) (YG 2 0),.not (.and (.eq (.v 0) (.v 2)) (.eq (.v 1) (.v 3)))],.not (.eq (.v 2) (.v 0)))]
 |_=>[]
def RX(k j:Nat)(c:Cn):Cn:=if k=18/\j=73 then c.a [1] .t else if k=12/\j=24 then {c.a [94,95] .t with pre:=c.pre.dropLast}else if k=17/\j=12 then {c with pre:=[] }else c
def bare(k:Nat)(c:Cn):Cn:=if k=57 then {c with post:=c.post.dropLast}else if k=12\/k=17 then {c with pre:=[] }else c
def V9(k:Nat):List BE:=match k with
 |18=>[.le (.c 0) (.get 5224 (.v 5742) 0),.lt (.get 5224 (.v 5742) 0) (.len 60),.le (.c 0) (.get 5216 (.v 5218) 2),.lt (.get 5216 (.v 5218) 2) (.len 60)]
 |_=>[]
def lps(k:Nat):List (Nat×Nat×Iv):=match k with
 |9=>[(9004,2,⟨[.b,.i 0 1099511627776],[(.le (.c 0) (.v 3)),(.le (.v 3) (.len 0))],(.add (.mul (.c (-1)) (.v 3)) (.len 0))⟩)]
 |12=>[(12003,97,⟨[.i 0 1099511627776,aI,.i 0 100,.i 0 100,.l 0 (some 10000) [cI],.l 0 (some 10000) [cI],aI,aI,aI,aI,aI,aI,aI,aI,aI,aI,.l 1 (some 8) [((-268435456),268435456),((-268435456),268435456),((-268435456),268435456),((-268435456),268435456),((-268435456),268435456),((-268435456),268435456),((-268435456),268435456),((-268435456),268435456),((-268435456),268435456),((-268435456),268435456),((-268435456),268435456),((-268435456),268435456),((-268435456),268435456),((-268435456),268435456),((-268435456),268435456),((-268435456),268435456)],.l 1 (some 8) [((-268435456),268435456),((-268435456),268435456),((-268435456),268435456),((-268435456),268435456),((-268435456),268435456),((-268435456),268435456),((-268435456),268435456),((-268435456),268435456),((-268435456),268435456),((-268435456),268435456),((-268435456),268435456),((-268435456),268435456),((-268435456),268435456),((-268435456),268435456),((-268435456),268435456),((-268435456),268435456)],aI,aI,aI,aI,aI,aI,aI,aI,aI,aI,aI,aI,aI,aI,aI,aI,aI,aI,aI,aI,aI,aI,aI,aI,aI,aI,aI,aI,aI,aI,.b,.b,.b,.b,.b,.b,aI,aI,aI,aI,.b,.b,aI,.l 0 (some 256) [((-68719476736),68719476736),((-68719476736),68719476736),((-68719476736),68719476736),((-68719476736),68719476736),cI,cI,cI,cI],.l 0 (some 256) [(0,1)],aI,.b,.b,aI,aI,aI,aI,aI,aI,aI,.b,aI,.b,aI,aI,.b,.b,.b,aI,aI,aI,aI,.b,aI,.b,.b,aI,aI,.b,.b,.b,.b],[(.eq (.len 101) (.mul (.v 99) (.v 100))),(.eq (.len 102) (.mul (.v 99) (.v 100))),(.eq (.len 158) (.len 159))],(.add (.mul (.c (-1)) (.v 97)) (.len 0))⟩)]
 |14=>[(14003,6,⟨[.l 1 (some 101) [],.i 0 100],[(.le (.add (.len 6) (.c 0)) (.add (.v 7) (.len 5))),(.le (.c 0) (.v 7)),(.le (.v 7) (.len 1))],(.add (.mul (.c (-1)) (.v 7)) (.len 1))⟩)]
 |15=>[(15003,95,⟨[.l 0 (some 1099511627776) [cI],.i 0 1099511627776],[(.le (.add (.len 95) (.c 0)) (.add (.v 96) (.c 0))),(.le (.c 0) (.v 96)),(.le (.v 96) (.len 3))],(.add (.mul (.c (-1)) (.v 96)) (.len 3))⟩)]
 |18=>[(18004,5218,⟨[.i 0 256,aI,aI,aI,.l 0 (some 512000000000) [cI,cI,cI,cI,cI,cI,cI,cI],.b],[(.le (.len 5222) (.mul (.c 2000000000) (.v 5218))),(.le (.c 0) (.v 5218)),(.le (.v 5218) (.len 5216))],(.add (.mul (.c (-1)) (.v 5218)) (.len 5216))⟩),(33003,5742,⟨[.i 0 256,.l 0 (some 256) [((-68719476736),68719476736),((-68719476736),68719476736),((-68719476736),68719476736),((-68719476736),68719476736),cI,cI,cI,cI]],[(.le (.c 0) (.v 5742)),(.eq (.len 5743) (.len 5741)),(.le (.add (.len 5743) (.c 0)) (.add (.v 5742) (.len 5741))),(.le (.v 5742) (.len 5741)),(.le (.v 5742) (.len 5224))],(.add (.mul (.c (-1)) (.v 5742)) (.len 5743))⟩),(51004,5748,⟨[.i 0 131072,.l 1 (some 131072) [((-268435456),268435456),((-268435456),268435456),(0,16777215),(0,255),(0,255),(0,255),(0,255)],.l 0 (some 256) [((-68719476736),68719476736),((-68719476736),68719476736),((-68719476736),68719476736),((-68719476736),68719476736),cI,cI,cI,cI]],[(.le (.c 0) (.v 5748)),(.eq (.len 5749) (.len 5747)),(.le (.add (.len 5749) (.c 0)) (.add (.v 5748) (.len 5747))),(.eq (.len 5750) (.len 5743)),(.le (.add (.len 5750) (.c 0)) (.add (.v 5748) (.len 5743))),(.le (.v 5748) (.len 5747)),(.le (.v 5748) (.len 5744)),(.le (.v 5748) (.len 5745))],(.add (.mul (.c (-1)) (.v 5748)) (.len 5749))⟩),(49002,5745,⟨[.i 0 1099511627776],[(.le (.c 0) (.v 5745))],(.add (.mul (.c (-1)) (.v 5745)) (.len 2143))⟩)]
 |19=>[(148003,4720,⟨[.i 0 512000000000,.i 0 512000000000,.l 0 (some 10000) [cI],.l 0 (some 10000) [cI]],[(.eq (.len 4722) (.mul (.v 4715) (.v 4716))),(.eq (.len 4723) (.mul (.v 4715) (.v 4716))),(.le (.c 0) (.v 4720)),(.le (.c 0) (.v 4721)),(.eq (.len 4722) (.len 4718)),(.le (.add (.len 4722) (.c 0)) (.add (.v 4720) (.len 4718))),(.le (.add (.len 4722) (.c 0)) (.add (.v 4721) (.len 4718))),(.eq (.len 4723) (.len 4717)),(.le (.add (.len 4723) (.c 0)) (.add (.v 4720) (.len 4717))),(.le (.add (.len 4723) (.c 0)) (.add (.v 4721) (.len 4717))),(.le (.v 4720) (.len 4713)),(.le (.add (.v 4720) (.c 0)) (.add (.v 4721) (.c 0))),(.le (.v 4721) (.len 4713))],(.add (.mul (.c (-1)) (.v 4721)) (.len 4713))⟩)]
 |24=>[(95003,4202,⟨[.i 0 16,.l 16 (some 16) [((-268435456),268435456)]],[(.le (.c 0) (.v 4202)),(.eq (.len 4203) (.len 4201)),(.le (.add (.len 4203) (.c 0)) (.add (.v 4202) (.len 4201))),(.le (.v 4202) (.len 4201))],(.add (.mul (.c (-1)) (.v 4202)) (.len 95))⟩),(95003,4201,⟨[.i 0 4,.l 4 (some 4) [((-1048576),1048576)]],[(.le (.c 0) (.v 4201)),(.eq (.len 4202) (.len 4200)),(.le (.add (.len 4202) (.c 0)) (.add (.v 4201) (.len 4200))),(.le (.v 4201) (.len 4200))],(.add (.mul (.c (-1)) (.v 4201)) (.len 95))⟩),(148003,4207,⟨[.i 0 512000000000,.i 0 512000000000,.l 0 (some 10000) [cI],.l 0 (some 10000) [cI]],[(.eq (.len 4209) (.mul (.v 4202) (.v 4203))),(.eq (.len 4210) (.mul (.v 4202) (.v 4203))),(.le (.c 0) (.v 4207)),(.le (.c 0) (.v 4208)),(.eq (.len 4209) (.len 4205)),(.le (.add (.len 4209) (.c 0)) (.add (.v 4207) (.len 4205))),(.le (.add (.len 4209) (.c 0)) (.add (.v 4208) (.len 4205))),(.eq (.len 4210) (.len 4204)),(.le (.add (.len 4210) (.c 0)) (.add (.v 4207) (.len 4204))),(.le (.add (.len 4210) (.c 0)) (.add (.v 4208) (.len 4204))),(.le (.v 4207) (.len 4200)),(.le (.add (.v 4207) (.c 0)) (.add (.v 4208) (.c 0))),(.le (.v 4208) (.len 4200))],(.add (.mul (.c (-1)) (.v 4208)) (.len 4200))⟩)]
 |26=>[(26004,10,⟨[.b,.i 0 1099511627776],[(.le (.c 0) (.v 11)),(.le (.v 11) (.len 2)),(.le (.v 11) (.len 6))],(.add (.mul (.c (-1)) (.v 11)) (.len 6))⟩),(26009,12,⟨[.b,.i 0 1099511627776],[(.le (.c 0) (.v 13)),(.le (.v 13) (.len 3)),(.le (.v 13) (.len 7))],(.add (.mul (.c (-1)) (.v 13)) (.len 7))⟩)]
 |29=>[(29003,95,⟨[.l 0 (some 6) [cI,cI,cI,cI,cI],.i 0 6],[(.le (.add (.len 95) (.c 0)) (.add (.v 96) (.c 0))),(.le (.c 0) (.v 96))],(.add (.mul (.c (-1)) (.v 96)) (.c 6))⟩)]
 |34=>[(34004,2,⟨[.b,.i 0 1099511627776],[(.le (.c 0) (.v 3)),(.le (.v 3) (.len 0)),(.le (.v 3) (.len 1))],(.add (.mul (.c (-1)) (.v 3)) (.len 1))⟩)]
 |43=>[(43005,2,⟨[.l 3 (some 3) [(0,mx),(0,0),(0,0),(0,0),(0,0)],.i 0 3],[(.eq (.len 2) (.len 1)),(.le (.add (.len 2) (.c 0)) (.add (.v 3) (.len 1))),(.le (.c 0) (.v 3)),(.le (.v 3) (.len 1))],(.add (.mul (.c (-1)) (.v 3)) (.c 3))⟩),(43010,4,⟨[.i 0 0,.l 3 (some 9) [cI,cI,cI,cI,cI],.i 0 6],[(.le (.c 0) (.v 4)),(.le (.v 4) (.c 0)),(.le (.add (.len 5) (.c 0)) (.add (.v 6) (.len 2))),(.le (.c 0) (.v 6)),(.le (.v 4) (.len 2)),(.le (.v 4) (.len 1)),(.le (.v 4) (.len 0)),(.le (.add (.v 4) (.c 0)) (.add (.v 6) (.c 0))),(.le (.v 6) (.len 0))],(.add (.mul (.c (-1)) (.v 6)) (.len 0))⟩)]
 |57=>[(57007,5,⟨[.i 0 0,.i 0 40],[(.or (.not (.lt (.c 0) (.v 6))) (.and (.le (.get 3 (.c 0) 0) (.get 1 (.c 0) 0)) (.le (.get 1 (.c 0) 0) (.get 3 (.c 0) 1)))),(.le (.c 0) (.v 5)),(.le (.v 5) (.c 0)),(.le (.c 0) (.v 6)),(.le (.v 5) (.len 3)),(.le (.v 5) (.len 1)),(.le (.add (.v 5) (.c 0)) (.add (.v 6) (.c 0))),(.le (.v 6) (.len 3)),(.le (.v 6) (.len 1))],(.add (.mul (.c (-1)) (.v 6)) (.len 3))⟩)]
 |65=>[(65003,6,⟨[.b,.i 0 4],[(.le (.c 0) (.v 7))],(.add (.mul (.c (-1)) (.v 7)) (.c 4))⟩)]
 |71=>[(71003,23,⟨[.b,.i 0 1099511627776,aI,aI,aI,aI],[(.le (.c 0) (.v 24)),(.le (.v 24) (.len 16))],(.add (.mul (.c (-1)) (.v 24)) (.len 16))⟩)]
 |73=>[(73005,5,⟨[.l 0 (some 131072) [cI,cI,cI,cI,cI,cI,cI,cI,cI,(0,1)],.i 0 9],[(.le (.len 5) (.shl (.c 256) (.v 6)))],(.sub (.len 2) (.v 6))⟩),(116002,9,⟨[.l 0 (some 65536) [cI,cI,cI,cI,cI,cI,cI,cI,cI,(0,1)],.i 0 65536],[(.eq (.len 9) (.len 5)),(.le (.add (.len 9) (.c 0)) (.add (.v 10) (.len 5))),(.le (.c 0) (.v 10)),(.le (.v 10) (.len 5))],(.add (.mul (.c (-1)) (.v 10)) (.len 9))⟩),(116008,11,⟨[.l 0 (some 131072) [cI,cI,cI,cI,cI,cI,cI,cI,cI,(0,1)],.i 0 65536],[(.le (.len 11) (.mul (.c 2) (.v 12))),(.le (.v 12) (.shl (.c 256) (.v 6))),(.le (.c 0) (.v 12)),(.le (.v 12) (.len 9)),(.le (.v 12) (.len 5))],(.add (.mul (.c (-1)) (.v 12)) (.len 9))⟩)]
 |84=>[(84006,1570,⟨[.i 0 100,.l 0 (some 10000) [cI],.l 0 (some 10000) [cI]],[(.eq (.len 1571) (.mul (.v 0) (.v 1))),(.eq (.len 1572) (.mul (.v 0) (.v 1))),(.le (.v 1565) (.v 1570)),(.eq (.len 1571) (.len 26)),(.le (.add (.len 1571) (.v 1565)) (.add (.v 1570) (.len 26))),(.eq (.len 1572) (.len 25)),(.le (.add (.len 1572) (.v 1565)) (.add (.v 1570) (.len 25)))],(.add (.mul (.c (-1)) (.v 1570)) (.v 1567))⟩),(84010,1573,⟨[.i 0 100,.l 0 (some 10000) [cI],.l 0 (some 10000) [cI]],[(.eq (.len 1574) (.mul (.v 0) (.v 1))),(.eq (.len 1575) (.mul (.v 0) (.v 1))),(.le (.c 0) (.v 1573)),(.eq (.len 1574) (.len 1571)),(.le (.add (.len 1574) (.c 0)) (.add (.v 1573) (.len 1571))),(.eq (.len 1575) (.len 1572)),(.le (.add (.len 1575) (.c 0)) (.add (.v 1573) (.len 1572))),(.le (.v 1573) (.len 1571)),(.le (.v 1573) (.len 1572)),(.le (.v 1573) (.len 25)),(.le (.v 1573) (.len 26)),(.le (.v 1573) (.len 2)),(.le (.v 1573) (.len 3))],(.add (.mul (.c (-1)) (.v 1573)) (.add (.mul (.c (-1)) (.v 1564)) (.v 1566)))⟩)]
 |86=>[(86003,6,⟨[.b,.i 0 4],[(.le (.c 0) (.v 7))],(.add (.mul (.c (-1)) (.v 7)) (.c 4))⟩)]
 |112=>[(112012,35,⟨[.l 0 (some 10000) [(0,mx),(0,99),cI,cI,cI,cI,cI,cI],.i 0 1048707,.l 0 (some 100) [cI]],[(.le (.len 35) (.mul (.c 100) (.v 36))),(.le (.v 33) (.v 36)),(.eq (.len 37) (.len 32)),(.le (.add (.len 37) (.v 33)) (.add (.v 36) (.len 32)))],(.add (.mul (.c (-1)) (.v 36)) (.v 34))⟩),(162003,40,⟨[.i 0 8,.l 0 (some 100) [cI]],[(.le (.c 0) (.v 40)),(.eq (.len 41) (.len 38)),(.le (.add (.len 41) (.c 0)) (.add (.v 40) (.len 38)))],(.add (.mul (.c (-1)) (.v 40)) (.c 8))⟩),(112017,42,⟨[.l 0 (some 10000) [(0,mx),(0,99),cI,cI,cI,cI,cI,cI],.i 0 100],[(.le (.add (.len 42) (.c 0)) (.add (.v 43) (.len 35))),(.le (.c 0) (.v 43)),(.le (.v 43) (.len 41)),(.le (.v 43) (.len 38)),(.le (.v 43) (.len 37))],(.add (.mul (.c (-1)) (.v 43)) (.len 41))⟩),(162008,45,⟨[.i 0 8389392,.l 0 (some 100) [cI]],[(.le (.wrap .i64 (.sub (.c 0) (.v 44))) (.v 45)),(.eq (.len 46) (.len 41)),(.le (.add (.len 46) (.wrap .i64 (.sub (.c 0) (.v 44)))) (.add (.v 45) (.len 41)))],(.sub (.c 1073741826) (.v 45))⟩)]
 |113=>[(113012,4135,⟨[.i 0 200,.l 0 (some 12800) [((-64),mx),((-64),mx),cI,cI,cI,cI,cI,(64,64)]],[(.le (.len 4136) (.mul (.c 64) (.v 4135))),(.le (.c 0) (.v 4135)),(.le (.v 4135) (.len 4134))],(.add (.mul (.c (-1)) (.v 4135)) (.len 4134))⟩),(113018,4145,⟨[.i 0 64,.i (-64) 164,.i (-64) 164,.l 0 (some 12800) [((-64),mx),((-64),mx),cI,cI,cI,cI,cI,(64,64)]],[(.le (.c 0) (.v 4145)),(.le (.get 4134 (.v 4135) 1) (.v 4146)),(.le (.get 4134 (.v 4135) 2) (.v 4147)),(.le (.add (.len 4148) (.c 0)) (.add (.v 4145) (.len 4136))),(.le (.add (.v 4146) (.c 0)) (.add (.v 4145) (.get 4134 (.v 4135) 1))),(.le (.add (.v 4147) (.c 0)) (.add (.v 4145) (.get 4134 (.v 4135) 2)))],(.add (.mul (.c (-1)) (.v 4145)) (.v 14))⟩),(113012,7210,⟨[.i 0 200,.l 0 (some 12800) [((-64),mx),((-64),mx),cI,cI,cI,cI,cI,(64,64)]],[(.le (.len 7211) (.mul (.c 64) (.v 7210))),(.le (.c 0) (.v 7210)),(.le (.v 7210) (.len 7209))],(.add (.mul (.c (-1)) (.v 7210)) (.len 7209))⟩),(113018,7220,⟨[.i 0 64,.i (-64) 164,.i (-64) 164,.l 0 (some 12800) [((-64),mx),((-64),mx),cI,cI,cI,cI,cI,(64,64)]],[(.le (.c 0) (.v 7220)),(.le (.get 7209 (.v 7210) 1) (.v 7221)),(.le (.get 7209 (.v 7210) 2) (.v 7222)),(.le (.add (.len 7223) (.c 0)) (.add (.v 7220) (.len 7211))),(.le (.add (.v 7221) (.c 0)) (.add (.v 7220) (.get 7209 (.v 7210) 1))),(.le (.add (.v 7222) (.c 0)) (.add (.v 7220) (.get 7209 (.v 7210) 2)))],(.add (.mul (.c (-1)) (.v 7220)) (.v 14))⟩)]
 |114=>[(114004,3,⟨[.b,.i 0 256],[(.le (.c 0) (.v 4)),(.le (.v 4) (.len 0)),(.le (.v 4) (.len 1))],(.add (.mul (.c (-1)) (.v 4)) (.len 0))⟩),(114010,5,⟨[.b,.i 0 9],[(.le (.c 0) (.v 6)),(.le (.v 6) (.len 2))],(.add (.mul (.c (-1)) (.v 6)) (.len 2))⟩)]
 |115=>[(115003,3,⟨[.l 0 (some 256) [cI,cI,cI,cI,cI,cI,cI,cI,(0,0),(0,1)],.i 0 256],[(.eq (.len 3) (.len 2)),(.le (.add (.len 3) (.c 0)) (.add (.v 4) (.len 2))),(.le (.c 0) (.v 4)),(.le (.v 4) (.len 2)),(.le (.v 4) (.len 0)),(.le (.v 4) (.len 1))],(.add (.mul (.c (-1)) (.v 4)) (.len 3))⟩)]
 |117=>[(117005,2562,⟨[.l 1 (some 131072) [cI,cI,cI,cI,cI,cI,cI,cI],.l 1 (some 131072) [(0,1)],.i 0 131072],[(.eq (.len 2562) (.len 1025)),(.le (.add (.len 2562) (.c 0)) (.add (.v 2564) (.len 1025))),(.eq (.len 2563) (.len 2561)),(.le (.add (.len 2563) (.c 0)) (.add (.v 2564) (.len 2561))),(.le (.c 0) (.v 2564)),(.le (.v 2564) (.len 2561)),(.le (.v 2564) (.len 1025)),(.le (.v 2564) (.len 0))],(.add (.mul (.c (-1)) (.v 2564)) (.len 2563))⟩)]
 |118=>[(118004,22,⟨[.b,.i 0 131072],[(.le (.c 0) (.v 23)),(.le (.v 23) (.len 0)),(.le (.v 23) (.len 1))],(.add (.mul (.c (-1)) (.v 23)) (.len 0))⟩)]
 |122=>[(122003,22,⟨[.l 0 (some 1310720000) [cI,cI,cI,cI,cI,cI,cI,cI],.i 2 131072],[(.le (.len 22) (.mul (.c 10000) (.v 23))),(.le (.c 2) (.v 23))],(.add (.mul (.c (-1)) (.v 23)) (.len 0))⟩)]
 |123=>[(123004,23,⟨[.l 0 (some 1677721600) [cI,cI,cI,cI,cI,cI,cI,cI],.i 0 131072,aI,aI,aI],[(.le (.len 23) (.mul (.c 12800) (.v 24))),(.le (.c 0) (.v 24)),(.le (.v 24) (.len 0)),(.le (.v 24) (.len 1))],(.add (.mul (.c (-1)) (.v 24)) (.len 1))⟩)]
 |124=>[(124003,22,⟨[.l 0 (some 1310720000) [cI,cI,cI,cI,cI,cI,cI,cI],.i 0 131072],[(.le (.len 22) (.mul (.c 10000) (.v 23))),(.le (.c 0) (.v 23)),(.le (.v 23) (.len 0)),(.le (.v 23) (.len 1))],(.add (.mul (.c (-1)) (.v 23)) (.len 0))⟩)]
 |134=>[(134005,5636,⟨[.i 0 1048576,.l 1 (some 1048576) [(0,16777215)]],[(.le (.c 0) (.v 5636)),(.eq (.len 5637) (.len 4611)),(.le (.add (.len 5637) (.c 0)) (.add (.v 5636) (.len 4611))),(.le (.v 5636) (.len 4611)),(.le (.v 5636) (.len 2563))],(.add (.mul (.c (-1)) (.v 5636)) (.len 5637))⟩)]
 |141=>[(141009,4,⟨[.b,.i 0 8],[(.le (.c 0) (.v 5)),(.le (.v 5) (.len 1))],(.add (.mul (.c (-1)) (.v 5)) (.len 1))⟩),(141009,6,⟨[.b,.i 0 8,.b],[(.le (.c 0) (.v 7)),(.le (.v 7) (.len 2))],(.add (.mul (.c (-1)) (.v 7)) (.len 2))⟩)]
 |151=>[(151003,11,⟨[.i 0 64,.i 0 8],[(.le (.v 11) (.mul (.c 8) (.v 12))),(.le (.c 0) (.v 11)),(.le (.c 0) (.v 12))],(.add (.mul (.c (-1)) (.v 12)) (.c 8))⟩),(151008,13,⟨[.i 0 64,.i 0 8],[(.le (.v 13) (.add (.mul (.c 8) (.v 12)) (.v 14))),(.le (.v 11) (.v 13)),(.le (.c 0) (.v 14)),(.le (.add (.v 13) (.c 0)) (.add (.v 14) (.v 11)))],(.add (.mul (.c (-1)) (.v 14)) (.c 8))⟩)]
 |175=>[(175003,2,⟨[.i 2 131072,aI,.i 0 18446744073709551615],[(.le (.c 2) (.v 2)),(.le (.c 0) (.v 4))],(.add (.mul (.c (-1)) (.v 2)) (.len 0))⟩)]
 |177=>[(177007,89,⟨[.l 0 (some 10000) [(0,99),(0,100),(0,16777215),cI,cI,cI,cI,(64,64)],.i 0 100],[(.le (.len 89) (.mul (.c 100) (.v 90))),(.le (.c 0) (.v 90)),(.le (.v 90) (.len 30))],(.add (.mul (.c (-1)) (.v 90)) (.len 30))⟩),(177011,93,⟨[.i 0 5,aI,.i 0 18446744073709551615,aI,.i 0 18446744073709551615,aI,.i 0 18446744073709551615,aI,.i 0 18446744073709551615,aI,.i 0 18446744073709551615],[],(.add (.mul (.c (-1)) (.v 93)) (.c 5))⟩),(177016,104,⟨[.l 0 (some 10000) [(0,99),(0,100),(0,16777215),cI,cI,cI,cI,(64,64)],.i 0 100,aI,.i 0 18446744073709551615,aI,.i 0 18446744073709551615,aI,.i 0 18446744073709551615,aI,.i 0 18446744073709551615,aI,.i 0 18446744073709551615],[(.le (.add (.len 104) (.get 30 (.v 90) 1)) (.add (.v 105) (.len 89)))],(.add (.mul (.c (-1)) (.v 105)) (.get 30 (.v 90) 2))⟩),(177021,118,⟨[.i 0 4,aI,aI,aI,aI],[(.le (.c 0) (.v 118))],(.add (.mul (.c (-1)) (.v 118)) (.c 4))⟩),(177027,125,⟨[.i 0 5,aI,.i 0 18446744073709551615,aI,.i 0 18446744073709551615,aI,.i 0 18446744073709551615,aI,.i 0 18446744073709551615,aI,.i 0 18446744073709551615],[],(.add (.mul (.c (-1)) (.v 125)) (.c 5))⟩)]
 |186=>[(186003,5,⟨[.l 0 (some 16) [cI,cI],.i 0 16],[(.eq (.len 5) (.len 4)),(.le (.add (.len 5) (.c 0)) (.add (.v 6) (.len 4))),(.le (.c 0) (.v 6)),(.le (.v 6) (.len 4))],(.add (.mul (.c (-1)) (.v 6)) (.len 5))⟩)]
 |202=>[(202004,3,⟨[aI,aI],[(.le (.c 0) (.v 3)),(.le (.v 3) (.v 4)),(.le (.c 0) (.v 3)),(.le (.v 4) (.c mx)),(.le (.add (.v 4) (.c 0)) (.add (.v 3) (.c mx)))],(.sub (.v 4) (.v 3))⟩)]
 |221=>[(221008,31,⟨[.l 0 (some 100) [(0,99),(0,99),(1,100)],.i 0 1048575],[(.or (.eq (.len 31) (.c 0)) (.le (.v 32) (.c 100))),(.le (.add (.len 31) (.max (.v 22) (.sub (.ediv (.min (.min (.v 1) (.v 8)) (.v 15)) 256) (.c 1)))) (.add (.v 32) (.c 0))),(.le (.max (.v 22) (.sub (.ediv (.min (.min (.v 1) (.v 8)) (.v 15)) 256) (.c 1))) (.v 32))],(.add (.mul (.c (-1)) (.v 32)) (.add (.ediv (.max (.max (.v 1) (.v 8)) (.v 15)) 256) (.c 2)))⟩),(221012,33,⟨[.i (-4611686018427387905) 4611686018427387905,.i (-4611686018427387905) 4611686018427387905,.i 0 3],[(.or (.not (.lt (.v 33) (.v 34))) (.and (.le (.v 21) (.v 33)) (.le (.v 34) (.v 23)))),(.le (.c 0) (.v 35)),(.le (.v 35) (.len 29))],(.add (.mul (.c (-1)) (.v 35)) (.len 29))⟩)]
 |104106=>[(104003,8,⟨[.l 0 (some 10000) [cI,cI,cI,cI,cI,cI,cI,(1,mx)],.i 0 100],[(.le (.len 8) (.mul (.c 100) (.sub (.v 9) (.v 1)))),(.le (.v 1) (.v 9))],(.add (.mul (.c (-1)) (.v 9)) (.v 3))⟩),(104006,10,⟨[.l 0 (some 10000) [cI,cI,cI,cI,cI,cI,cI,(1,mx)],.i 0 100],[(.le (.len 10) (.add (.mul (.c 100) (.sub (.v 9) (.v 1))) (.sub (.v 11) (.v 0)))),(.le (.add (.len 10) (.v 0)) (.add (.v 11) (.len 8))),(.le (.v 0) (.v 11))],(.add (.mul (.c (-1)) (.v 11)) (.v 2))⟩)]
 |104150=>[(104003,7,⟨[.l 0 (some 10000) [(0,100),(0,100),cI,cI,cI,cI,cI,(1,mx)],.i 0 100],[(.le (.len 7) (.mul (.c 100) (.sub (.v 8) (.v 1)))),(.le (.v 1) (.v 8))],(.add (.mul (.c (-1)) (.v 8)) (.v 3))⟩),(104006,9,⟨[.l 0 (some 10000) [(0,100),(0,100),cI,cI,cI,cI,cI,(1,mx)],.i 0 100],[(.le (.len 9) (.add (.mul (.c 100) (.sub (.v 8) (.v 1))) (.sub (.v 10) (.v 0)))),(.le (.add (.len 9) (.v 0)) (.add (.v 10) (.len 7))),(.le (.v 0) (.v 10))],(.add (.mul (.c (-1)) (.v 10)) (.v 2))⟩)]
 |_=>[]
end Go.Sx
namespace Go.Proofs.YtohebioanhliiaaGreatDoor.aD
open Go.Sx
def kc(k:Nat):Cn:=match iD k with
 | some s=>let c:=agJ k (Z3 s)
   ⟨c.args.map A.cap,c.pre,c.res.map A.cap,c.post⟩
 |none=>⟨[],[],[],[]⟩
def an(k:Nat):An:=⟨lps k,qY k,if k=24\/k=18 then(1,12)else if k=19 then(1,0)else(mn,mx)⟩
end Go.Proofs.YtohebioanhliiaaGreatDoor.aD
namespace Go.Proofs.YtohebioanhliiaaGreatDoor.aD
open Go.Sx
def ord:List Nat:=[283,140,243,266,87,146,169,9,56,37,23,41,65,42,28,100,66,43,29,47,44,46,30,101,67,174,195,149,102,151,150,104150,103,107,106,104106,105,69,109,155,139,196,240,197,156,110,157,267,241,242,198,199,158,111,71,159,200,201,202,160,161,246,245,205245,163,204,244,203,112,164,165,210,211,247,250,251,284,268,207,208,166,168,170,213,171,172,113,72,114,115,117,173,73,118,119,214,215,216,175,121,120,220,176,269,252,270,271,253,221,222,272,273,254,223,224,225,177,122,123,124,74,152,153,154,108,18,186,132,133,80,57,59,135,136,137,84,86,88,187,143,141,90,91,144,188,145,92,93,94,134,193,232,233,235,264,236,265,237,262,24,12,55,11,21,13,14,25,15,26,16,99,64,40,27,17,34,20,19,10,3,4,5,6,7,8]
abbrev one(P:Program)(i k:Nat):Bool:=Ms (kD P jF) kc an (ord.take i) k
def Kw(k i j:Nat):Option Cn:=match Ru kc (ord.take i) j with
 |some c=>some (RX k j c)
 |none=>none
def Sw(k:Nat)(p:BE):Bool:=(V9 k).any p.beq
abbrev W9(P:Program)(i k:Nat):Bool:=match kD P jF k with
 |some e=>Nat.ble (bare k (kc k)).args.length R0&&(wi (Kw k i) e.key (an k) (bare k (kc k)) (e.tree.strip (Sw k))).isEmpty
 |none=>false
def rowOf(k:Nat):lN:=(jP k jF).getD ⟨0,cB,[],⟨[],[],0⟩,[]⟩
def kd:Kind:=⟨58,31,128,33,178,[(1,[0,255]),(2,[0,1])]⟩
def xs:List Nat:=[283,140,243,266,87,146,169]
abbrev row(P:Program)(k:Nat):Bool:=JG P kd iD jF xs k (rowOf k)&&(fT P (rowOf k)).lG (bD (rowOf k).s.res)
abbrev part(P:Program)(i n:Nat):Bool:=AZ P (rowOf 24) (Ru kc (ord.take i)) (gR.key ⟨24,.stuck "",(rowOf 24).sub⟩) (an 24) (kc 24) 94 n
abbrev rest(P:Program)(i:Nat):Bool:=D3 P (rowOf 24) (Ru kc (ord.take i)) (gR.key ⟨24,.stuck "",(rowOf 24).sub⟩) (an 24) (kc 24) 94 33
end Go.Proofs.YtohebioanhliiaaGreatDoor.aD

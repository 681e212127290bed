/- THE FUNCTIONS' TREES, written by the program Gen.lean out of the given translation; each is checked by the kernel. -/
import Derived.Test.YtjcomklheilfjaaSxG1
import Derived.Test.YtjcomklheilfjaaChecked
import Derived.KernelRfl
set_option maxRecDepth 100000
set_option linter.unusedVariables false
namespace Go.Proofs.Ytjcomklheilfjaa.Trees
open Go.Sx
def sg3 : Sig := ⟨[.one (.c (.i .i64)), .one (.s 4 [.b]), .one (.c (.b))], [.one (.c (.b))]⟩
def sg4 : Sig := ⟨[.one (.c (.i .i64)), .one (.c (.i .i64))], [.one (.c (.b))]⟩
def sg5 : Sig := ⟨[.one (.c (.i .u8)), .one (.s 4 [.b])], [.one (.c (.b))]⟩
def sg6 : Sig := ⟨[.one (.c (.i .u8)), .one (.c (.b))], [.one (.c (.b))]⟩
def sg7 : Sig := ⟨[.one (.c (.i .u8)), .one (.s 4 [.b]), .one (.c (.b))], [.one (.c (.b))]⟩
def sg8 : Sig := ⟨[], [.one (.c (.b))]⟩
def sg12 : Sig := ⟨[.one (.c (.i .i64)), .one (.c (.i .i64))], [.one (.c (.i .i64))]⟩
def sg13 : Sig := ⟨[.one (.c (.i .i64)), .one (.c (.i .i64))], [.one (.c (.i .i64))]⟩
def sg15 : Sig := ⟨[.one (.c (.i .i64))], [.agg [.c (.i .i64), .s 3 [.i .i64], .s 3 [.i .i64], .c (.i .i64), .c (.i .i64), .c (.b), .c (.b)]]⟩
def sg16 : Sig := ⟨[.one (.s 3 [.i .i64]), .one (.s 4 [.b]), .one (.c (.b))], [.one (.s 4 [.b])]⟩
def sg17 : Sig := ⟨[.one (.c (.i .i64)), .one (.c (.i .i64))], [.one (.s 3 [.i .i64]), .one (.c (.i .i64)), .one (.c (.i .i64)), .one (.c (.b))]⟩
def sg18 : Sig := ⟨[.one (.s 3 [.i .i64])], [.one (.c (.i .i64))]⟩
def sg19 : Sig := ⟨[.one (.c (.i .i64))], [.one (.s 4 [.b])]⟩
def sg20 : Sig := ⟨[.one (.s 4 [.b]), .one (.s 3 [.i .i64])], [.one (.s 4 [.b])]⟩
def sigs : List (FuncId × Sig) := [(3, sg3), (4, sg4), (5, sg5), (6, sg6), (7, sg7), (8, sg8), (12, sg12), (13, sg13), (15, sg15), (16, sg16), (17, sg17), (18, sg18), (19, sg19), (20, sg20)]
end Go.Proofs.Ytjcomklheilfjaa.Trees

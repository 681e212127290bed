/- THE FUNCTIONS' TREES, written by the program Gen.lean out of the given translation; each is checked by the kernel. -/
import Derived.Test.YtnpmcfjagijkgaaSxG1
import Derived.Test.YtnpmcfjagijkgaaChecked
import Derived.KernelRfl
set_option maxRecDepth 100000
set_option linter.unusedVariables false
namespace Go.Proofs.Ytnpmcfjagijkgaa.Trees
open Go.Sx
def sg3 : Sig := ⟨[.agg [.c (.i .i64), .s 33 [.i .i64, .i .i64, .i .i64, .i .i64, .i .i64, .i .i64, .i .i64, .i .i64, .i .i64, .i .i64, .i .i64, .i .i64, .i .i64, .i .i64, .i .i64, .i .i64], .s 33 [.i .i64, .i .i64, .i .i64, .i .i64, .i .i64, .i .i64, .i .i64, .i .i64, .i .i64, .i .i64, .i .i64, .i .i64, .i .i64, .i .i64, .i .i64, .i .i64]], .one (.s 33 [.i .i64, .i .i64, .i .i64, .i .i64, .i .i64, .i .i64, .i .i64, .i .i64, .i .i64, .i .i64, .i .i64, .i .i64, .i .i64, .i .i64, .i .i64, .i .i64])], [.one (.c (.b))]⟩
def sg4 : Sig := ⟨[.agg [.c (.i .i64), .s 33 [.i .i64, .i .i64, .i .i64, .i .i64, .i .i64, .i .i64, .i .i64, .i .i64, .i .i64, .i .i64, .i .i64, .i .i64, .i .i64, .i .i64, .i .i64, .i .i64], .s 33 [.i .i64, .i .i64, .i .i64, .i .i64, .i .i64, .i .i64, .i .i64, .i .i64, .i .i64, .i .i64, .i .i64, .i .i64, .i .i64, .i .i64, .i .i64, .i .i64]], .agg [.c (.i .i64), .c (.i .i64), .c (.i .i64), .c (.i .i64), .c (.i .i64), .c (.i .i64), .c (.i .i64), .c (.i .i64), .c (.i .i64), .c (.i .i64), .c (.i .i64), .c (.i .i64), .c (.i .i64), .c (.i .i64), .c (.i .i64), .c (.i .i64)], .one (.c (.i .i64))], [.one (.c (.b))]⟩
def sg5 : Sig := ⟨[.one (.s 44 [.i .i64, .i .i64, .i .i64, .i .i64, .i .i64, .i .i64, .i .i64, .i .i64, .i .i64, .i .i64, .i .i64, .i .i64, .i .i64, .i .i64, .i .i64, .i .i64, .i .i64, .i .i64])], [.one (.c (.b))]⟩
def sg6 : Sig := ⟨[.one (.s 44 [.i .i64, .i .i64, .i .i64, .i .i64, .i .i64, .i .i64, .i .i64, .i .i64, .i .i64, .i .i64, .i .i64, .i .i64, .i .i64, .i .i64, .i .i64, .i .i64, .i .i64, .i .i64]), .agg [.c (.i .i64), .c (.i .i64), .c (.i .i64), .c (.i .i64), .c (.i .i64), .c (.i .i64), .c (.i .i64), .c (.i .i64), .c (.i .i64), .c (.i .i64), .c (.i .i64), .c (.i .i64), .c (.i .i64), .c (.i .i64), .c (.i .i64), .c (.i .i64)]], [.one (.c (.b))]⟩
def sg7 : Sig := ⟨[.agg [.c (.i .i64), .s 33 [.i .i64, .i .i64, .i .i64, .i .i64, .i .i64, .i .i64, .i .i64, .i .i64, .i .i64, .i .i64, .i .i64, .i .i64, .i .i64, .i .i64, .i .i64, .i .i64], .s 33 [.i .i64, .i .i64, .i .i64, .i .i64, .i .i64, .i .i64, .i .i64, .i .i64, .i .i64, .i .i64, .i .i64, .i .i64, .i .i64, .i .i64, .i .i64, .i .i64]]], [.one (.c (.b))]⟩
def sg8 : Sig := ⟨[], [.one (.c (.b))]⟩
def sg9 : Sig := ⟨[.agg [.c (.i .i64), .s 33 [.i .i64, .i .i64, .i .i64, .i .i64, .i .i64, .i .i64, .i .i64, .i .i64, .i .i64, .i .i64, .i .i64, .i .i64, .i .i64, .i .i64, .i .i64, .i .i64], .s 33 [.i .i64, .i .i64, .i .i64, .i .i64, .i .i64, .i .i64, .i .i64, .i .i64, .i .i64, .i .i64, .i .i64, .i .i64, .i .i64, .i .i64, .i .i64, .i .i64]]], [.agg [.c (.i .i64), .s 33 [.i .i64, .i .i64, .i .i64, .i .i64, .i .i64, .i .i64, .i .i64, .i .i64, .i .i64, .i .i64, .i .i64, .i .i64, .i .i64, .i .i64, .i .i64, .i .i64], .s 33 [.i .i64, .i .i64, .i .i64, .i .i64, .i .i64, .i .i64, .i .i64, .i .i64, .i .i64, .i .i64, .i .i64, .i .i64, .i .i64, .i .i64, .i .i64, .i .i64]], .one (.c (.i .i64))]⟩
def sg10 : Sig := ⟨[.agg [.c (.i .i64), .s 33 [.i .i64, .i .i64, .i .i64, .i .i64, .i .i64, .i .i64, .i .i64, .i .i64, .i .i64, .i .i64, .i .i64, .i .i64, .i .i64, .i .i64, .i .i64, .i .i64], .s 33 [.i .i64, .i .i64, .i .i64, .i .i64, .i .i64, .i .i64, .i .i64, .i .i64, .i .i64, .i .i64, .i .i64, .i .i64, .i .i64, .i .i64, .i .i64, .i .i64]], .agg [.c (.i .i64), .c (.i .i64), .c (.i .i64), .c (.i .i64), .c (.i .i64), .c (.i .i64), .c (.i .i64), .c (.i .i64), .c (.i .i64), .c (.i .i64), .c (.i .i64), .c (.i .i64), .c (.i .i64), .c (.i .i64), .c (.i .i64), .c (.i .i64)]], [.agg [.c (.i .i64), .s 33 [.i .i64, .i .i64, .i .i64, .i .i64, .i .i64, .i .i64, .i .i64, .i .i64, .i .i64, .i .i64, .i .i64, .i .i64, .i .i64, .i .i64, .i .i64, .i .i64], .s 33 [.i .i64, .i .i64, .i .i64, .i .i64, .i .i64, .i .i64, .i .i64, .i .i64, .i .i64, .i .i64, .i .i64, .i .i64, .i .i64, .i .i64, .i .i64, .i .i64]], .one (.c (.i .i64))]⟩
def sg11 : Sig := ⟨[.agg [.c (.i .i64), .s 33 [.i .i64, .i .i64, .i .i64, .i .i64, .i .i64, .i .i64, .i .i64, .i .i64, .i .i64, .i .i64, .i .i64, .i .i64, .i .i64, .i .i64, .i .i64, .i .i64], .s 33 [.i .i64, .i .i64, .i .i64, .i .i64, .i .i64, .i .i64, .i .i64, .i .i64, .i .i64, .i .i64, .i .i64, .i .i64, .i .i64, .i .i64, .i .i64, .i .i64]], .agg [.c (.i .i64), .c (.i .i64), .c (.i .i64), .c (.i .i64), .c (.i .i64), .c (.i .i64), .c (.i .i64), .c (.i .i64), .c (.i .i64), .c (.i .i64), .c (.i .i64), .c (.i .i64), .c (.i .i64), .c (.i .i64), .c (.i .i64), .c (.i .i64)]], [.agg [.c (.i .i64), .s 33 [.i .i64, .i .i64, .i .i64, .i .i64, .i .i64, .i .i64, .i .i64, .i .i64, .i .i64, .i .i64, .i .i64, .i .i64, .i .i64, .i .i64, .i .i64, .i .i64], .s 33 [.i .i64, .i .i64, .i .i64, .i .i64, .i .i64, .i .i64, .i .i64, .i .i64, .i .i64, .i .i64, .i .i64, .i .i64, .i .i64, .i .i64, .i .i64, .i .i64]], .one (.c (.i .i64))]⟩
def sg12 : Sig := ⟨[.agg [.c (.i .i64), .s 33 [.i .i64, .i .i64, .i .i64, .i .i64, .i .i64, .i .i64, .i .i64, .i .i64, .i .i64, .i .i64, .i .i64, .i .i64, .i .i64, .i .i64, .i .i64, .i .i64], .s 33 [.i .i64, .i .i64, .i .i64, .i .i64, .i .i64, .i .i64, .i .i64, .i .i64, .i .i64, .i .i64, .i .i64, .i .i64, .i .i64, .i .i64, .i .i64, .i .i64]]], [.agg [.c (.i .i64), .s 33 [.i .i64, .i .i64, .i .i64, .i .i64, .i .i64, .i .i64, .i .i64, .i .i64, .i .i64, .i .i64, .i .i64, .i .i64, .i .i64, .i .i64, .i .i64, .i .i64], .s 33 [.i .i64, .i .i64, .i .i64, .i .i64, .i .i64, .i .i64, .i .i64, .i .i64, .i .i64, .i .i64, .i .i64, .i .i64, .i .i64, .i .i64, .i .i64, .i .i64]], .one (.c (.i .i64))]⟩
def sg13 : Sig := ⟨[.agg [.c (.i .i64), .s 33 [.i .i64, .i .i64, .i .i64, .i .i64, .i .i64, .i .i64, .i .i64, .i .i64, .i .i64, .i .i64, .i .i64, .i .i64, .i .i64, .i .i64, .i .i64, .i .i64], .s 33 [.i .i64, .i .i64, .i .i64, .i .i64, .i .i64, .i .i64, .i .i64, .i .i64, .i .i64, .i .i64, .i .i64, .i .i64, .i .i64, .i .i64, .i .i64, .i .i64]], .agg [.c (.i .i64), .s 33 [.i .i64, .i .i64, .i .i64, .i .i64, .i .i64, .i .i64, .i .i64, .i .i64, .i .i64, .i .i64, .i .i64, .i .i64, .i .i64, .i .i64, .i .i64, .i .i64], .s 33 [.i .i64, .i .i64, .i .i64, .i .i64, .i .i64, .i .i64, .i .i64, .i .i64, .i .i64, .i .i64, .i .i64, .i .i64, .i .i64, .i .i64, .i .i64, .i .i64]]], [.one (.c (.b))]⟩
def sg14 : Sig := ⟨[.agg [.c (.i .i64), .s 33 [.i .i64, .i .i64, .i .i64, .i .i64, .i .i64, .i .i64, .i .i64, .i .i64, .i .i64, .i .i64, .i .i64, .i .i64, .i .i64, .i .i64, .i .i64, .i .i64], .s 33 [.i .i64, .i .i64, .i .i64, .i .i64, .i .i64, .i .i64, .i .i64, .i .i64, .i .i64, .i .i64, .i .i64, .i .i64, .i .i64, .i .i64, .i .i64, .i .i64]], .one (.c (.i .i64))], [.agg [.c (.i .i64), .c (.i .i64), .c (.i .i64), .c (.i .i64), .c (.i .i64), .c (.i .i64), .c (.i .i64), .c (.i .i64), .c (.i .i64), .c (.i .i64), .c (.i .i64), .c (.i .i64), .c (.i .i64), .c (.i .i64), .c (.i .i64), .c (.i .i64)], .one (.c (.i .i64))]⟩
def sg15 : Sig := ⟨[.agg [.c (.i .i64), .s 33 [.i .i64, .i .i64, .i .i64, .i .i64, .i .i64, .i .i64, .i .i64, .i .i64, .i .i64, .i .i64, .i .i64, .i .i64, .i .i64, .i .i64, .i .i64, .i .i64], .s 33 [.i .i64, .i .i64, .i .i64, .i .i64, .i .i64, .i .i64, .i .i64, .i .i64, .i .i64, .i .i64, .i .i64, .i .i64, .i .i64, .i .i64, .i .i64, .i .i64]], .one (.c (.i .i64))], [.agg [.c (.i .i64), .c (.i .i64), .c (.i .i64), .c (.i .i64), .c (.i .i64), .c (.i .i64), .c (.i .i64), .c (.i .i64), .c (.i .i64), .c (.i .i64), .c (.i .i64), .c (.i .i64), .c (.i .i64), .c (.i .i64), .c (.i .i64), .c (.i .i64)], .one (.c (.i .i64))]⟩
def sg16 : Sig := ⟨[.agg [.c (.i .i64), .s 33 [.i .i64, .i .i64, .i .i64, .i .i64, .i .i64, .i .i64, .i .i64, .i .i64, .i .i64, .i .i64, .i .i64, .i .i64, .i .i64, .i .i64, .i .i64, .i .i64], .s 33 [.i .i64, .i .i64, .i .i64, .i .i64, .i .i64, .i .i64, .i .i64, .i .i64, .i .i64, .i .i64, .i .i64, .i .i64, .i .i64, .i .i64, .i .i64, .i .i64]], .one (.c (.i .i64))], [.agg [.c (.i .i64), .s 33 [.i .i64, .i .i64, .i .i64, .i .i64, .i .i64, .i .i64, .i .i64, .i .i64, .i .i64, .i .i64, .i .i64, .i .i64, .i .i64, .i .i64, .i .i64, .i .i64], .s 33 [.i .i64, .i .i64, .i .i64, .i .i64, .i .i64, .i .i64, .i .i64, .i .i64, .i .i64, .i .i64, .i .i64, .i .i64, .i .i64, .i .i64, .i .i64, .i .i64]], .one (.c (.i .i64))]⟩
def sg17 : Sig := ⟨[.agg [.c (.i .i64), .s 33 [.i .i64, .i .i64, .i .i64, .i .i64, .i .i64, .i .i64, .i .i64, .i .i64, .i .i64, .i .i64, .i .i64, .i .i64, .i .i64, .i .i64, .i .i64, .i .i64], .s 33 [.i .i64, .i .i64, .i .i64, .i .i64, .i .i64, .i .i64, .i .i64, .i .i64, .i .i64, .i .i64, .i .i64, .i .i64, .i .i64, .i .i64, .i .i64, .i .i64]], .one (.c (.i .i64))], [.agg [.c (.i .i64), .s 33 [.i .i64, .i .i64, .i .i64, .i .i64, .i .i64, .i .i64, .i .i64, .i .i64, .i .i64, .i .i64, .i .i64, .i .i64, .i .i64, .i .i64, .i .i64, .i .i64], .s 33 [.i .i64, .i .i64, .i .i64, .i .i64, .i .i64, .i .i64, .i .i64, .i .i64, .i .i64, .i .i64, .i .i64, .i .i64, .i .i64, .i .i64, .i .i64, .i .i64]], .one (.c (.i .i64))]⟩
def sg18 : Sig := ⟨[.agg [.c (.i .i64), .s 33 [.i .i64, .i .i64, .i .i64, .i .i64, .i .i64, .i .i64, .i .i64, .i .i64, .i .i64, .i .i64, .i .i64, .i .i64, .i .i64, .i .i64, .i .i64, .i .i64], .s 33 [.i .i64, .i .i64, .i .i64, .i .i64, .i .i64, .i .i64, .i .i64, .i .i64, .i .i64, .i .i64, .i .i64, .i .i64, .i .i64, .i .i64, .i .i64, .i .i64]], .agg [.c (.i .i64), .c (.i .i64), .c (.i .i64), .c (.i .i64), .c (.i .i64), .c (.i .i64), .c (.i .i64), .c (.i .i64), .c (.i .i64), .c (.i .i64), .c (.i .i64), .c (.i .i64), .c (.i .i64), .c (.i .i64), .c (.i .i64), .c (.i .i64)]], [.agg [.c (.i .i64), .s 33 [.i .i64, .i .i64, .i .i64, .i .i64, .i .i64, .i .i64, .i .i64, .i .i64, .i .i64, .i .i64, .i .i64, .i .i64, .i .i64, .i .i64, .i .i64, .i .i64], .s 33 [.i .i64, .i .i64, .i .i64, .i .i64, .i .i64, .i .i64, .i .i64, .i .i64, .i .i64, .i .i64, .i .i64, .i .i64, .i .i64, .i .i64, .i .i64, .i .i64]], .one (.c (.i .i64))]⟩
def sg19 : Sig := ⟨[.agg [.c (.i .i64), .s 33 [.i .i64, .i .i64, .i .i64, .i .i64, .i .i64, .i .i64, .i .i64, .i .i64, .i .i64, .i .i64, .i .i64, .i .i64, .i .i64, .i .i64, .i .i64, .i .i64], .s 33 [.i .i64, .i .i64, .i .i64, .i .i64, .i .i64, .i .i64, .i .i64, .i .i64, .i .i64, .i .i64, .i .i64, .i .i64, .i .i64, .i .i64, .i .i64, .i .i64]], .agg [.c (.i .i64), .c (.i .i64), .c (.i .i64), .c (.i .i64), .c (.i .i64), .c (.i .i64), .c (.i .i64), .c (.i .i64), .c (.i .i64), .c (.i .i64), .c (.i .i64), .c (.i .i64), .c (.i .i64), .c (.i .i64), .c (.i .i64), .c (.i .i64)]], [.agg [.c (.i .i64), .s 33 [.i .i64, .i .i64, .i .i64, .i .i64, .i .i64, .i .i64, .i .i64, .i .i64, .i .i64, .i .i64, .i .i64, .i .i64, .i .i64, .i .i64, .i .i64, .i .i64], .s 33 [.i .i64, .i .i64, .i .i64, .i .i64, .i .i64, .i .i64, .i .i64, .i .i64, .i .i64, .i .i64, .i .i64, .i .i64, .i .i64, .i .i64, .i .i64, .i .i64]], .one (.c (.i .i64))]⟩
def sg20 : Sig := ⟨[.agg [.c (.i .i64), .s 33 [.i .i64, .i .i64, .i .i64, .i .i64, .i .i64, .i .i64, .i .i64, .i .i64, .i .i64, .i .i64, .i .i64, .i .i64, .i .i64, .i .i64, .i .i64, .i .i64], .s 33 [.i .i64, .i .i64, .i .i64, .i .i64, .i .i64, .i .i64, .i .i64, .i .i64, .i .i64, .i .i64, .i .i64, .i .i64, .i .i64, .i .i64, .i .i64, .i .i64]]], [.agg [.c (.i .i64), .s 33 [.i .i64, .i .i64, .i .i64, .i .i64, .i .i64, .i .i64, .i .i64, .i .i64, .i .i64, .i .i64, .i .i64, .i .i64, .i .i64, .i .i64, .i .i64, .i .i64], .s 33 [.i .i64, .i .i64, .i .i64, .i .i64, .i .i64, .i .i64, .i .i64, .i .i64, .i .i64, .i .i64, .i .i64, .i .i64, .i .i64, .i .i64, .i .i64, .i .i64]], .one (.c (.i .i64))]⟩
def sg21 : Sig := ⟨[.agg [.c (.i .i64), .s 33 [.i .i64, .i .i64, .i .i64, .i .i64, .i .i64, .i .i64, .i .i64, .i .i64, .i .i64, .i .i64, .i .i64, .i .i64, .i .i64, .i .i64, .i .i64, .i .i64], .s 33 [.i .i64, .i .i64, .i .i64, .i .i64, .i .i64, .i .i64, .i .i64, .i .i64, .i .i64, .i .i64, .i .i64, .i .i64, .i .i64, .i .i64, .i .i64, .i .i64]]], [.agg [.c (.i .i64), .s 33 [.i .i64, .i .i64, .i .i64, .i .i64, .i .i64, .i .i64, .i .i64, .i .i64, .i .i64, .i .i64, .i .i64, .i .i64, .i .i64, .i .i64, .i .i64, .i .i64], .s 33 [.i .i64, .i .i64, .i .i64, .i .i64, .i .i64, .i .i64, .i .i64, .i .i64, .i .i64, .i .i64, .i .i64, .i .i64, .i .i64, .i .i64, .i .i64, .i .i64]], .one (.c (.i .i64))]⟩
def sg22 : Sig := ⟨[.agg [.c (.i .i64), .s 33 [.i .i64, .i .i64, .i .i64, .i .i64, .i .i64, .i .i64, .i .i64, .i .i64, .i .i64, .i .i64, .i .i64, .i .i64, .i .i64, .i .i64, .i .i64, .i .i64], .s 33 [.i .i64, .i .i64, .i .i64, .i .i64, .i .i64, .i .i64, .i .i64, .i .i64, .i .i64, .i .i64, .i .i64, .i .i64, .i .i64, .i .i64, .i .i64, .i .i64]]], [.one (.c (.b))]⟩
def sg23 : Sig := ⟨[.agg [.c (.i .i64), .s 33 [.i .i64, .i .i64, .i .i64, .i .i64, .i .i64, .i .i64, .i .i64, .i .i64, .i .i64, .i .i64, .i .i64, .i .i64, .i .i64, .i .i64, .i .i64, .i .i64], .s 33 [.i .i64, .i .i64, .i .i64, .i .i64, .i .i64, .i .i64, .i .i64, .i .i64, .i .i64, .i .i64, .i .i64, .i .i64, .i .i64, .i .i64, .i .i64, .i .i64]]], [.one (.c (.b))]⟩
def sg24 : Sig := ⟨[], [.agg [.c (.i .i64), .s 33 [.i .i64, .i .i64, .i .i64, .i .i64, .i .i64, .i .i64, .i .i64, .i .i64, .i .i64, .i .i64, .i .i64, .i .i64, .i .i64, .i .i64, .i .i64, .i .i64], .s 33 [.i .i64, .i .i64, .i .i64, .i .i64, .i .i64, .i .i64, .i .i64, .i .i64, .i .i64, .i .i64, .i .i64, .i .i64, .i .i64, .i .i64, .i .i64, .i .i64]]]⟩
def sg25 : Sig := ⟨[], [.agg [.c (.i .i64), .s 33 [.i .i64, .i .i64, .i .i64, .i .i64, .i .i64, .i .i64, .i .i64, .i .i64, .i .i64, .i .i64, .i .i64, .i .i64, .i .i64, .i .i64, .i .i64, .i .i64], .s 33 [.i .i64, .i .i64, .i .i64, .i .i64, .i .i64, .i .i64, .i .i64, .i .i64, .i .i64, .i .i64, .i .i64, .i .i64, .i .i64, .i .i64, .i .i64, .i .i64]]]⟩
def sg26 : Sig := ⟨[.agg [.c (.i .i64), .s 33 [.i .i64, .i .i64, .i .i64, .i .i64, .i .i64, .i .i64, .i .i64, .i .i64, .i .i64, .i .i64, .i .i64, .i .i64, .i .i64, .i .i64, .i .i64, .i .i64], .s 33 [.i .i64, .i .i64, .i .i64, .i .i64, .i .i64, .i .i64, .i .i64, .i .i64, .i .i64, .i .i64, .i .i64, .i .i64, .i .i64, .i .i64, .i .i64, .i .i64]], .agg [.c (.i .i64), .c (.i .i64), .c (.i .i64), .c (.i .i64), .c (.i .i64), .c (.i .i64), .c (.i .i64), .c (.i .i64), .c (.i .i64), .c (.i .i64), .c (.i .i64), .c (.i .i64), .c (.i .i64), .c (.i .i64), .c (.i .i64), .c (.i .i64), .c (.i .i64), .c (.i .i64)]], [.agg [.c (.i .i64), .s 33 [.i .i64, .i .i64, .i .i64, .i .i64, .i .i64, .i .i64, .i .i64, .i .i64, .i .i64, .i .i64, .i .i64, .i .i64, .i .i64, .i .i64, .i .i64, .i .i64], .s 33 [.i .i64, .i .i64, .i .i64, .i .i64, .i .i64, .i .i64, .i .i64, .i .i64, .i .i64, .i .i64, .i .i64, .i .i64, .i .i64, .i .i64, .i .i64, .i .i64]], .one (.c (.i .i64))]⟩
def sg27 : Sig := ⟨[.agg [.c (.i .i64), .s 33 [.i .i64, .i .i64, .i .i64, .i .i64, .i .i64, .i .i64, .i .i64, .i .i64, .i .i64, .i .i64, .i .i64, .i .i64, .i .i64, .i .i64, .i .i64, .i .i64], .s 33 [.i .i64, .i .i64, .i .i64, .i .i64, .i .i64, .i .i64, .i .i64, .i .i64, .i .i64, .i .i64, .i .i64, .i .i64, .i .i64, .i .i64, .i .i64, .i .i64]], .agg [.c (.i .i64), .c (.i .i64), .c (.i .i64), .c (.i .i64), .c (.i .i64), .c (.i .i64), .c (.i .i64), .c (.i .i64), .c (.i .i64), .c (.i .i64), .c (.i .i64), .c (.i .i64), .c (.i .i64), .c (.i .i64), .c (.i .i64), .c (.i .i64), .c (.i .i64), .c (.i .i64)]], [.agg [.c (.i .i64), .s 33 [.i .i64, .i .i64, .i .i64, .i .i64, .i .i64, .i .i64, .i .i64, .i .i64, .i .i64, .i .i64, .i .i64, .i .i64, .i .i64, .i .i64, .i .i64, .i .i64], .s 33 [.i .i64, .i .i64, .i .i64, .i .i64, .i .i64, .i .i64, .i .i64, .i .i64, .i .i64, .i .i64, .i .i64, .i .i64, .i .i64, .i .i64, .i .i64, .i .i64]], .one (.c (.i .i64))]⟩
def sg28 : Sig := ⟨[.agg [.c (.i .i64), .c (.i .i64), .c (.i .i64), .c (.i .i64), .c (.i .i64), .c (.i .i64), .c (.i .i64), .c (.i .i64), .c (.i .i64), .c (.i .i64), .c (.i .i64), .c (.i .i64), .c (.i .i64), .c (.i .i64), .c (.i .i64), .c (.i .i64)]], [.one (.c (.b))]⟩
def sg29 : Sig := ⟨[.agg [.c (.i .i64), .c (.i .i64), .c (.i .i64), .c (.i .i64), .c (.i .i64), .c (.i .i64), .c (.i .i64), .c (.i .i64), .c (.i .i64), .c (.i .i64), .c (.i .i64), .c (.i .i64), .c (.i .i64), .c (.i .i64), .c (.i .i64), .c (.i .i64)], .agg [.c (.i .i64), .c (.i .i64), .c (.i .i64), .c (.i .i64), .c (.i .i64), .c (.i .i64), .c (.i .i64), .c (.i .i64), .c (.i .i64), .c (.i .i64), .c (.i .i64), .c (.i .i64), .c (.i .i64), .c (.i .i64), .c (.i .i64), .c (.i .i64)]], [.agg [.c (.i .i64), .c (.i .i64), .c (.i .i64), .c (.i .i64), .c (.i .i64), .c (.i .i64), .c (.i .i64), .c (.i .i64), .c (.i .i64), .c (.i .i64), .c (.i .i64), .c (.i .i64), .c (.i .i64), .c (.i .i64), .c (.i .i64), .c (.i .i64)], .one (.c (.i .i64))]⟩
def sg30 : Sig := ⟨[.agg [.c (.i .i64), .s 33 [.i .i64, .i .i64, .i .i64, .i .i64, .i .i64, .i .i64, .i .i64, .i .i64, .i .i64, .i .i64, .i .i64, .i .i64, .i .i64, .i .i64, .i .i64, .i .i64], .s 33 [.i .i64, .i .i64, .i .i64, .i .i64, .i .i64, .i .i64, .i .i64, .i .i64, .i .i64, .i .i64, .i .i64, .i .i64, .i .i64, .i .i64, .i .i64, .i .i64]]], [.agg [.c (.i .i64), .s 33 [.i .i64, .i .i64, .i .i64, .i .i64, .i .i64, .i .i64, .i .i64, .i .i64, .i .i64, .i .i64, .i .i64, .i .i64, .i .i64, .i .i64, .i .i64, .i .i64], .s 33 [.i .i64, .i .i64, .i .i64, .i .i64, .i .i64, .i .i64, .i .i64, .i .i64, .i .i64, .i .i64, .i .i64, .i .i64, .i .i64, .i .i64, .i .i64, .i .i64]]]⟩
def sg31 : Sig := ⟨[.agg [.c (.i .i64), .c (.i .i64), .c (.i .i64), .c (.i .i64), .c (.i .i64), .c (.i .i64), .c (.i .i64), .c (.i .i64), .c (.i .i64), .c (.i .i64), .c (.i .i64), .c (.i .i64), .c (.i .i64), .c (.i .i64), .c (.i .i64), .c (.i .i64)]], [.one (.c (.b))]⟩
def sg32 : Sig := ⟨[.agg [.c (.i .i64), .c (.i .i64), .c (.i .i64), .c (.i .i64), .c (.i .i64), .c (.i .i64), .c (.i .i64), .c (.i .i64), .c (.i .i64), .c (.i .i64), .c (.i .i64), .c (.i .i64), .c (.i .i64), .c (.i .i64), .c (.i .i64), .c (.i .i64)], .agg [.c (.i .i64), .c (.i .i64), .c (.i .i64), .c (.i .i64), .c (.i .i64), .c (.i .i64), .c (.i .i64), .c (.i .i64), .c (.i .i64), .c (.i .i64), .c (.i .i64), .c (.i .i64), .c (.i .i64), .c (.i .i64), .c (.i .i64), .c (.i .i64)]], [.agg [.c (.i .i64), .c (.i .i64), .c (.i .i64), .c (.i .i64), .c (.i .i64), .c (.i .i64), .c (.i .i64), .c (.i .i64), .c (.i .i64), .c (.i .i64), .c (.i .i64), .c (.i .i64), .c (.i .i64), .c (.i .i64), .c (.i .i64), .c (.i .i64)], .one (.c (.i .i64))]⟩
def sg33 : Sig := ⟨[.agg [.c (.i .i64), .s 33 [.i .i64, .i .i64, .i .i64, .i .i64, .i .i64, .i .i64, .i .i64, .i .i64, .i .i64, .i .i64, .i .i64, .i .i64, .i .i64, .i .i64, .i .i64, .i .i64], .s 33 [.i .i64, .i .i64, .i .i64, .i .i64, .i .i64, .i .i64, .i .i64, .i .i64, .i .i64, .i .i64, .i .i64, .i .i64, .i .i64, .i .i64, .i .i64, .i .i64]]], [.agg [.c (.i .i64), .s 33 [.i .i64, .i .i64, .i .i64, .i .i64, .i .i64, .i .i64, .i .i64, .i .i64, .i .i64, .i .i64, .i .i64, .i .i64, .i .i64, .i .i64, .i .i64, .i .i64], .s 33 [.i .i64, .i .i64, .i .i64, .i .i64, .i .i64, .i .i64, .i .i64, .i .i64, .i .i64, .i .i64, .i .i64, .i .i64, .i .i64, .i .i64, .i .i64, .i .i64]]]⟩
def sg34 : Sig := ⟨[], [.agg [.c (.i .i64), .c (.i .i64), .c (.i .i64), .c (.i .i64), .c (.i .i64), .c (.i .i64), .c (.i .i64), .c (.i .i64), .c (.i .i64), .c (.i .i64), .c (.i .i64), .c (.i .i64), .c (.i .i64), .c (.i .i64), .c (.i .i64), .c (.i .i64)]]⟩
def sg35 : Sig := ⟨[], [.agg [.c (.i .i64), .c (.i .i64), .c (.i .i64), .c (.i .i64), .c (.i .i64), .c (.i .i64), .c (.i .i64), .c (.i .i64), .c (.i .i64), .c (.i .i64), .c (.i .i64), .c (.i .i64), .c (.i .i64), .c (.i .i64), .c (.i .i64), .c (.i .i64)]]⟩
def sg36 : Sig := ⟨[.one (.c (.i .i64)), .one (.c (.i .i64))], [.one (.c (.b))]⟩
def sg37 : Sig := ⟨[.agg [.c (.i .i64), .c (.i .i64), .c (.i .i64), .c (.i .i64), .c (.i .i64), .c (.i .i64), .c (.i .i64), .c (.i .i64), .c (.i .i64), .c (.i .i64), .c (.i .i64), .c (.i .i64), .c (.i .i64), .c (.i .i64), .c (.i .i64), .c (.i .i64)], .one (.c (.i .i64)), .one (.c (.i .i64))], [.one (.c (.i .i64))]⟩
def sg38 : Sig := ⟨[.one (.c (.i .i64))], [.one (.c (.i .i64))]⟩
def sg39 : Sig := ⟨[.one (.c (.i .i64)), .one (.c (.i .i64))], [.one (.c (.b))]⟩
def sg40 : Sig := ⟨[.ptr 3 .i64, .one (.c (.i .i64)), .ptr 3 .i64], [.one (.c (.i .i64))]⟩
def sigs : List (FuncId × Sig) := [(3, sg3), (4, sg4), (5, sg5), (6, sg6), (7, sg7), (8, sg8), (9, sg9), (10, sg10), (11, sg11), (12, sg12), (13, sg13), (14, sg14), (15, sg15), (16, sg16), (17, sg17), (18, sg18), (19, sg19), (20, sg20), (21, sg21), (22, sg22), (23, sg23), (24, sg24), (25, sg25), (26, sg26), (27, sg27), (28, sg28), (29, sg29), (30, sg30), (31, sg31), (32, sg32), (33, sg33), (34, sg34), (35, sg35), (36, sg36), (37, sg37), (38, sg38), (39, sg39), (40, sg40)]
/-- rastrum.rastrumlaw06.StackBack -/
def cfg3 : Cfg := ⟨sigsOf sigs, false, [(7, ⟨[(964, 0), (964, 1), (964, 2)], []⟩)], []⟩
def tree3 : Tree :=
  .ev (.call 7 (.c true) [.i (.v 0), .l 1, .l 2] [.one (.c (.b))] 196) (
   .ite (.or (.not (.v 196)) (.lt (.c 20) (.len 3))) (
    .ev (.call 8 (.c true) [] [.one (.c (.b))] 644) (
     .ret [.b (.v 644)])) (
    .ev (.call 9 (.c true) [.i (.v 0), .l 1, .l 2] [.agg [.c (.i .i64), .s 33 [.i .i64, .i .i64, .i .i64, .i .i64, .i .i64, .i .i64, .i .i64, .i .i64, .i .i64, .i .i64, .i .i64, .i .i64, .i .i64, .i .i64, .i .i64, .i .i64], .s 33 [.i .i64, .i .i64, .i .i64, .i .i64, .i .i64, .i .i64, .i .i64, .i .i64, .i .i64, .i .i64, .i .i64, .i .i64, .i .i64, .i .i64, .i .i64, .i .i64]], .one (.c (.i .i64))] 708) (
     .ite (.not (.eq (.v 711) (.c 0))) (
      .ev (.call 8 (.c true) [] [.one (.c (.b))] 1284) (
       .ev (.need (.or (.not (.v 1284)) (.and (.le (.c (-9223372036854775808)) (.add (.len 709) (.len 710))) (.le (.add (.len 709) (.len 710)) (.c 9223372036854775807))))) (
        .ret [.b (.and (.v 1284) (.eq (.add (.len 709) (.len 710)) (.c 0)))]))) (
      .loop 7 [.i (.c 0), .i (.v 708), .l 709, .l 710] [.c (.i .i64), .c (.i .i64), .s 33 [.i .i64, .i .i64, .i .i64, .i .i64, .i .i64, .i .i64, .i .i64, .i .i64, .i .i64, .i .i64, .i .i64, .i .i64, .i .i64, .i .i64, .i .i64, .i .i64], .s 33 [.i .i64, .i .i64, .i .i64, .i .i64, .i .i64, .i .i64, .i .i64, .i .i64, .i .i64, .i .i64, .i .i64, .i .i64, .i .i64, .i .i64, .i .i64, .i .i64]] 1348 (
       .ite (.lt (.v 1348) (.len 3)) (
        .ev (.need (.le (.c 0) (.v 1348))) (
         .ev (.call 10 (.c true) [.i (.v 1349), .l 1350, .l 1351, .i (.get 3 (.v 1348) 0), .i (.get 3 (.v 1348) 1), .i (.get 3 (.v 1348) 2), .i (.get 3 (.v 1348) 3), .i (.get 3 (.v 1348) 4), .i (.get 3 (.v 1348) 5), .i (.get 3 (.v 1348) 6), .i (.get 3 (.v 1348) 7), .i (.get 3 (.v 1348) 8), .i (.get 3 (.v 1348) 9), .i (.get 3 (.v 1348) 10), .i (.get 3 (.v 1348) 11), .i (.get 3 (.v 1348) 12), .i (.get 3 (.v 1348) 13), .i (.get 3 (.v 1348) 14), .i (.get 3 (.v 1348) 15)] [.agg [.c (.i .i64), .s 33 [.i .i64, .i .i64, .i .i64, .i .i64, .i .i64, .i .i64, .i .i64, .i .i64, .i .i64, .i .i64, .i .i64, .i .i64, .i .i64, .i .i64, .i .i64, .i .i64], .s 33 [.i .i64, .i .i64, .i .i64, .i .i64, .i .i64, .i .i64, .i .i64, .i .i64, .i .i64, .i .i64, .i .i64, .i .i64, .i .i64, .i .i64, .i .i64, .i .i64]], .one (.c (.i .i64))] 1928) (
          .ite (.eq (.tmod (.v 1348) (.c 2)) (.c 1)) (
           .ev (.need (.le (.c 0) (.v 1348))) (
            .ev (.need (.lt (.v 1348) (.len 3))) (
             .ev (.call 11 (.c true) [.i (.v 1349), .l 1350, .l 1351, .i (.get 3 (.v 1348) 0), .i (.get 3 (.v 1348) 1), .i (.get 3 (.v 1348) 2), .i (.get 3 (.v 1348) 3), .i (.get 3 (.v 1348) 4), .i (.get 3 (.v 1348) 5), .i (.get 3 (.v 1348) 6), .i (.get 3 (.v 1348) 7), .i (.get 3 (.v 1348) 8), .i (.get 3 (.v 1348) 9), .i (.get 3 (.v 1348) 10), .i (.get 3 (.v 1348) 11), .i (.get 3 (.v 1348) 12), .i (.get 3 (.v 1348) 13), .i (.get 3 (.v 1348) 14), .i (.get 3 (.v 1348) 15)] [.agg [.c (.i .i64), .s 33 [.i .i64, .i .i64, .i .i64, .i .i64, .i .i64, .i .i64, .i .i64, .i .i64, .i .i64, .i .i64, .i .i64, .i .i64, .i .i64, .i .i64, .i .i64, .i .i64], .s 33 [.i .i64, .i .i64, .i .i64, .i .i64, .i .i64, .i .i64, .i .i64, .i .i64, .i .i64, .i .i64, .i .i64, .i .i64, .i .i64, .i .i64, .i .i64, .i .i64]], .one (.c (.i .i64))] 2888) (
              .ite (.eq (.v 2891) (.c 0)) (
               .ev (.need (.and (.le (.c (-9223372036854775808)) (.add (.v 1348) (.c 1))) (.le (.add (.v 1348) (.c 1)) (.c 9223372036854775807)))) (
                .again 7 [.i (.add (.v 1348) (.c 1)), .i (.v 2888), .l 2889, .l 2890])) (
               .ev (.need (.and (.le (.c (-9223372036854775808)) (.add (.v 1348) (.c 1))) (.le (.add (.v 1348) (.c 1)) (.c 9223372036854775807)))) (
                .again 7 [.i (.add (.v 1348) (.c 1)), .i (.v 1349), .l 1350, .l 1351])))))) (
           .ite (.eq (.v 1931) (.c 0)) (
            .ev (.need (.and (.le (.c (-9223372036854775808)) (.add (.v 1348) (.c 1))) (.le (.add (.v 1348) (.c 1)) (.c 9223372036854775807)))) (
             .again 7 [.i (.add (.v 1348) (.c 1)), .i (.v 1928), .l 1929, .l 1930])) (
            .ev (.need (.and (.le (.c (-9223372036854775808)) (.add (.v 1348) (.c 1))) (.le (.add (.v 1348) (.c 1)) (.c 9223372036854775807)))) (
             .again 7 [.i (.add (.v 1348) (.c 1)), .i (.v 1349), .l 1350, .l 1351])))))) (
        .ev (.call 12 (.c true) [.i (.v 1349), .l 1350, .l 1351] [.agg [.c (.i .i64), .s 33 [.i .i64, .i .i64, .i .i64, .i .i64, .i .i64, .i .i64, .i .i64, .i .i64, .i .i64, .i .i64, .i .i64, .i .i64, .i .i64, .i .i64, .i .i64, .i .i64], .s 33 [.i .i64, .i .i64, .i .i64, .i .i64, .i .i64, .i .i64, .i .i64, .i .i64, .i .i64, .i .i64, .i .i64, .i .i64, .i .i64, .i .i64, .i .i64, .i .i64]], .one (.c (.i .i64))] 1672) (
         .ev (.call 8 (.c true) [] [.one (.c (.b))] 2056) (
          .ev (.call 13 (.and (.v 2056) (.eq (.v 1675) (.c 0))) [.i (.v 1672), .l 1673, .l 1674, .i (.v 0), .l 1, .l 2] [.one (.c (.b))] 2568) (
           .ret [.b (.and (.and (.v 2056) (.eq (.v 1675) (.c 0))) (.v 2568))])))))))))
theorem is3 : prune [] (execFn Try.prog cfg3 Try.f3 sg3 3000) = tree3 := by kernel_rfl
/-- rastrum.rastrumlaw06.StackTells -/
def cfg4 : Cfg := ⟨sigsOf sigs, false, [], []⟩
def tree4 : Tree :=
  .ev (.call 7 (.c true) [.i (.v 0), .l 1, .l 2] [.one (.c (.b))] 276) (
   .ite (.not (.v 276)) (
    .ev (.call 8 (.c true) [] [.one (.c (.b))] 404) (
     .ret [.b (.v 404)])) (
    .ev (.call 14 (.c true) [.i (.v 0), .l 1, .l 2, .i (.v 19)] [.agg [.c (.i .i64), .c (.i .i64), .c (.i .i64), .c (.i .i64), .c (.i .i64), .c (.i .i64), .c (.i .i64), .c (.i .i64), .c (.i .i64), .c (.i .i64), .c (.i .i64), .c (.i .i64), .c (.i .i64), .c (.i .i64), .c (.i .i64), .c (.i .i64)], .one (.c (.i .i64))] 532) (
     .ev (.call 15 (.c true) [.i (.v 0), .l 1, .l 2, .i (.v 19)] [.agg [.c (.i .i64), .c (.i .i64), .c (.i .i64), .c (.i .i64), .c (.i .i64), .c (.i .i64), .c (.i .i64), .c (.i .i64), .c (.i .i64), .c (.i .i64), .c (.i .i64), .c (.i .i64), .c (.i .i64), .c (.i .i64), .c (.i .i64), .c (.i .i64)], .one (.c (.i .i64))] 1108) (
      .ev (.call 16 (.c true) [.i (.v 0), .l 1, .l 2, .i (.v 19)] [.agg [.c (.i .i64), .s 33 [.i .i64, .i .i64, .i .i64, .i .i64, .i .i64, .i .i64, .i .i64, .i .i64, .i .i64, .i .i64, .i .i64, .i .i64, .i .i64, .i .i64, .i .i64, .i .i64], .s 33 [.i .i64, .i .i64, .i .i64, .i .i64, .i .i64, .i .i64, .i .i64, .i .i64, .i .i64, .i .i64, .i .i64, .i .i64, .i .i64, .i .i64, .i .i64, .i .i64]], .one (.c (.i .i64))] 1684) (
       .ev (.call 17 (.c true) [.i (.v 0), .l 1, .l 2, .i (.v 19)] [.agg [.c (.i .i64), .s 33 [.i .i64, .i .i64, .i .i64, .i .i64, .i .i64, .i .i64, .i .i64, .i .i64, .i .i64, .i .i64, .i .i64, .i .i64, .i .i64, .i .i64, .i .i64, .i .i64], .s 33 [.i .i64, .i .i64, .i .i64, .i .i64, .i .i64, .i .i64, .i .i64, .i .i64, .i .i64, .i .i64, .i .i64, .i .i64, .i .i64, .i .i64, .i .i64, .i .i64]], .one (.c (.i .i64))] 2260) (
        .ev (.call 13 (.not (.or (.not (.and (.eq (.v 532) (.v 1108)) (.and (.eq (.v 533) (.v 1109)) (.and (.eq (.v 534) (.v 1110)) (.and (.eq (.v 535) (.v 1111)) (.and (.eq (.v 536) (.v 1112)) (.and (.eq (.v 537) (.v 1113)) (.and (.eq (.v 538) (.v 1114)) (.and (.eq (.v 539) (.v 1115)) (.and (.eq (.v 540) (.v 1116)) (.and (.eq (.v 541) (.v 1117)) (.and (.eq (.v 542) (.v 1118)) (.and (.eq (.v 543) (.v 1119)) (.and (.eq (.v 544) (.v 1120)) (.and (.eq (.v 545) (.v 1121)) (.and (.eq (.v 546) (.v 1122)) (.eq (.v 547) (.v 1123)))))))))))))))))) (.not (.eq (.v 548) (.v 1124))))) [.i (.v 1684), .l 1685, .l 1686, .i (.v 2260), .l 2261, .l 2262] [.one (.c (.b))] 3412) (
         .ite (.or (.or (.or (.not (.and (.eq (.v 532) (.v 1108)) (.and (.eq (.v 533) (.v 1109)) (.and (.eq (.v 534) (.v 1110)) (.and (.eq (.v 535) (.v 1111)) (.and (.eq (.v 536) (.v 1112)) (.and (.eq (.v 537) (.v 1113)) (.and (.eq (.v 538) (.v 1114)) (.and (.eq (.v 539) (.v 1115)) (.and (.eq (.v 540) (.v 1116)) (.and (.eq (.v 541) (.v 1117)) (.and (.eq (.v 542) (.v 1118)) (.and (.eq (.v 543) (.v 1119)) (.and (.eq (.v 544) (.v 1120)) (.and (.eq (.v 545) (.v 1121)) (.and (.eq (.v 546) (.v 1122)) (.eq (.v 547) (.v 1123)))))))))))))))))) (.not (.eq (.v 548) (.v 1124)))) (.not (.v 3412))) (.not (.eq (.v 1687) (.v 2263)))) (
          .ret [.b (.c false)]) (
          .ev (.call 10 (.c true) [.i (.v 0), .l 1, .l 2, .i (.v 3), .i (.v 4), .i (.v 5), .i (.v 6), .i (.v 7), .i (.v 8), .i (.v 9), .i (.v 10), .i (.v 11), .i (.v 12), .i (.v 13), .i (.v 14), .i (.v 15), .i (.v 16), .i (.v 17), .i (.v 18)] [.agg [.c (.i .i64), .s 33 [.i .i64, .i .i64, .i .i64, .i .i64, .i .i64, .i .i64, .i .i64, .i .i64, .i .i64, .i .i64, .i .i64, .i .i64, .i .i64, .i .i64, .i .i64, .i .i64], .s 33 [.i .i64, .i .i64, .i .i64, .i .i64, .i .i64, .i .i64, .i .i64, .i .i64, .i .i64, .i .i64, .i .i64, .i .i64, .i .i64, .i .i64, .i .i64, .i .i64]], .one (.c (.i .i64))] 4052) (
           .ev (.call 18 (.c true) [.i (.v 0), .l 1, .l 2, .i (.v 3), .i (.v 4), .i (.v 5), .i (.v 6), .i (.v 7), .i (.v 8), .i (.v 9), .i (.v 10), .i (.v 11), .i (.v 12), .i (.v 13), .i (.v 14), .i (.v 15), .i (.v 16), .i (.v 17), .i (.v 18)] [.agg [.c (.i .i64), .s 33 [.i .i64, .i .i64, .i .i64, .i .i64, .i .i64, .i .i64, .i .i64, .i .i64, .i .i64, .i .i64, .i .i64, .i .i64, .i .i64, .i .i64, .i .i64, .i .i64], .s 33 [.i .i64, .i .i64, .i .i64, .i .i64, .i .i64, .i .i64, .i .i64, .i .i64, .i .i64, .i .i64, .i .i64, .i .i64, .i .i64, .i .i64, .i .i64, .i .i64]], .one (.c (.i .i64))] 4564) (
            .ev (.call 13 (.c true) [.i (.v 4052), .l 4053, .l 4054, .i (.v 4564), .l 4565, .l 4566] [.one (.c (.b))] 5076) (
             .ite (.or (.not (.v 5076)) (.not (.eq (.v 4055) (.v 4567)))) (
              .ret [.b (.c false)]) (
              .ev (.call 11 (.c true) [.i (.v 0), .l 1, .l 2, .i (.v 3), .i (.v 4), .i (.v 5), .i (.v 6), .i (.v 7), .i (.v 8), .i (.v 9), .i (.v 10), .i (.v 11), .i (.v 12), .i (.v 13), .i (.v 14), .i (.v 15), .i (.v 16), .i (.v 17), .i (.v 18)] [.agg [.c (.i .i64), .s 33 [.i .i64, .i .i64, .i .i64, .i .i64, .i .i64, .i .i64, .i .i64, .i .i64, .i .i64, .i .i64, .i .i64, .i .i64, .i .i64, .i .i64, .i .i64, .i .i64], .s 33 [.i .i64, .i .i64, .i .i64, .i .i64, .i .i64, .i .i64, .i .i64, .i .i64, .i .i64, .i .i64, .i .i64, .i .i64, .i .i64, .i .i64, .i .i64, .i .i64]], .one (.c (.i .i64))] 5652) (
               .ev (.call 19 (.c true) [.i (.v 0), .l 1, .l 2, .i (.v 3), .i (.v 4), .i (.v 5), .i (.v 6), .i (.v 7), .i (.v 8), .i (.v 9), .i (.v 10), .i (.v 11), .i (.v 12), .i (.v 13), .i (.v 14), .i (.v 15), .i (.v 16), .i (.v 17), .i (.v 18)] [.agg [.c (.i .i64), .s 33 [.i .i64, .i .i64, .i .i64, .i .i64, .i .i64, .i .i64, .i .i64, .i .i64, .i .i64, .i .i64, .i .i64, .i .i64, .i .i64, .i .i64, .i .i64, .i .i64], .s 33 [.i .i64, .i .i64, .i .i64, .i .i64, .i .i64, .i .i64, .i .i64, .i .i64, .i .i64, .i .i64, .i .i64, .i .i64, .i .i64, .i .i64, .i .i64, .i .i64]], .one (.c (.i .i64))] 6164) (
                .ev (.call 13 (.c true) [.i (.v 5652), .l 5653, .l 5654, .i (.v 6164), .l 6165, .l 6166] [.one (.c (.b))] 6676) (
                 .ite (.or (.not (.v 6676)) (.not (.eq (.v 5655) (.v 6167)))) (
                  .ret [.b (.c false)]) (
                  .ev (.call 9 (.c true) [.i (.v 0), .l 1, .l 2] [.agg [.c (.i .i64), .s 33 [.i .i64, .i .i64, .i .i64, .i .i64, .i .i64, .i .i64, .i .i64, .i .i64, .i .i64, .i .i64, .i .i64, .i .i64, .i .i64, .i .i64, .i .i64, .i .i64], .s 33 [.i .i64, .i .i64, .i .i64, .i .i64, .i .i64, .i .i64, .i .i64, .i .i64, .i .i64, .i .i64, .i .i64, .i .i64, .i .i64, .i .i64, .i .i64, .i .i64]], .one (.c (.i .i64))] 7188) (
                   .ev (.call 20 (.c true) [.i (.v 0), .l 1, .l 2] [.agg [.c (.i .i64), .s 33 [.i .i64, .i .i64, .i .i64, .i .i64, .i .i64, .i .i64, .i .i64, .i .i64, .i .i64, .i .i64, .i .i64, .i .i64, .i .i64, .i .i64, .i .i64, .i .i64], .s 33 [.i .i64, .i .i64, .i .i64, .i .i64, .i .i64, .i .i64, .i .i64, .i .i64, .i .i64, .i .i64, .i .i64, .i .i64, .i .i64, .i .i64, .i .i64, .i .i64]], .one (.c (.i .i64))] 7636) (
                    .ev (.call 13 (.c true) [.i (.v 7188), .l 7189, .l 7190, .i (.v 7636), .l 7637, .l 7638] [.one (.c (.b))] 8148) (
                     .ite (.or (.not (.v 8148)) (.not (.eq (.v 7191) (.v 7639)))) (
                      .ret [.b (.c false)]) (
                      .ev (.call 12 (.c true) [.i (.v 0), .l 1, .l 2] [.agg [.c (.i .i64), .s 33 [.i .i64, .i .i64, .i .i64, .i .i64, .i .i64, .i .i64, .i .i64, .i .i64, .i .i64, .i .i64, .i .i64, .i .i64, .i .i64, .i .i64, .i .i64, .i .i64], .s 33 [.i .i64, .i .i64, .i .i64, .i .i64, .i .i64, .i .i64, .i .i64, .i .i64, .i .i64, .i .i64, .i .i64, .i .i64, .i .i64, .i .i64, .i .i64, .i .i64]], .one (.c (.i .i64))] 8660) (
                       .ev (.call 21 (.c true) [.i (.v 0), .l 1, .l 2] [.agg [.c (.i .i64), .s 33 [.i .i64, .i .i64, .i .i64, .i .i64, .i .i64, .i .i64, .i .i64, .i .i64, .i .i64, .i .i64, .i .i64, .i .i64, .i .i64, .i .i64, .i .i64, .i .i64], .s 33 [.i .i64, .i .i64, .i .i64, .i .i64, .i .i64, .i .i64, .i .i64, .i .i64, .i .i64, .i .i64, .i .i64, .i .i64, .i .i64, .i .i64, .i .i64, .i .i64]], .one (.c (.i .i64))] 9108) (
                        .ev (.call 8 (.c true) [] [.one (.c (.b))] 9492) (
                         .ev (.call 13 (.v 9492) [.i (.v 8660), .l 8661, .l 8662, .i (.v 9108), .l 9109, .l 9110] [.one (.c (.b))] 9748) (
                          .ev (.call 22 (.and (.and (.v 9492) (.v 9748)) (.eq (.v 8663) (.v 9111))) [.i (.v 0), .l 1, .l 2] [.one (.c (.b))] 10324) (
                           .ev (.call 23 (.and (.and (.v 9492) (.v 9748)) (.eq (.v 8663) (.v 9111))) [.i (.v 0), .l 1, .l 2] [.one (.c (.b))] 10452) (
                            .ev (.call 24 (.and (.and (.and (.v 9492) (.v 9748)) (.eq (.v 8663) (.v 9111))) (.iff (.v 10324) (.v 10452))) [] [.agg [.c (.i .i64), .s 33 [.i .i64, .i .i64, .i .i64, .i .i64, .i .i64, .i .i64, .i .i64, .i .i64, .i .i64, .i .i64, .i .i64, .i .i64, .i .i64, .i .i64, .i .i64, .i .i64], .s 33 [.i .i64, .i .i64, .i .i64, .i .i64, .i .i64, .i .i64, .i .i64, .i .i64, .i .i64, .i .i64, .i .i64, .i .i64, .i .i64, .i .i64, .i .i64, .i .i64]]] 10708) (
                             .ev (.call 25 (.and (.and (.and (.v 9492) (.v 9748)) (.eq (.v 8663) (.v 9111))) (.iff (.v 10324) (.v 10452))) [] [.agg [.c (.i .i64), .s 33 [.i .i64, .i .i64, .i .i64, .i .i64, .i .i64, .i .i64, .i .i64, .i .i64, .i .i64, .i .i64, .i .i64, .i .i64, .i .i64, .i .i64, .i .i64, .i .i64], .s 33 [.i .i64, .i .i64, .i .i64, .i .i64, .i .i64, .i .i64, .i .i64, .i .i64, .i .i64, .i .i64, .i .i64, .i .i64, .i .i64, .i .i64, .i .i64, .i .i64]]] 10772) (
                              .ev (.call 13 (.and (.and (.and (.v 9492) (.v 9748)) (.eq (.v 8663) (.v 9111))) (.iff (.v 10324) (.v 10452))) [.i (.v 10708), .l 10709, .l 10710, .i (.v 10772), .l 10773, .l 10774] [.one (.c (.b))] 10836) (
                               .ret [.b (.and (.and (.and (.and (.v 9492) (.v 9748)) (.eq (.v 8663) (.v 9111))) (.iff (.v 10324) (.v 10452))) (.v 10836))])))))))))))))))))))))))))))))
theorem is4 : prune [] (execFn Try.prog cfg4 Try.f4 sg4 3000) = tree4 := by kernel_rfl
/-- rastrum.rastrumlaw06.StackPlays -/
def cfg5 : Cfg := ⟨sigsOf sigs, false, [(5, ⟨[(385, 0), (449, 0), (385, 1), (449, 1), (385, 2), (449, 2)], []⟩)], []⟩
def tree5 : Tree :=
  .ite (.lt (.c 60) (.len 0)) (
   .ev (.call 8 (.c true) [] [.one (.c (.b))] 257) (
    .ret [.b (.v 257)])) (
   .ev (.call 24 (.c true) [] [.agg [.c (.i .i64), .s 33 [.i .i64, .i .i64, .i .i64, .i .i64, .i .i64, .i .i64, .i .i64, .i .i64, .i .i64, .i .i64, .i .i64, .i .i64, .i .i64, .i .i64, .i .i64, .i .i64], .s 33 [.i .i64, .i .i64, .i .i64, .i .i64, .i .i64, .i .i64, .i .i64, .i .i64, .i .i64, .i .i64, .i .i64, .i .i64, .i .i64, .i .i64, .i .i64, .i .i64]]] 257) (
    .ev (.call 25 (.c true) [] [.agg [.c (.i .i64), .s 33 [.i .i64, .i .i64, .i .i64, .i .i64, .i .i64, .i .i64, .i .i64, .i .i64, .i .i64, .i .i64, .i .i64, .i .i64, .i .i64, .i .i64, .i .i64, .i .i64], .s 33 [.i .i64, .i .i64, .i .i64, .i .i64, .i .i64, .i .i64, .i .i64, .i .i64, .i .i64, .i .i64, .i .i64, .i .i64, .i .i64, .i .i64, .i .i64, .i .i64]]] 321) (
     .loop 5 [.b (.c false), .i (.c 0), .i (.v 321), .l 322, .l 323, .i (.v 257), .l 258, .l 259] [.c (.b), .c (.i .i64), .c (.i .i64), .s 33 [.i .i64, .i .i64, .i .i64, .i .i64, .i .i64, .i .i64, .i .i64, .i .i64, .i .i64, .i .i64, .i .i64, .i .i64, .i .i64, .i .i64, .i .i64, .i .i64], .s 33 [.i .i64, .i .i64, .i .i64, .i .i64, .i .i64, .i .i64, .i .i64, .i .i64, .i .i64, .i .i64, .i .i64, .i .i64, .i .i64, .i .i64, .i .i64, .i .i64], .c (.i .i64), .s 33 [.i .i64, .i .i64, .i .i64, .i .i64, .i .i64, .i .i64, .i .i64, .i .i64, .i .i64, .i .i64, .i .i64, .i .i64, .i .i64, .i .i64, .i .i64, .i .i64], .s 33 [.i .i64, .i .i64, .i .i64, .i .i64, .i .i64, .i .i64, .i .i64, .i .i64, .i .i64, .i .i64, .i .i64, .i .i64, .i .i64, .i .i64, .i .i64, .i .i64]] 705 (
      .ite (.lt (.v 706) (.len 0)) (
       .ev (.need (.le (.c 0) (.v 706))) (
        .ev (.call 26 (.c true) [.i (.v 710), .l 711, .l 712, .i (.get 0 (.v 706) 0), .i (.get 0 (.v 706) 1), .i (.get 0 (.v 706) 2), .i (.get 0 (.v 706) 3), .i (.get 0 (.v 706) 4), .i (.get 0 (.v 706) 5), .i (.get 0 (.v 706) 6), .i (.get 0 (.v 706) 7), .i (.get 0 (.v 706) 8), .i (.get 0 (.v 706) 9), .i (.get 0 (.v 706) 10), .i (.get 0 (.v 706) 11), .i (.get 0 (.v 706) 12), .i (.get 0 (.v 706) 13), .i (.get 0 (.v 706) 14), .i (.get 0 (.v 706) 15), .i (.get 0 (.v 706) 16), .i (.get 0 (.v 706) 17)] [.agg [.c (.i .i64), .s 33 [.i .i64, .i .i64, .i .i64, .i .i64, .i .i64, .i .i64, .i .i64, .i .i64, .i .i64, .i .i64, .i .i64, .i .i64, .i .i64, .i .i64, .i .i64, .i .i64], .s 33 [.i .i64, .i .i64, .i .i64, .i .i64, .i .i64, .i .i64, .i .i64, .i .i64, .i .i64, .i .i64, .i .i64, .i .i64, .i .i64, .i .i64, .i .i64, .i .i64]], .one (.c (.i .i64))] 1289) (
         .ev (.need (.le (.c 0) (.v 706))) (
          .ev (.need (.lt (.v 706) (.len 0))) (
           .ev (.call 27 (.c true) [.i (.v 707), .l 708, .l 709, .i (.get 0 (.v 706) 0), .i (.get 0 (.v 706) 1), .i (.get 0 (.v 706) 2), .i (.get 0 (.v 706) 3), .i (.get 0 (.v 706) 4), .i (.get 0 (.v 706) 5), .i (.get 0 (.v 706) 6), .i (.get 0 (.v 706) 7), .i (.get 0 (.v 706) 8), .i (.get 0 (.v 706) 9), .i (.get 0 (.v 706) 10), .i (.get 0 (.v 706) 11), .i (.get 0 (.v 706) 12), .i (.get 0 (.v 706) 13), .i (.get 0 (.v 706) 14), .i (.get 0 (.v 706) 15), .i (.get 0 (.v 706) 16), .i (.get 0 (.v 706) 17)] [.agg [.c (.i .i64), .s 33 [.i .i64, .i .i64, .i .i64, .i .i64, .i .i64, .i .i64, .i .i64, .i .i64, .i .i64, .i .i64, .i .i64, .i .i64, .i .i64, .i .i64, .i .i64, .i .i64], .s 33 [.i .i64, .i .i64, .i .i64, .i .i64, .i .i64, .i .i64, .i .i64, .i .i64, .i .i64, .i .i64, .i .i64, .i .i64, .i .i64, .i .i64, .i .i64, .i .i64]], .one (.c (.i .i64))] 2057) (
            .ev (.call 13 (.eq (.v 1292) (.v 2060)) [.i (.v 1289), .l 1290, .l 1291, .i (.v 2057), .l 2058, .l 2059] [.one (.c (.b))] 2889) (
             .ev (.call 13 (.not (.or (.not (.eq (.v 1292) (.v 2060))) (.not (.v 2889)))) [.i (.v 710), .l 711, .l 712, .i (.v 707), .l 708, .l 709] [.one (.c (.b))] 3273) (
              .ite (.or (.or (.not (.eq (.v 1292) (.v 2060))) (.not (.v 2889))) (.not (.v 3273))) (
               .ret [.b (.c false)]) (
               .ite (.eq (.v 1292) (.c 0)) (
                .ev (.need (.and (.le (.c (-9223372036854775808)) (.add (.v 706) (.c 1))) (.le (.add (.v 706) (.c 1)) (.c 9223372036854775807)))) (
                 .again 5 [.b (.v 705), .i (.add (.v 706) (.c 1)), .i (.v 2057), .l 2058, .l 2059, .i (.v 1289), .l 1290, .l 1291])) (
                .ev (.need (.and (.le (.c (-9223372036854775808)) (.add (.v 706) (.c 1))) (.le (.add (.v 706) (.c 1)) (.c 9223372036854775807)))) (
                 .again 5 [.b (.v 705), .i (.add (.v 706) (.c 1)), .i (.v 707), .l 708, .l 709, .i (.v 710), .l 711, .l 712]))))))))))) (
       .ev (.call 8 (.c true) [] [.one (.c (.b))] 969) (
        .ev (.call 13 (.v 969) [.i (.v 710), .l 711, .l 712, .i (.v 707), .l 708, .l 709] [.one (.c (.b))] 1225) (
         .ret [.b (.and (.v 969) (.v 1225))])))))))
theorem is5 : prune [] (execFn Try.prog cfg5 Try.f5 sg5 3000) = tree5 := by kernel_rfl
/-- rastrum.rastrumlaw06.StackApart -/
def cfg6 : Cfg := ⟨sigsOf sigs, false, [(8, ⟨[(721, 0), (721, 1), (721, 2)], []⟩)], []⟩
def tree6 : Tree :=
  .ite (.lt (.c 40) (.len 0)) (
   .ev (.call 8 (.c true) [] [.one (.c (.b))] 337) (
    .ret [.b (.v 337)])) (
   .ev (.call 24 (.c true) [] [.agg [.c (.i .i64), .s 33 [.i .i64, .i .i64, .i .i64, .i .i64, .i .i64, .i .i64, .i .i64, .i .i64, .i .i64, .i .i64, .i .i64, .i .i64, .i .i64, .i .i64, .i .i64, .i .i64], .s 33 [.i .i64, .i .i64, .i .i64, .i .i64, .i .i64, .i .i64, .i .i64, .i .i64, .i .i64, .i .i64, .i .i64, .i .i64, .i .i64, .i .i64, .i .i64, .i .i64]]] 337) (
    .ev (.call 10 (.c true) [.i (.v 337), .l 338, .l 339, .i (.v 1), .i (.v 2), .i (.v 3), .i (.v 4), .i (.v 5), .i (.v 6), .i (.v 7), .i (.v 8), .i (.v 9), .i (.v 10), .i (.v 11), .i (.v 12), .i (.v 13), .i (.v 14), .i (.v 15), .i (.v 16)] [.agg [.c (.i .i64), .s 33 [.i .i64, .i .i64, .i .i64, .i .i64, .i .i64, .i .i64, .i .i64, .i .i64, .i .i64, .i .i64, .i .i64, .i .i64, .i .i64, .i .i64, .i .i64, .i .i64], .s 33 [.i .i64, .i .i64, .i .i64, .i .i64, .i .i64, .i .i64, .i .i64, .i .i64, .i .i64, .i .i64, .i .i64, .i .i64, .i .i64, .i .i64, .i .i64, .i .i64]], .one (.c (.i .i64))] 465) (
     .ite (.not (.eq (.v 468) (.c 0))) (
      .ev (.call 8 (.c true) [] [.one (.c (.b))] 1041) (
       .ev (.call 28 (.v 1041) [.i (.v 1), .i (.v 2), .i (.v 3), .i (.v 4), .i (.v 5), .i (.v 6), .i (.v 7), .i (.v 8), .i (.v 9), .i (.v 10), .i (.v 11), .i (.v 12), .i (.v 13), .i (.v 14), .i (.v 15), .i (.v 16)] [.one (.c (.b))] 1233) (
        .ret [.b (.and (.v 1041) (.not (.v 1233)))]))) (
      .ev (.call 16 (.c true) [.i (.v 465), .l 466, .l 467, .i (.c 1)] [.agg [.c (.i .i64), .s 33 [.i .i64, .i .i64, .i .i64, .i .i64, .i .i64, .i .i64, .i .i64, .i .i64, .i .i64, .i .i64, .i .i64, .i .i64, .i .i64, .i .i64, .i .i64, .i .i64], .s 33 [.i .i64, .i .i64, .i .i64, .i .i64, .i .i64, .i .i64, .i .i64, .i .i64, .i .i64, .i .i64, .i .i64, .i .i64, .i .i64, .i .i64, .i .i64, .i .i64]], .one (.c (.i .i64))] 1105) (
       .loop 8 [.b (.c false), .i (.c 0), .i (.v 1105), .l 1106, .l 1107] [.c (.b), .c (.i .i64), .c (.i .i64), .s 33 [.i .i64, .i .i64, .i .i64, .i .i64, .i .i64, .i .i64, .i .i64, .i .i64, .i .i64, .i .i64, .i .i64, .i .i64, .i .i64, .i .i64, .i .i64, .i .i64], .s 33 [.i .i64, .i .i64, .i .i64, .i .i64, .i .i64, .i .i64, .i .i64, .i .i64, .i .i64, .i .i64, .i .i64, .i .i64, .i .i64, .i .i64, .i .i64, .i .i64]] 1553 (
        .ite (.and (.lt (.v 1554) (.len 0)) (.eq (.v 1108) (.c 0))) (
         .ev (.need (.le (.c 0) (.v 1554))) (
          .ite (.or (.lt (.get 0 (.v 1554) 0) (.c 1)) (.lt (.c 4) (.get 0 (.v 1554) 0))) (
           .ev (.need (.and (.le (.c (-9223372036854775808)) (.add (.v 1554) (.c 1))) (.le (.add (.v 1554) (.c 1)) (.c 9223372036854775807)))) (
            .again 8 [.b (.v 1553), .i (.add (.v 1554) (.c 1)), .i (.v 1555), .l 1556, .l 1557])) (
           .ev (.call 14 (.c true) [.i (.v 1555), .l 1556, .l 1557, .i (.c 1)] [.agg [.c (.i .i64), .c (.i .i64), .c (.i .i64), .c (.i .i64), .c (.i .i64), .c (.i .i64), .c (.i .i64), .c (.i .i64), .c (.i .i64), .c (.i .i64), .c (.i .i64), .c (.i .i64), .c (.i .i64), .c (.i .i64), .c (.i .i64), .c (.i .i64)], .one (.c (.i .i64))] 3030) (
            .ev (.need (.le (.c 0) (.v 1554))) (
             .ev (.need (.lt (.v 1554) (.len 0))) (
              .ev (.call 26 (.c true) [.i (.v 1555), .l 1556, .l 1557, .i (.get 0 (.v 1554) 0), .i (.get 0 (.v 1554) 1), .i (.get 0 (.v 1554) 2), .i (.get 0 (.v 1554) 3), .i (.get 0 (.v 1554) 4), .i (.get 0 (.v 1554) 5), .i (.get 0 (.v 1554) 6), .i (.get 0 (.v 1554) 7), .i (.get 0 (.v 1554) 8), .i (.get 0 (.v 1554) 9), .i (.get 0 (.v 1554) 10), .i (.get 0 (.v 1554) 11), .i (.get 0 (.v 1554) 12), .i (.get 0 (.v 1554) 13), .i (.get 0 (.v 1554) 14), .i (.get 0 (.v 1554) 15), .i (.get 0 (.v 1554) 16), .i (.get 0 (.v 1554) 17)] [.agg [.c (.i .i64), .s 33 [.i .i64, .i .i64, .i .i64, .i .i64, .i .i64, .i .i64, .i .i64, .i .i64, .i .i64, .i .i64, .i .i64, .i .i64, .i .i64, .i .i64, .i .i64, .i .i64], .s 33 [.i .i64, .i .i64, .i .i64, .i .i64, .i .i64, .i .i64, .i .i64, .i .i64, .i .i64, .i .i64, .i .i64, .i .i64, .i .i64, .i .i64, .i .i64, .i .i64]], .one (.c (.i .i64))] 3798) (
               .ite (.not (.eq (.v 3801) (.c 0))) (
                .ev (.need (.and (.le (.c (-9223372036854775808)) (.add (.v 1554) (.c 1))) (.le (.add (.v 1554) (.c 1)) (.c 9223372036854775807)))) (
                 .again 8 [.b (.v 1553), .i (.add (.v 1554) (.c 1)), .i (.v 1555), .l 1556, .l 1557])) (
                .ev (.call 14 (.c true) [.i (.v 3798), .l 3799, .l 3800, .i (.c 1)] [.agg [.c (.i .i64), .c (.i .i64), .c (.i .i64), .c (.i .i64), .c (.i .i64), .c (.i .i64), .c (.i .i64), .c (.i .i64), .c (.i .i64), .c (.i .i64), .c (.i .i64), .c (.i .i64), .c (.i .i64), .c (.i .i64), .c (.i .i64), .c (.i .i64)], .one (.c (.i .i64))] 4438) (
                 .ev (.need (.le (.c 0) (.v 1554))) (
                  .ev (.need (.lt (.v 1554) (.len 0))) (
                   .ite (.eq (.get 0 (.v 1554) 0) (.c 2)) (
                    .ev (.call 29 (.c true) [.i (.v 3030), .i (.v 3031), .i (.v 3032), .i (.v 3033), .i (.v 3034), .i (.v 3035), .i (.v 3036), .i (.v 3037), .i (.v 3038), .i (.v 3039), .i (.v 3040), .i (.v 3041), .i (.v 3042), .i (.v 3043), .i (.v 3044), .i (.v 3045), .i (.get 0 (.v 1554) 2), .i (.get 0 (.v 1554) 3), .i (.get 0 (.v 1554) 4), .i (.get 0 (.v 1554) 5), .i (.get 0 (.v 1554) 6), .i (.get 0 (.v 1554) 7), .i (.get 0 (.v 1554) 8), .i (.get 0 (.v 1554) 9), .i (.get 0 (.v 1554) 10), .i (.get 0 (.v 1554) 11), .i (.get 0 (.v 1554) 12), .i (.get 0 (.v 1554) 13), .i (.get 0 (.v 1554) 14), .i (.get 0 (.v 1554) 15), .i (.get 0 (.v 1554) 16), .i (.get 0 (.v 1554) 17)] [.agg [.c (.i .i64), .c (.i .i64), .c (.i .i64), .c (.i .i64), .c (.i .i64), .c (.i .i64), .c (.i .i64), .c (.i .i64), .c (.i .i64), .c (.i .i64), .c (.i .i64), .c (.i .i64), .c (.i .i64), .c (.i .i64), .c (.i .i64), .c (.i .i64)], .one (.c (.i .i64))] 5654) (
                     .ite (.or (.not (.eq (.v 5670) (.c 0))) (.not (.and (.eq (.v 5654) (.v 4438)) (.and (.eq (.v 5655) (.v 4439)) (.and (.eq (.v 5656) (.v 4440)) (.and (.eq (.v 5657) (.v 4441)) (.and (.eq (.v 5658) (.v 4442)) (.and (.eq (.v 5659) (.v 4443)) (.and (.eq (.v 5660) (.v 4444)) (.and (.eq (.v 5661) (.v 4445)) (.and (.eq (.v 5662) (.v 4446)) (.and (.eq (.v 5663) (.v 4447)) (.and (.eq (.v 5664) (.v 4448)) (.and (.eq (.v 5665) (.v 4449)) (.and (.eq (.v 5666) (.v 4450)) (.and (.eq (.v 5667) (.v 4451)) (.and (.eq (.v 5668) (.v 4452)) (.eq (.v 5669) (.v 4453))))))))))))))))))) (
                      .ret [.b (.c false)]) (
                      .ev (.need (.and (.le (.c (-9223372036854775808)) (.add (.v 1554) (.c 1))) (.le (.add (.v 1554) (.c 1)) (.c 9223372036854775807)))) (
                       .again 8 [.b (.v 1553), .i (.add (.v 1554) (.c 1)), .i (.v 3798), .l 3799, .l 3800])))) (
                    .ev (.need (.and (.le (.c (-9223372036854775808)) (.add (.v 1554) (.c 1))) (.le (.add (.v 1554) (.c 1)) (.c 9223372036854775807)))) (
                     .again 8 [.b (.v 1553), .i (.add (.v 1554) (.c 1)), .i (.v 3798), .l 3799, .l 3800]))))))))))))) (
         .ev (.call 14 (.c true) [.i (.v 1555), .l 1556, .l 1557, .i (.c 0)] [.agg [.c (.i .i64), .c (.i .i64), .c (.i .i64), .c (.i .i64), .c (.i .i64), .c (.i .i64), .c (.i .i64), .c (.i .i64), .c (.i .i64), .c (.i .i64), .c (.i .i64), .c (.i .i64), .c (.i .i64), .c (.i .i64), .c (.i .i64), .c (.i .i64)], .one (.c (.i .i64))] 2134) (
          .ev (.call 8 (.c true) [] [.one (.c (.b))] 2582) (
           .ret [.b (.and (.and (.and (.and (.v 2582) (.eq (.v 1108) (.c 0))) (.eq (.v 2150) (.c 0))) (.and (.eq (.v 2134) (.v 1)) (.and (.eq (.v 2135) (.v 2)) (.and (.eq (.v 2136) (.v 3)) (.and (.eq (.v 2137) (.v 4)) (.and (.eq (.v 2138) (.v 5)) (.and (.eq (.v 2139) (.v 6)) (.and (.eq (.v 2140) (.v 7)) (.and (.eq (.v 2141) (.v 8)) (.and (.eq (.v 2142) (.v 9)) (.and (.eq (.v 2143) (.v 10)) (.and (.eq (.v 2144) (.v 11)) (.and (.eq (.v 2145) (.v 12)) (.and (.eq (.v 2146) (.v 13)) (.and (.eq (.v 2147) (.v 14)) (.and (.eq (.v 2148) (.v 15)) (.eq (.v 2149) (.v 16)))))))))))))))))) (.eq (.len 1556) (.c 1)))])))))))))
theorem is6 : prune [] (execFn Try.prog cfg6 Try.f6 sg6 3000) = tree6 := by kernel_rfl
/-- rastrum.rastrumlaw06.small -/
def cfg7 : Cfg := ⟨sigsOf sigs, false, [], []⟩
def tree7 : Tree :=
  .ret [.b (.and (.le (.len 1) (.c 12)) (.le (.len 2) (.c 12)))]
theorem is7 : prune [] (execFn Try.prog cfg7 Try.f7 sg7 3000) = tree7 := by kernel_rfl
/-- rastrum.rastrumlaw06.awake -/
def cfg8 : Cfg := ⟨sigsOf sigs, false, [], []⟩
def tree8 : Tree :=
  .ev (.call 24 (.c true) [] [.agg [.c (.i .i64), .s 33 [.i .i64, .i .i64, .i .i64, .i .i64, .i .i64, .i .i64, .i .i64, .i .i64, .i .i64, .i .i64, .i .i64, .i .i64, .i .i64, .i .i64, .i .i64, .i .i64], .s 33 [.i .i64, .i .i64, .i .i64, .i .i64, .i .i64, .i .i64, .i .i64, .i .i64, .i .i64, .i .i64, .i .i64, .i .i64, .i .i64, .i .i64, .i .i64, .i .i64]]] 64) (
   .ev (.call 12 (.c true) [.i (.v 64), .l 65, .l 66] [.agg [.c (.i .i64), .s 33 [.i .i64, .i .i64, .i .i64, .i .i64, .i .i64, .i .i64, .i .i64, .i .i64, .i .i64, .i .i64, .i .i64, .i .i64, .i .i64, .i .i64, .i .i64, .i .i64], .s 33 [.i .i64, .i .i64, .i .i64, .i .i64, .i .i64, .i .i64, .i .i64, .i .i64, .i .i64, .i .i64, .i .i64, .i .i64, .i .i64, .i .i64, .i .i64, .i .i64]], .one (.c (.i .i64))] 128) (
    .ev (.call 24 (.c true) [] [.agg [.c (.i .i64), .s 33 [.i .i64, .i .i64, .i .i64, .i .i64, .i .i64, .i .i64, .i .i64, .i .i64, .i .i64, .i .i64, .i .i64, .i .i64, .i .i64, .i .i64, .i .i64, .i .i64], .s 33 [.i .i64, .i .i64, .i .i64, .i .i64, .i .i64, .i .i64, .i .i64, .i .i64, .i .i64, .i .i64, .i .i64, .i .i64, .i .i64, .i .i64, .i .i64, .i .i64]]] 576) (
     .ev (.call 9 (.c true) [.i (.v 576), .l 577, .l 578] [.agg [.c (.i .i64), .s 33 [.i .i64, .i .i64, .i .i64, .i .i64, .i .i64, .i .i64, .i .i64, .i .i64, .i .i64, .i .i64, .i .i64, .i .i64, .i .i64, .i .i64, .i .i64, .i .i64], .s 33 [.i .i64, .i .i64, .i .i64, .i .i64, .i .i64, .i .i64, .i .i64, .i .i64, .i .i64, .i .i64, .i .i64, .i .i64, .i .i64, .i .i64, .i .i64, .i .i64]], .one (.c (.i .i64))] 640) (
      .ev (.call 22 (.and (.eq (.v 131) (.c 7)) (.eq (.v 643) (.c 0))) [.i (.v 640), .l 641, .l 642] [.one (.c (.b))] 1600) (
       .ret [.b (.and (.and (.and (.and (.eq (.v 131) (.c 7)) (.eq (.v 643) (.c 0))) (.v 1600)) (.eq (.len 641) (.c 2))) (.eq (.len 642) (.c 1)))])))))
theorem is8 : prune [] (execFn Try.prog cfg8 Try.f8 sg8 3000) = tree8 := by kernel_rfl
/-- rastrum.stack.Push -/
def cfg9 : Cfg := ⟨sigsOf sigs, false, [], [(3, 0, 2), (7, 1539, 2)]⟩
def tree9 : Tree :=
  .ev (.call 22 (.c true) [.i (.v 0), .l 1, .l 2] [.one (.c (.b))] 259) (
   .ite (.not (.v 259)) (
    .ret [.i (.c 0), .nil, .nil, .i (.c 1)]) (
    .ite (.eq (.v 0) (.c 0)) (
     .ite (.eq (.len 1) (.c 8)) (
      .ret [.i (.c 0), .nil, .nil, .i (.c 7)]) (
      .ev (.call 14 (.c true) [.i (.c 0), .l 1, .l 2, .i (.c 0)] [.agg [.c (.i .i64), .c (.i .i64), .c (.i .i64), .c (.i .i64), .c (.i .i64), .c (.i .i64), .c (.i .i64), .c (.i .i64), .c (.i .i64), .c (.i .i64), .c (.i .i64), .c (.i .i64), .c (.i .i64), .c (.i .i64), .c (.i .i64), .c (.i .i64)], .one (.c (.i .i64))] 1027) (
       .ev (.call 30 (.c true) [.i (.c 0), .l 1, .l 2] [.agg [.c (.i .i64), .s 33 [.i .i64, .i .i64, .i .i64, .i .i64, .i .i64, .i .i64, .i .i64, .i .i64, .i .i64, .i .i64, .i .i64, .i .i64, .i .i64, .i .i64, .i .i64, .i .i64], .s 33 [.i .i64, .i .i64, .i .i64, .i .i64, .i .i64, .i .i64, .i .i64, .i .i64, .i .i64, .i .i64, .i .i64, .i .i64, .i .i64, .i .i64, .i .i64, .i .i64]]] 1539) (
        .ite (.eq (.v 1539) (.c 0)) (
         .ev (.letl 2179 (.lit [[(.v 1027), (.v 1028), (.v 1029), (.v 1030), (.v 1031), (.v 1032), (.v 1033), (.v 1034), (.v 1035), (.v 1036), (.v 1037), (.v 1038), (.v 1039), (.v 1040), (.v 1041), (.v 1042)]])) (
          .ev (.letl 2243 (.app 1540 2179)) (
           .ev (.need (.le (.add (.len 1540) (.len 2179)) (.c 1099511627776))) (
            .ret [.i (.c 0), .l 2243, .l 1541, .i (.c 0)])))) (
         .ite (.eq (.v 1539) (.c 1)) (
          .ev (.letl 2179 (.lit [[(.v 1027), (.v 1028), (.v 1029), (.v 1030), (.v 1031), (.v 1032), (.v 1033), (.v 1034), (.v 1035), (.v 1036), (.v 1037), (.v 1038), (.v 1039), (.v 1040), (.v 1041), (.v 1042)]])) (
           .ev (.letl 2243 (.app 1541 2179)) (
            .ev (.need (.le (.add (.len 1541) (.len 2179)) (.c 1099511627776))) (
             .ret [.i (.c 1), .l 1540, .l 2243, .i (.c 0)])))) (
          .stuck "split")))))) (
     .ite (.eq (.v 0) (.c 1)) (
      .ite (.eq (.len 2) (.c 8)) (
       .ret [.i (.c 0), .nil, .nil, .i (.c 7)]) (
       .ev (.call 14 (.c true) [.i (.c 1), .l 1, .l 2, .i (.c 1)] [.agg [.c (.i .i64), .c (.i .i64), .c (.i .i64), .c (.i .i64), .c (.i .i64), .c (.i .i64), .c (.i .i64), .c (.i .i64), .c (.i .i64), .c (.i .i64), .c (.i .i64), .c (.i .i64), .c (.i .i64), .c (.i .i64), .c (.i .i64), .c (.i .i64)], .one (.c (.i .i64))] 1027) (
        .ev (.call 30 (.c true) [.i (.c 1), .l 1, .l 2] [.agg [.c (.i .i64), .s 33 [.i .i64, .i .i64, .i .i64, .i .i64, .i .i64, .i .i64, .i .i64, .i .i64, .i .i64, .i .i64, .i .i64, .i .i64, .i .i64, .i .i64, .i .i64, .i .i64], .s 33 [.i .i64, .i .i64, .i .i64, .i .i64, .i .i64, .i .i64, .i .i64, .i .i64, .i .i64, .i .i64, .i .i64, .i .i64, .i .i64, .i .i64, .i .i64, .i .i64]]] 1539) (
         .ite (.eq (.v 1539) (.c 0)) (
          .ev (.letl 2179 (.lit [[(.v 1027), (.v 1028), (.v 1029), (.v 1030), (.v 1031), (.v 1032), (.v 1033), (.v 1034), (.v 1035), (.v 1036), (.v 1037), (.v 1038), (.v 1039), (.v 1040), (.v 1041), (.v 1042)]])) (
           .ev (.letl 2243 (.app 1540 2179)) (
            .ev (.need (.le (.add (.len 1540) (.len 2179)) (.c 1099511627776))) (
             .ret [.i (.c 0), .l 2243, .l 1541, .i (.c 0)])))) (
          .ite (.eq (.v 1539) (.c 1)) (
           .ev (.letl 2179 (.lit [[(.v 1027), (.v 1028), (.v 1029), (.v 1030), (.v 1031), (.v 1032), (.v 1033), (.v 1034), (.v 1035), (.v 1036), (.v 1037), (.v 1038), (.v 1039), (.v 1040), (.v 1041), (.v 1042)]])) (
            .ev (.letl 2243 (.app 1541 2179)) (
             .ev (.need (.le (.add (.len 1541) (.len 2179)) (.c 1099511627776))) (
              .ret [.i (.c 1), .l 1540, .l 2243, .i (.c 0)])))) (
           .stuck "split")))))) (
      .stuck "split"))))
theorem is9 : prune [] (execFn Try.prog cfg9 Try.f9 sg9 3000) = tree9 := by kernel_rfl
/-- rastrum.stack.Load -/
def cfg10 : Cfg := ⟨sigsOf sigs, false, [], [(4, 851, 2)]⟩
def tree10 : Tree :=
  .ev (.call 22 (.c true) [.i (.v 0), .l 1, .l 2] [.one (.c (.b))] 339) (
   .ev (.call 31 (.v 339) [.i (.v 3), .i (.v 4), .i (.v 5), .i (.v 6), .i (.v 7), .i (.v 8), .i (.v 9), .i (.v 10), .i (.v 11), .i (.v 12), .i (.v 13), .i (.v 14), .i (.v 15), .i (.v 16), .i (.v 17), .i (.v 18)] [.one (.c (.b))] 595) (
    .ite (.or (.not (.v 339)) (.not (.v 595))) (
     .ret [.i (.c 0), .nil, .nil, .i (.c 1)]) (
     .ev (.call 30 (.c true) [.i (.v 0), .l 1, .l 2] [.agg [.c (.i .i64), .s 33 [.i .i64, .i .i64, .i .i64, .i .i64, .i .i64, .i .i64, .i .i64, .i .i64, .i .i64, .i .i64, .i .i64, .i .i64, .i .i64, .i .i64, .i .i64, .i .i64], .s 33 [.i .i64, .i .i64, .i .i64, .i .i64, .i .i64, .i .i64, .i .i64, .i .i64, .i .i64, .i .i64, .i .i64, .i .i64, .i .i64, .i .i64, .i .i64, .i .i64]]] 851) (
      .ite (.eq (.v 851) (.c 0)) (
       .ev (.need (.and (.le (.c (-9223372036854775808)) (.sub (.len 852) (.c 1))) (.le (.sub (.len 852) (.c 1)) (.c 9223372036854775807)))) (
        .ev (.need (.le (.c 0) (.sub (.len 852) (.c 1)))) (
         .ev (.need (.lt (.sub (.len 852) (.c 1)) (.len 852))) (
          .ev (.letl 1875 (.setr 852 (.sub (.len 852) (.c 1)) [(.v 3), (.v 4), (.v 5), (.v 6), (.v 7), (.v 8), (.v 9), (.v 10), (.v 11), (.v 12), (.v 13), (.v 14), (.v 15), (.v 16), (.v 17), (.v 18)])) (
           .ev (.need (.le (.c 0) (.sub (.len 852) (.c 1)))) (
            .ev (.need (.lt (.sub (.len 852) (.c 1)) (.len 852))) (
             .ret [.i (.c 0), .l 1875, .l 853, .i (.c 0)]))))))) (
       .ite (.eq (.v 851) (.c 1)) (
        .ev (.need (.and (.le (.c (-9223372036854775808)) (.sub (.len 853) (.c 1))) (.le (.sub (.len 853) (.c 1)) (.c 9223372036854775807)))) (
         .ev (.need (.le (.c 0) (.sub (.len 853) (.c 1)))) (
          .ev (.need (.lt (.sub (.len 853) (.c 1)) (.len 853))) (
           .ev (.letl 1875 (.setr 853 (.sub (.len 853) (.c 1)) [(.v 3), (.v 4), (.v 5), (.v 6), (.v 7), (.v 8), (.v 9), (.v 10), (.v 11), (.v 12), (.v 13), (.v 14), (.v 15), (.v 16), (.v 17), (.v 18)])) (
            .ev (.need (.le (.c 0) (.sub (.len 853) (.c 1)))) (
             .ev (.need (.lt (.sub (.len 853) (.c 1)) (.len 853))) (
              .ret [.i (.c 1), .l 852, .l 1875, .i (.c 0)]))))))) (
        .stuck "split"))))))
theorem is10 : prune [] (execFn Try.prog cfg10 Try.f10 sg10 3000) = tree10 := by kernel_rfl
/-- rastrum.stack.Mult -/
def cfg11 : Cfg := ⟨sigsOf sigs, false, [], []⟩
def tree11 : Tree :=
  .ev (.call 22 (.c true) [.i (.v 0), .l 1, .l 2] [.one (.c (.b))] 339) (
   .ev (.call 31 (.v 339) [.i (.v 3), .i (.v 4), .i (.v 5), .i (.v 6), .i (.v 7), .i (.v 8), .i (.v 9), .i (.v 10), .i (.v 11), .i (.v 12), .i (.v 13), .i (.v 14), .i (.v 15), .i (.v 16), .i (.v 17), .i (.v 18)] [.one (.c (.b))] 595) (
    .ite (.or (.not (.v 339)) (.not (.v 595))) (
     .ret [.i (.c 0), .nil, .nil, .i (.c 1)]) (
     .ev (.call 14 (.c true) [.i (.v 0), .l 1, .l 2, .i (.v 0)] [.agg [.c (.i .i64), .c (.i .i64), .c (.i .i64), .c (.i .i64), .c (.i .i64), .c (.i .i64), .c (.i .i64), .c (.i .i64), .c (.i .i64), .c (.i .i64), .c (.i .i64), .c (.i .i64), .c (.i .i64), .c (.i .i64), .c (.i .i64), .c (.i .i64)], .one (.c (.i .i64))] 979) (
      .ev (.call 32 (.c true) [.i (.v 979), .i (.v 980), .i (.v 981), .i (.v 982), .i (.v 983), .i (.v 984), .i (.v 985), .i (.v 986), .i (.v 987), .i (.v 988), .i (.v 989), .i (.v 990), .i (.v 991), .i (.v 992), .i (.v 993), .i (.v 994), .i (.v 3), .i (.v 4), .i (.v 5), .i (.v 6), .i (.v 7), .i (.v 8), .i (.v 9), .i (.v 10), .i (.v 11), .i (.v 12), .i (.v 13), .i (.v 14), .i (.v 15), .i (.v 16), .i (.v 17), .i (.v 18)] [.agg [.c (.i .i64), .c (.i .i64), .c (.i .i64), .c (.i .i64), .c (.i .i64), .c (.i .i64), .c (.i .i64), .c (.i .i64), .c (.i .i64), .c (.i .i64), .c (.i .i64), .c (.i .i64), .c (.i .i64), .c (.i .i64), .c (.i .i64), .c (.i .i64)], .one (.c (.i .i64))] 1555) (
       .ite (.not (.eq (.v 1571) (.c 0))) (
        .ret [.i (.c 0), .nil, .nil, .i (.v 1571)]) (
        .ev (.call 10 (.c true) [.i (.v 0), .l 1, .l 2, .i (.v 1555), .i (.v 1556), .i (.v 1557), .i (.v 1558), .i (.v 1559), .i (.v 1560), .i (.v 1561), .i (.v 1562), .i (.v 1563), .i (.v 1564), .i (.v 1565), .i (.v 1566), .i (.v 1567), .i (.v 1568), .i (.v 1569), .i (.v 1570)] [.agg [.c (.i .i64), .s 33 [.i .i64, .i .i64, .i .i64, .i .i64, .i .i64, .i .i64, .i .i64, .i .i64, .i .i64, .i .i64, .i .i64, .i .i64, .i .i64, .i .i64, .i .i64, .i .i64], .s 33 [.i .i64, .i .i64, .i .i64, .i .i64, .i .i64, .i .i64, .i .i64, .i .i64, .i .i64, .i .i64, .i .i64, .i .i64, .i .i64, .i .i64, .i .i64, .i .i64]], .one (.c (.i .i64))] 2259) (
         .ret [.i (.v 2259), .l 2260, .l 2261, .i (.v 2262)])))))))
theorem is11 : prune [] (execFn Try.prog cfg11 Try.f11 sg11 3000) = tree11 := by kernel_rfl
/-- rastrum.stack.Pop -/
def cfg12 : Cfg := ⟨sigsOf sigs, false, [], [(3, 0, 2), (7, 1091, 2)]⟩
def tree12 : Tree :=
  .ev (.call 22 (.c true) [.i (.v 0), .l 1, .l 2] [.one (.c (.b))] 259) (
   .ite (.not (.v 259)) (
    .ret [.i (.c 0), .nil, .nil, .i (.c 1)]) (
    .ite (.eq (.v 0) (.c 0)) (
     .ev (.need (.and (.le (.c (-9223372036854775808)) (.sub (.len 1) (.c 1))) (.le (.sub (.len 1) (.c 1)) (.c 9223372036854775807)))) (
      .ite (.eq (.sub (.len 1) (.c 1)) (.c 0)) (
       .ret [.i (.c 0), .nil, .nil, .i (.c 7)]) (
       .ev (.call 30 (.c true) [.i (.c 0), .l 1, .l 2] [.agg [.c (.i .i64), .s 33 [.i .i64, .i .i64, .i .i64, .i .i64, .i .i64, .i .i64, .i .i64, .i .i64, .i .i64, .i .i64, .i .i64, .i .i64, .i .i64, .i .i64, .i .i64, .i .i64], .s 33 [.i .i64, .i .i64, .i .i64, .i .i64, .i .i64, .i .i64, .i .i64, .i .i64, .i .i64, .i .i64, .i .i64, .i .i64, .i .i64, .i .i64, .i .i64, .i .i64]]] 1091) (
        .ite (.eq (.v 1091) (.c 0)) (
         .ev (.letl 1731 (.take 1092 (.sub (.len 1) (.c 1)))) (
          .ev (.need (.le (.c 0) (.sub (.len 1) (.c 1)))) (
           .ev (.need (.le (.sub (.len 1) (.c 1)) (.len 1092))) (
            .ret [.i (.c 0), .l 1731, .l 1093, .i (.c 0)])))) (
         .ite (.eq (.v 1091) (.c 1)) (
          .ev (.letl 1731 (.take 1093 (.sub (.len 1) (.c 1)))) (
           .ev (.need (.le (.c 0) (.sub (.len 1) (.c 1)))) (
            .ev (.need (.le (.sub (.len 1) (.c 1)) (.len 1093))) (
             .ret [.i (.c 1), .l 1092, .l 1731, .i (.c 0)])))) (
          .stuck "split")))))) (
     .ite (.eq (.v 0) (.c 1)) (
      .ev (.need (.and (.le (.c (-9223372036854775808)) (.sub (.len 2) (.c 1))) (.le (.sub (.len 2) (.c 1)) (.c 9223372036854775807)))) (
       .ite (.eq (.sub (.len 2) (.c 1)) (.c 0)) (
        .ret [.i (.c 0), .nil, .nil, .i (.c 7)]) (
        .ev (.call 30 (.c true) [.i (.c 1), .l 1, .l 2] [.agg [.c (.i .i64), .s 33 [.i .i64, .i .i64, .i .i64, .i .i64, .i .i64, .i .i64, .i .i64, .i .i64, .i .i64, .i .i64, .i .i64, .i .i64, .i .i64, .i .i64, .i .i64, .i .i64], .s 33 [.i .i64, .i .i64, .i .i64, .i .i64, .i .i64, .i .i64, .i .i64, .i .i64, .i .i64, .i .i64, .i .i64, .i .i64, .i .i64, .i .i64, .i .i64, .i .i64]]] 1091) (
         .ite (.eq (.v 1091) (.c 0)) (
          .ev (.letl 1731 (.take 1092 (.sub (.len 2) (.c 1)))) (
           .ev (.need (.le (.c 0) (.sub (.len 2) (.c 1)))) (
            .ev (.need (.le (.sub (.len 2) (.c 1)) (.len 1092))) (
             .ret [.i (.c 0), .l 1731, .l 1093, .i (.c 0)])))) (
          .ite (.eq (.v 1091) (.c 1)) (
           .ev (.letl 1731 (.take 1093 (.sub (.len 2) (.c 1)))) (
            .ev (.need (.le (.c 0) (.sub (.len 2) (.c 1)))) (
             .ev (.need (.le (.sub (.len 2) (.c 1)) (.len 1093))) (
              .ret [.i (.c 1), .l 1092, .l 1731, .i (.c 0)])))) (
           .stuck "split")))))) (
      .stuck "split"))))
theorem is12 : prune [] (execFn Try.prog cfg12 Try.f12 sg12 3000) = tree12 := by kernel_rfl
/-- rastrum.rastrumref06.Same -/
def cfg13 : Cfg := ⟨sigsOf sigs, false, [(9, ⟨[], []⟩)], []⟩
def tree13 : Tree :=
  .ite (.not (.eq (.v 0) (.v 3))) (
   .ret [.b (.c false)]) (
   .ite (.not (.eq (.len 1) (.len 4))) (
    .ret [.b (.c false)]) (
    .loop 9 [.b (.c false), .i (.c 0)] [.c (.b), .c (.i .i64)] 1478 (
     .ite (.lt (.v 1479) (.len 1)) (
      .ev (.need (.le (.c 0) (.v 1479))) (
       .ev (.need (.lt (.v 1479) (.len 4))) (
        .ite (.not (.and (.eq (.get 1 (.v 1479) 0) (.get 4 (.v 1479) 0)) (.and (.eq (.get 1 (.v 1479) 1) (.get 4 (.v 1479) 1)) (.and (.eq (.get 1 (.v 1479) 2) (.get 4 (.v 1479) 2)) (.and (.eq (.get 1 (.v 1479) 3) (.get 4 (.v 1479) 3)) (.and (.eq (.get 1 (.v 1479) 4) (.get 4 (.v 1479) 4)) (.and (.eq (.get 1 (.v 1479) 5) (.get 4 (.v 1479) 5)) (.and (.eq (.get 1 (.v 1479) 6) (.get 4 (.v 1479) 6)) (.and (.eq (.get 1 (.v 1479) 7) (.get 4 (.v 1479) 7)) (.and (.eq (.get 1 (.v 1479) 8) (.get 4 (.v 1479) 8)) (.and (.eq (.get 1 (.v 1479) 9) (.get 4 (.v 1479) 9)) (.and (.eq (.get 1 (.v 1479) 10) (.get 4 (.v 1479) 10)) (.and (.eq (.get 1 (.v 1479) 11) (.get 4 (.v 1479) 11)) (.and (.eq (.get 1 (.v 1479) 12) (.get 4 (.v 1479) 12)) (.and (.eq (.get 1 (.v 1479) 13) (.get 4 (.v 1479) 13)) (.and (.eq (.get 1 (.v 1479) 14) (.get 4 (.v 1479) 14)) (.eq (.get 1 (.v 1479) 15) (.get 4 (.v 1479) 15)))))))))))))))))) (
         .ret [.b (.c false)]) (
         .ev (.need (.and (.le (.c (-9223372036854775808)) (.add (.v 1479) (.c 1))) (.le (.add (.v 1479) (.c 1)) (.c 9223372036854775807)))) (
          .again 9 [.b (.v 1478), .i (.add (.v 1479) (.c 1))]))))) (
      .ite (.not (.eq (.len 2) (.len 5))) (
       .ret [.b (.c false)]) (
       .loop 9 [.b (.v 1478), .i (.c 0), .i (.v 1479), .i (.c 0), .i (.len 1), .b (.lt (.v 1479) (.len 1))] [.c (.b), .c (.i .i64), .c (.i .i64), .c (.i .i64), .c (.i .i64), .c (.b)] 3016 (
        .ite (.lt (.v 3017) (.len 2)) (
         .ev (.need (.le (.c 0) (.v 3017))) (
          .ev (.need (.lt (.v 3017) (.len 5))) (
           .ite (.not (.and (.eq (.get 2 (.v 3017) 0) (.get 5 (.v 3017) 0)) (.and (.eq (.get 2 (.v 3017) 1) (.get 5 (.v 3017) 1)) (.and (.eq (.get 2 (.v 3017) 2) (.get 5 (.v 3017) 2)) (.and (.eq (.get 2 (.v 3017) 3) (.get 5 (.v 3017) 3)) (.and (.eq (.get 2 (.v 3017) 4) (.get 5 (.v 3017) 4)) (.and (.eq (.get 2 (.v 3017) 5) (.get 5 (.v 3017) 5)) (.and (.eq (.get 2 (.v 3017) 6) (.get 5 (.v 3017) 6)) (.and (.eq (.get 2 (.v 3017) 7) (.get 5 (.v 3017) 7)) (.and (.eq (.get 2 (.v 3017) 8) (.get 5 (.v 3017) 8)) (.and (.eq (.get 2 (.v 3017) 9) (.get 5 (.v 3017) 9)) (.and (.eq (.get 2 (.v 3017) 10) (.get 5 (.v 3017) 10)) (.and (.eq (.get 2 (.v 3017) 11) (.get 5 (.v 3017) 11)) (.and (.eq (.get 2 (.v 3017) 12) (.get 5 (.v 3017) 12)) (.and (.eq (.get 2 (.v 3017) 13) (.get 5 (.v 3017) 13)) (.and (.eq (.get 2 (.v 3017) 14) (.get 5 (.v 3017) 14)) (.eq (.get 2 (.v 3017) 15) (.get 5 (.v 3017) 15)))))))))))))))))) (
            .ret [.b (.c false)]) (
            .ev (.need (.and (.le (.c (-9223372036854775808)) (.add (.v 3017) (.c 1))) (.le (.add (.v 3017) (.c 1)) (.c 9223372036854775807)))) (
             .again 9 [.b (.v 3016), .i (.add (.v 3017) (.c 1)), .i (.v 3017), .i (.c 1), .i (.len 2), .b (.lt (.v 3017) (.len 2))]))))) (
         .ret [.b (.c true)])))))))
theorem is13 : prune [] (execFn Try.prog cfg13 Try.f13 sg13 3000) = tree13 := by kernel_rfl
/-- rastrum.stack.Top -/
def cfg14 : Cfg := ⟨sigsOf sigs, false, [], [(3, 3, 2)]⟩
def tree14 : Tree :=
  .ev (.call 22 (.c true) [.i (.v 0), .l 1, .l 2] [.one (.c (.b))] 260) (
   .ite (.or (.or (.not (.v 260)) (.lt (.v 3) (.c 0))) (.lt (.c 1) (.v 3))) (
    .ret [.i (.c 0), .i (.c 0), .i (.c 0), .i (.c 0), .i (.c 0), .i (.c 0), .i (.c 0), .i (.c 0), .i (.c 0), .i (.c 0), .i (.c 0), .i (.c 0), .i (.c 0), .i (.c 0), .i (.c 0), .i (.c 0), .i (.c 1)]) (
    .ite (.eq (.v 3) (.c 0)) (
     .ev (.need (.and (.le (.c (-9223372036854775808)) (.sub (.len 1) (.c 1))) (.le (.sub (.len 1) (.c 1)) (.c 9223372036854775807)))) (
      .ev (.need (.le (.c 0) (.sub (.len 1) (.c 1)))) (
       .ev (.need (.lt (.sub (.len 1) (.c 1)) (.len 1))) (
        .ret [.i (.get 1 (.sub (.len 1) (.c 1)) 0), .i (.get 1 (.sub (.len 1) (.c 1)) 1), .i (.get 1 (.sub (.len 1) (.c 1)) 2), .i (.get 1 (.sub (.len 1) (.c 1)) 3), .i (.get 1 (.sub (.len 1) (.c 1)) 4), .i (.get 1 (.sub (.len 1) (.c 1)) 5), .i (.get 1 (.sub (.len 1) (.c 1)) 6), .i (.get 1 (.sub (.len 1) (.c 1)) 7), .i (.get 1 (.sub (.len 1) (.c 1)) 8), .i (.get 1 (.sub (.len 1) (.c 1)) 9), .i (.get 1 (.sub (.len 1) (.c 1)) 10), .i (.get 1 (.sub (.len 1) (.c 1)) 11), .i (.get 1 (.sub (.len 1) (.c 1)) 12), .i (.get 1 (.sub (.len 1) (.c 1)) 13), .i (.get 1 (.sub (.len 1) (.c 1)) 14), .i (.get 1 (.sub (.len 1) (.c 1)) 15), .i (.c 0)])))) (
     .ite (.eq (.v 3) (.c 1)) (
      .ev (.need (.and (.le (.c (-9223372036854775808)) (.sub (.len 2) (.c 1))) (.le (.sub (.len 2) (.c 1)) (.c 9223372036854775807)))) (
       .ev (.need (.le (.c 0) (.sub (.len 2) (.c 1)))) (
        .ev (.need (.lt (.sub (.len 2) (.c 1)) (.len 2))) (
         .ret [.i (.get 2 (.sub (.len 2) (.c 1)) 0), .i (.get 2 (.sub (.len 2) (.c 1)) 1), .i (.get 2 (.sub (.len 2) (.c 1)) 2), .i (.get 2 (.sub (.len 2) (.c 1)) 3), .i (.get 2 (.sub (.len 2) (.c 1)) 4), .i (.get 2 (.sub (.len 2) (.c 1)) 5), .i (.get 2 (.sub (.len 2) (.c 1)) 6), .i (.get 2 (.sub (.len 2) (.c 1)) 7), .i (.get 2 (.sub (.len 2) (.c 1)) 8), .i (.get 2 (.sub (.len 2) (.c 1)) 9), .i (.get 2 (.sub (.len 2) (.c 1)) 10), .i (.get 2 (.sub (.len 2) (.c 1)) 11), .i (.get 2 (.sub (.len 2) (.c 1)) 12), .i (.get 2 (.sub (.len 2) (.c 1)) 13), .i (.get 2 (.sub (.len 2) (.c 1)) 14), .i (.get 2 (.sub (.len 2) (.c 1)) 15), .i (.c 0)])))) (
      .stuck "split"))))
theorem is14 : prune [] (execFn Try.prog cfg14 Try.f14 sg14 3000) = tree14 := by kernel_rfl
/-- rastrum.rastrumref06.Top -/
def cfg15 : Cfg := ⟨sigsOf sigs, false, [], [(3, 3, 2)]⟩
def tree15 : Tree :=
  .ev (.call 23 (.c true) [.i (.v 0), .l 1, .l 2] [.one (.c (.b))] 260) (
   .ite (.or (.or (.not (.v 260)) (.lt (.v 3) (.c 0))) (.lt (.c 1) (.v 3))) (
    .ret [.i (.c 0), .i (.c 0), .i (.c 0), .i (.c 0), .i (.c 0), .i (.c 0), .i (.c 0), .i (.c 0), .i (.c 0), .i (.c 0), .i (.c 0), .i (.c 0), .i (.c 0), .i (.c 0), .i (.c 0), .i (.c 0), .i (.c 1)]) (
    .ite (.eq (.v 3) (.c 0)) (
     .ev (.need (.and (.le (.c (-9223372036854775808)) (.sub (.len 1) (.c 1))) (.le (.sub (.len 1) (.c 1)) (.c 9223372036854775807)))) (
      .ev (.need (.le (.c 0) (.sub (.len 1) (.c 1)))) (
       .ev (.need (.lt (.sub (.len 1) (.c 1)) (.len 1))) (
        .ret [.i (.get 1 (.sub (.len 1) (.c 1)) 0), .i (.get 1 (.sub (.len 1) (.c 1)) 1), .i (.get 1 (.sub (.len 1) (.c 1)) 2), .i (.get 1 (.sub (.len 1) (.c 1)) 3), .i (.get 1 (.sub (.len 1) (.c 1)) 4), .i (.get 1 (.sub (.len 1) (.c 1)) 5), .i (.get 1 (.sub (.len 1) (.c 1)) 6), .i (.get 1 (.sub (.len 1) (.c 1)) 7), .i (.get 1 (.sub (.len 1) (.c 1)) 8), .i (.get 1 (.sub (.len 1) (.c 1)) 9), .i (.get 1 (.sub (.len 1) (.c 1)) 10), .i (.get 1 (.sub (.len 1) (.c 1)) 11), .i (.get 1 (.sub (.len 1) (.c 1)) 12), .i (.get 1 (.sub (.len 1) (.c 1)) 13), .i (.get 1 (.sub (.len 1) (.c 1)) 14), .i (.get 1 (.sub (.len 1) (.c 1)) 15), .i (.c 0)])))) (
     .ite (.eq (.v 3) (.c 1)) (
      .ev (.need (.and (.le (.c (-9223372036854775808)) (.sub (.len 2) (.c 1))) (.le (.sub (.len 2) (.c 1)) (.c 9223372036854775807)))) (
       .ev (.need (.le (.c 0) (.sub (.len 2) (.c 1)))) (
        .ev (.need (.lt (.sub (.len 2) (.c 1)) (.len 2))) (
         .ret [.i (.get 2 (.sub (.len 2) (.c 1)) 0), .i (.get 2 (.sub (.len 2) (.c 1)) 1), .i (.get 2 (.sub (.len 2) (.c 1)) 2), .i (.get 2 (.sub (.len 2) (.c 1)) 3), .i (.get 2 (.sub (.len 2) (.c 1)) 4), .i (.get 2 (.sub (.len 2) (.c 1)) 5), .i (.get 2 (.sub (.len 2) (.c 1)) 6), .i (.get 2 (.sub (.len 2) (.c 1)) 7), .i (.get 2 (.sub (.len 2) (.c 1)) 8), .i (.get 2 (.sub (.len 2) (.c 1)) 9), .i (.get 2 (.sub (.len 2) (.c 1)) 10), .i (.get 2 (.sub (.len 2) (.c 1)) 11), .i (.get 2 (.sub (.len 2) (.c 1)) 12), .i (.get 2 (.sub (.len 2) (.c 1)) 13), .i (.get 2 (.sub (.len 2) (.c 1)) 14), .i (.get 2 (.sub (.len 2) (.c 1)) 15), .i (.c 0)])))) (
      .stuck "split"))))
theorem is15 : prune [] (execFn Try.prog cfg15 Try.f15 sg15 3000) = tree15 := by kernel_rfl
/-- rastrum.stack.Choose -/
def cfg16 : Cfg := ⟨sigsOf sigs, false, [], []⟩
def tree16 : Tree :=
  .ev (.call 22 (.c true) [.i (.v 0), .l 1, .l 2] [.one (.c (.b))] 260) (
   .ite (.or (.or (.not (.v 260)) (.lt (.v 3) (.c 0))) (.lt (.c 1) (.v 3))) (
    .ret [.i (.c 0), .nil, .nil, .i (.c 1)]) (
    .ev (.call 30 (.c true) [.i (.v 0), .l 1, .l 2] [.agg [.c (.i .i64), .s 33 [.i .i64, .i .i64, .i .i64, .i .i64, .i .i64, .i .i64, .i .i64, .i .i64, .i .i64, .i .i64, .i .i64, .i .i64, .i .i64, .i .i64, .i .i64, .i .i64], .s 33 [.i .i64, .i .i64, .i .i64, .i .i64, .i .i64, .i .i64, .i .i64, .i .i64, .i .i64, .i .i64, .i .i64, .i .i64, .i .i64, .i .i64, .i .i64, .i .i64]]] 964) (
     .ret [.i (.v 3), .l 965, .l 966, .i (.c 0)])))
theorem is16 : prune [] (execFn Try.prog cfg16 Try.f16 sg16 3000) = tree16 := by kernel_rfl
/-- rastrum.rastrumref06.Choose -/
def cfg17 : Cfg := ⟨sigsOf sigs, false, [], []⟩
def tree17 : Tree :=
  .ev (.call 23 (.c true) [.i (.v 0), .l 1, .l 2] [.one (.c (.b))] 260) (
   .ite (.or (.or (.not (.v 260)) (.lt (.v 3) (.c 0))) (.lt (.c 1) (.v 3))) (
    .ret [.i (.c 0), .nil, .nil, .i (.c 1)]) (
    .ev (.call 33 (.c true) [.i (.v 0), .l 1, .l 2] [.agg [.c (.i .i64), .s 33 [.i .i64, .i .i64, .i .i64, .i .i64, .i .i64, .i .i64, .i .i64, .i .i64, .i .i64, .i .i64, .i .i64, .i .i64, .i .i64, .i .i64, .i .i64, .i .i64], .s 33 [.i .i64, .i .i64, .i .i64, .i .i64, .i .i64, .i .i64, .i .i64, .i .i64, .i .i64, .i .i64, .i .i64, .i .i64, .i .i64, .i .i64, .i .i64, .i .i64]]] 964) (
     .ret [.i (.v 3), .l 965, .l 966, .i (.c 0)])))
theorem is17 : prune [] (execFn Try.prog cfg17 Try.f17 sg17 3000) = tree17 := by kernel_rfl
/-- rastrum.rastrumref06.Load -/
def cfg18 : Cfg := ⟨sigsOf sigs, false, [], [(4, 851, 2)]⟩
def tree18 : Tree :=
  .ev (.call 23 (.c true) [.i (.v 0), .l 1, .l 2] [.one (.c (.b))] 339) (
   .ev (.call 28 (.v 339) [.i (.v 3), .i (.v 4), .i (.v 5), .i (.v 6), .i (.v 7), .i (.v 8), .i (.v 9), .i (.v 10), .i (.v 11), .i (.v 12), .i (.v 13), .i (.v 14), .i (.v 15), .i (.v 16), .i (.v 17), .i (.v 18)] [.one (.c (.b))] 595) (
    .ite (.or (.not (.v 339)) (.not (.v 595))) (
     .ret [.i (.c 0), .nil, .nil, .i (.c 1)]) (
     .ev (.call 33 (.c true) [.i (.v 0), .l 1, .l 2] [.agg [.c (.i .i64), .s 33 [.i .i64, .i .i64, .i .i64, .i .i64, .i .i64, .i .i64, .i .i64, .i .i64, .i .i64, .i .i64, .i .i64, .i .i64, .i .i64, .i .i64, .i .i64, .i .i64], .s 33 [.i .i64, .i .i64, .i .i64, .i .i64, .i .i64, .i .i64, .i .i64, .i .i64, .i .i64, .i .i64, .i .i64, .i .i64, .i .i64, .i .i64, .i .i64, .i .i64]]] 851) (
      .ite (.eq (.v 851) (.c 0)) (
       .ev (.need (.and (.le (.c (-9223372036854775808)) (.sub (.len 852) (.c 1))) (.le (.sub (.len 852) (.c 1)) (.c 9223372036854775807)))) (
        .ev (.need (.le (.c 0) (.sub (.len 852) (.c 1)))) (
         .ev (.need (.lt (.sub (.len 852) (.c 1)) (.len 852))) (
          .ev (.letl 1875 (.setr 852 (.sub (.len 852) (.c 1)) [(.v 3), (.v 4), (.v 5), (.v 6), (.v 7), (.v 8), (.v 9), (.v 10), (.v 11), (.v 12), (.v 13), (.v 14), (.v 15), (.v 16), (.v 17), (.v 18)])) (
           .ev (.need (.le (.c 0) (.sub (.len 852) (.c 1)))) (
            .ev (.need (.lt (.sub (.len 852) (.c 1)) (.len 852))) (
             .ret [.i (.c 0), .l 1875, .l 853, .i (.c 0)]))))))) (
       .ite (.eq (.v 851) (.c 1)) (
        .ev (.need (.and (.le (.c (-9223372036854775808)) (.sub (.len 853) (.c 1))) (.le (.sub (.len 853) (.c 1)) (.c 9223372036854775807)))) (
         .ev (.need (.le (.c 0) (.sub (.len 853) (.c 1)))) (
          .ev (.need (.lt (.sub (.len 853) (.c 1)) (.len 853))) (
           .ev (.letl 1875 (.setr 853 (.sub (.len 853) (.c 1)) [(.v 3), (.v 4), (.v 5), (.v 6), (.v 7), (.v 8), (.v 9), (.v 10), (.v 11), (.v 12), (.v 13), (.v 14), (.v 15), (.v 16), (.v 17), (.v 18)])) (
            .ev (.need (.le (.c 0) (.sub (.len 853) (.c 1)))) (
             .ev (.need (.lt (.sub (.len 853) (.c 1)) (.len 853))) (
              .ret [.i (.c 1), .l 852, .l 1875, .i (.c 0)]))))))) (
        .stuck "split"))))))
theorem is18 : prune [] (execFn Try.prog cfg18 Try.f18 sg18 3000) = tree18 := by kernel_rfl
/-- rastrum.rastrumref06.Mult -/
def cfg19 : Cfg := ⟨sigsOf sigs, false, [], []⟩
def tree19 : Tree :=
  .ev (.call 23 (.c true) [.i (.v 0), .l 1, .l 2] [.one (.c (.b))] 339) (
   .ev (.call 28 (.v 339) [.i (.v 3), .i (.v 4), .i (.v 5), .i (.v 6), .i (.v 7), .i (.v 8), .i (.v 9), .i (.v 10), .i (.v 11), .i (.v 12), .i (.v 13), .i (.v 14), .i (.v 15), .i (.v 16), .i (.v 17), .i (.v 18)] [.one (.c (.b))] 595) (
    .ite (.or (.not (.v 339)) (.not (.v 595))) (
     .ret [.i (.c 0), .nil, .nil, .i (.c 1)]) (
     .ev (.call 15 (.c true) [.i (.v 0), .l 1, .l 2, .i (.v 0)] [.agg [.c (.i .i64), .c (.i .i64), .c (.i .i64), .c (.i .i64), .c (.i .i64), .c (.i .i64), .c (.i .i64), .c (.i .i64), .c (.i .i64), .c (.i .i64), .c (.i .i64), .c (.i .i64), .c (.i .i64), .c (.i .i64), .c (.i .i64), .c (.i .i64)], .one (.c (.i .i64))] 979) (
      .ev (.call 29 (.c true) [.i (.v 979), .i (.v 980), .i (.v 981), .i (.v 982), .i (.v 983), .i (.v 984), .i (.v 985), .i (.v 986), .i (.v 987), .i (.v 988), .i (.v 989), .i (.v 990), .i (.v 991), .i (.v 992), .i (.v 993), .i (.v 994), .i (.v 3), .i (.v 4), .i (.v 5), .i (.v 6), .i (.v 7), .i (.v 8), .i (.v 9), .i (.v 10), .i (.v 11), .i (.v 12), .i (.v 13), .i (.v 14), .i (.v 15), .i (.v 16), .i (.v 17), .i (.v 18)] [.agg [.c (.i .i64), .c (.i .i64), .c (.i .i64), .c (.i .i64), .c (.i .i64), .c (.i .i64), .c (.i .i64), .c (.i .i64), .c (.i .i64), .c (.i .i64), .c (.i .i64), .c (.i .i64), .c (.i .i64), .c (.i .i64), .c (.i .i64), .c (.i .i64)], .one (.c (.i .i64))] 1555) (
       .ite (.not (.eq (.v 1571) (.c 0))) (
        .ret [.i (.c 0), .nil, .nil, .i (.v 1571)]) (
        .ev (.call 18 (.c true) [.i (.v 0), .l 1, .l 2, .i (.v 1555), .i (.v 1556), .i (.v 1557), .i (.v 1558), .i (.v 1559), .i (.v 1560), .i (.v 1561), .i (.v 1562), .i (.v 1563), .i (.v 1564), .i (.v 1565), .i (.v 1566), .i (.v 1567), .i (.v 1568), .i (.v 1569), .i (.v 1570)] [.agg [.c (.i .i64), .s 33 [.i .i64, .i .i64, .i .i64, .i .i64, .i .i64, .i .i64, .i .i64, .i .i64, .i .i64, .i .i64, .i .i64, .i .i64, .i .i64, .i .i64, .i .i64, .i .i64], .s 33 [.i .i64, .i .i64, .i .i64, .i .i64, .i .i64, .i .i64, .i .i64, .i .i64, .i .i64, .i .i64, .i .i64, .i .i64, .i .i64, .i .i64, .i .i64, .i .i64]], .one (.c (.i .i64))] 2259) (
         .ret [.i (.v 2259), .l 2260, .l 2261, .i (.v 2262)])))))))
theorem is19 : prune [] (execFn Try.prog cfg19 Try.f19 sg19 3000) = tree19 := by kernel_rfl
/-- rastrum.rastrumref06.Push -/
def cfg20 : Cfg := ⟨sigsOf sigs, false, [], [(3, 0, 2), (7, 1539, 2)]⟩
def tree20 : Tree :=
  .ev (.call 23 (.c true) [.i (.v 0), .l 1, .l 2] [.one (.c (.b))] 259) (
   .ite (.not (.v 259)) (
    .ret [.i (.c 0), .nil, .nil, .i (.c 1)]) (
    .ite (.eq (.v 0) (.c 0)) (
     .ite (.eq (.len 1) (.c 8)) (
      .ret [.i (.c 0), .nil, .nil, .i (.c 7)]) (
      .ev (.call 15 (.c true) [.i (.c 0), .l 1, .l 2, .i (.c 0)] [.agg [.c (.i .i64), .c (.i .i64), .c (.i .i64), .c (.i .i64), .c (.i .i64), .c (.i .i64), .c (.i .i64), .c (.i .i64), .c (.i .i64), .c (.i .i64), .c (.i .i64), .c (.i .i64), .c (.i .i64), .c (.i .i64), .c (.i .i64), .c (.i .i64)], .one (.c (.i .i64))] 1027) (
       .ev (.call 33 (.c true) [.i (.c 0), .l 1, .l 2] [.agg [.c (.i .i64), .s 33 [.i .i64, .i .i64, .i .i64, .i .i64, .i .i64, .i .i64, .i .i64, .i .i64, .i .i64, .i .i64, .i .i64, .i .i64, .i .i64, .i .i64, .i .i64, .i .i64], .s 33 [.i .i64, .i .i64, .i .i64, .i .i64, .i .i64, .i .i64, .i .i64, .i .i64, .i .i64, .i .i64, .i .i64, .i .i64, .i .i64, .i .i64, .i .i64, .i .i64]]] 1539) (
        .ite (.eq (.v 1539) (.c 0)) (
         .ev (.letl 2179 (.lit [[(.v 1027), (.v 1028), (.v 1029), (.v 1030), (.v 1031), (.v 1032), (.v 1033), (.v 1034), (.v 1035), (.v 1036), (.v 1037), (.v 1038), (.v 1039), (.v 1040), (.v 1041), (.v 1042)]])) (
          .ev (.letl 2243 (.app 1540 2179)) (
           .ev (.need (.le (.add (.len 1540) (.len 2179)) (.c 1099511627776))) (
            .ret [.i (.c 0), .l 2243, .l 1541, .i (.c 0)])))) (
         .ite (.eq (.v 1539) (.c 1)) (
          .ev (.letl 2179 (.lit [[(.v 1027), (.v 1028), (.v 1029), (.v 1030), (.v 1031), (.v 1032), (.v 1033), (.v 1034), (.v 1035), (.v 1036), (.v 1037), (.v 1038), (.v 1039), (.v 1040), (.v 1041), (.v 1042)]])) (
           .ev (.letl 2243 (.app 1541 2179)) (
            .ev (.need (.le (.add (.len 1541) (.len 2179)) (.c 1099511627776))) (
             .ret [.i (.c 1), .l 1540, .l 2243, .i (.c 0)])))) (
          .stuck "split")))))) (
     .ite (.eq (.v 0) (.c 1)) (
      .ite (.eq (.len 2) (.c 8)) (
       .ret [.i (.c 0), .nil, .nil, .i (.c 7)]) (
       .ev (.call 15 (.c true) [.i (.c 1), .l 1, .l 2, .i (.c 1)] [.agg [.c (.i .i64), .c (.i .i64), .c (.i .i64), .c (.i .i64), .c (.i .i64), .c (.i .i64), .c (.i .i64), .c (.i .i64), .c (.i .i64), .c (.i .i64), .c (.i .i64), .c (.i .i64), .c (.i .i64), .c (.i .i64), .c (.i .i64), .c (.i .i64)], .one (.c (.i .i64))] 1027) (
        .ev (.call 33 (.c true) [.i (.c 1), .l 1, .l 2] [.agg [.c (.i .i64), .s 33 [.i .i64, .i .i64, .i .i64, .i .i64, .i .i64, .i .i64, .i .i64, .i .i64, .i .i64, .i .i64, .i .i64, .i .i64, .i .i64, .i .i64, .i .i64, .i .i64], .s 33 [.i .i64, .i .i64, .i .i64, .i .i64, .i .i64, .i .i64, .i .i64, .i .i64, .i .i64, .i .i64, .i .i64, .i .i64, .i .i64, .i .i64, .i .i64, .i .i64]]] 1539) (
         .ite (.eq (.v 1539) (.c 0)) (
          .ev (.letl 2179 (.lit [[(.v 1027), (.v 1028), (.v 1029), (.v 1030), (.v 1031), (.v 1032), (.v 1033), (.v 1034), (.v 1035), (.v 1036), (.v 1037), (.v 1038), (.v 1039), (.v 1040), (.v 1041), (.v 1042)]])) (
           .ev (.letl 2243 (.app 1540 2179)) (
            .ev (.need (.le (.add (.len 1540) (.len 2179)) (.c 1099511627776))) (
             .ret [.i (.c 0), .l 2243, .l 1541, .i (.c 0)])))) (
          .ite (.eq (.v 1539) (.c 1)) (
           .ev (.letl 2179 (.lit [[(.v 1027), (.v 1028), (.v 1029), (.v 1030), (.v 1031), (.v 1032), (.v 1033), (.v 1034), (.v 1035), (.v 1036), (.v 1037), (.v 1038), (.v 1039), (.v 1040), (.v 1041), (.v 1042)]])) (
            .ev (.letl 2243 (.app 1541 2179)) (
             .ev (.need (.le (.add (.len 1541) (.len 2179)) (.c 1099511627776))) (
              .ret [.i (.c 1), .l 1540, .l 2243, .i (.c 0)])))) (
           .stuck "split")))))) (
      .stuck "split"))))
theorem is20 : prune [] (execFn Try.prog cfg20 Try.f20 sg20 3000) = tree20 := by kernel_rfl
/-- rastrum.rastrumref06.Pop -/
def cfg21 : Cfg := ⟨sigsOf sigs, false, [], [(3, 0, 2), (7, 1091, 2)]⟩
def tree21 : Tree :=
  .ev (.call 23 (.c true) [.i (.v 0), .l 1, .l 2] [.one (.c (.b))] 259) (
   .ite (.not (.v 259)) (
    .ret [.i (.c 0), .nil, .nil, .i (.c 1)]) (
    .ite (.eq (.v 0) (.c 0)) (
     .ev (.need (.and (.le (.c (-9223372036854775808)) (.sub (.len 1) (.c 1))) (.le (.sub (.len 1) (.c 1)) (.c 9223372036854775807)))) (
      .ite (.eq (.sub (.len 1) (.c 1)) (.c 0)) (
       .ret [.i (.c 0), .nil, .nil, .i (.c 7)]) (
       .ev (.call 33 (.c true) [.i (.c 0), .l 1, .l 2] [.agg [.c (.i .i64), .s 33 [.i .i64, .i .i64, .i .i64, .i .i64, .i .i64, .i .i64, .i .i64, .i .i64, .i .i64, .i .i64, .i .i64, .i .i64, .i .i64, .i .i64, .i .i64, .i .i64], .s 33 [.i .i64, .i .i64, .i .i64, .i .i64, .i .i64, .i .i64, .i .i64, .i .i64, .i .i64, .i .i64, .i .i64, .i .i64, .i .i64, .i .i64, .i .i64, .i .i64]]] 1091) (
        .ite (.eq (.v 1091) (.c 0)) (
         .ev (.letl 1731 (.take 1092 (.sub (.len 1) (.c 1)))) (
          .ev (.need (.le (.c 0) (.sub (.len 1) (.c 1)))) (
           .ev (.need (.le (.sub (.len 1) (.c 1)) (.len 1092))) (
            .ret [.i (.c 0), .l 1731, .l 1093, .i (.c 0)])))) (
         .ite (.eq (.v 1091) (.c 1)) (
          .ev (.letl 1731 (.take 1093 (.sub (.len 1) (.c 1)))) (
           .ev (.need (.le (.c 0) (.sub (.len 1) (.c 1)))) (
            .ev (.need (.le (.sub (.len 1) (.c 1)) (.len 1093))) (
             .ret [.i (.c 1), .l 1092, .l 1731, .i (.c 0)])))) (
          .stuck "split")))))) (
     .ite (.eq (.v 0) (.c 1)) (
      .ev (.need (.and (.le (.c (-9223372036854775808)) (.sub (.len 2) (.c 1))) (.le (.sub (.len 2) (.c 1)) (.c 9223372036854775807)))) (
       .ite (.eq (.sub (.len 2) (.c 1)) (.c 0)) (
        .ret [.i (.c 0), .nil, .nil, .i (.c 7)]) (
        .ev (.call 33 (.c true) [.i (.c 1), .l 1, .l 2] [.agg [.c (.i .i64), .s 33 [.i .i64, .i .i64, .i .i64, .i .i64, .i .i64, .i .i64, .i .i64, .i .i64, .i .i64, .i .i64, .i .i64, .i .i64, .i .i64, .i .i64, .i .i64, .i .i64], .s 33 [.i .i64, .i .i64, .i .i64, .i .i64, .i .i64, .i .i64, .i .i64, .i .i64, .i .i64, .i .i64, .i .i64, .i .i64, .i .i64, .i .i64, .i .i64, .i .i64]]] 1091) (
         .ite (.eq (.v 1091) (.c 0)) (
          .ev (.letl 1731 (.take 1092 (.sub (.len 2) (.c 1)))) (
           .ev (.need (.le (.c 0) (.sub (.len 2) (.c 1)))) (
            .ev (.need (.le (.sub (.len 2) (.c 1)) (.len 1092))) (
             .ret [.i (.c 0), .l 1731, .l 1093, .i (.c 0)])))) (
          .ite (.eq (.v 1091) (.c 1)) (
           .ev (.letl 1731 (.take 1093 (.sub (.len 2) (.c 1)))) (
            .ev (.need (.le (.c 0) (.sub (.len 2) (.c 1)))) (
             .ev (.need (.le (.sub (.len 2) (.c 1)) (.len 1093))) (
              .ret [.i (.c 1), .l 1092, .l 1731, .i (.c 0)])))) (
           .stuck "split")))))) (
      .stuck "split"))))
theorem is21 : prune [] (execFn Try.prog cfg21 Try.f21 sg21 3000) = tree21 := by kernel_rfl
/-- rastrum.stack.Right -/
def cfg22 : Cfg := ⟨sigsOf sigs, false, [(9, ⟨[], []⟩)], []⟩
def tree22 : Tree :=
  .ite (.and (.not (.eq (.v 0) (.c 0))) (.not (.eq (.v 0) (.c 1)))) (
   .ret [.b (.c false)]) (
   .ite (.or (.lt (.len 1) (.c 1)) (.lt (.c 8) (.len 1))) (
    .ret [.b (.c false)]) (
    .loop 9 [.b (.c false), .i (.c 0)] [.c (.b), .c (.i .i64)] 2179 (
     .ite (.lt (.v 2180) (.len 1)) (
      .ev (.need (.le (.c 0) (.v 2180))) (
       .ev (.call 31 (.c true) [.i (.get 1 (.v 2180) 0), .i (.get 1 (.v 2180) 1), .i (.get 1 (.v 2180) 2), .i (.get 1 (.v 2180) 3), .i (.get 1 (.v 2180) 4), .i (.get 1 (.v 2180) 5), .i (.get 1 (.v 2180) 6), .i (.get 1 (.v 2180) 7), .i (.get 1 (.v 2180) 8), .i (.get 1 (.v 2180) 9), .i (.get 1 (.v 2180) 10), .i (.get 1 (.v 2180) 11), .i (.get 1 (.v 2180) 12), .i (.get 1 (.v 2180) 13), .i (.get 1 (.v 2180) 14), .i (.get 1 (.v 2180) 15)] [.one (.c (.b))] 2821) (
        .ite (.not (.v 2821)) (
         .ret [.b (.c false)]) (
         .ev (.need (.and (.le (.c (-9223372036854775808)) (.add (.v 2180) (.c 1))) (.le (.add (.v 2180) (.c 1)) (.c 9223372036854775807)))) (
          .again 9 [.b (.v 2179), .i (.add (.v 2180) (.c 1))]))))) (
      .ite (.or (.lt (.len 2) (.c 1)) (.lt (.c 8) (.len 2))) (
       .ret [.b (.c false)]) (
       .loop 9 [.b (.v 2179), .i (.c 0), .b (.lt (.v 2180) (.len 1))] [.c (.b), .c (.i .i64), .c (.b)] 3845 (
        .ite (.lt (.v 3846) (.len 2)) (
         .ev (.need (.le (.c 0) (.v 3846))) (
          .ev (.call 31 (.c true) [.i (.get 2 (.v 3846) 0), .i (.get 2 (.v 3846) 1), .i (.get 2 (.v 3846) 2), .i (.get 2 (.v 3846) 3), .i (.get 2 (.v 3846) 4), .i (.get 2 (.v 3846) 5), .i (.get 2 (.v 3846) 6), .i (.get 2 (.v 3846) 7), .i (.get 2 (.v 3846) 8), .i (.get 2 (.v 3846) 9), .i (.get 2 (.v 3846) 10), .i (.get 2 (.v 3846) 11), .i (.get 2 (.v 3846) 12), .i (.get 2 (.v 3846) 13), .i (.get 2 (.v 3846) 14), .i (.get 2 (.v 3846) 15)] [.one (.c (.b))] 4488) (
           .ite (.not (.v 4488)) (
            .ret [.b (.c false)]) (
            .ev (.need (.and (.le (.c (-9223372036854775808)) (.add (.v 3846) (.c 1))) (.le (.add (.v 3846) (.c 1)) (.c 9223372036854775807)))) (
             .again 9 [.b (.v 3845), .i (.add (.v 3846) (.c 1)), .b (.lt (.v 3846) (.len 2))]))))) (
         .ret [.b (.c true)])))))))
theorem is22 : prune [] (execFn Try.prog cfg22 Try.f22 sg22 3000) = tree22 := by kernel_rfl
/-- rastrum.rastrumref06.Right -/
def cfg23 : Cfg := ⟨sigsOf sigs, false, [(9, ⟨[], []⟩)], []⟩
def tree23 : Tree :=
  .ite (.and (.not (.eq (.v 0) (.c 0))) (.not (.eq (.v 0) (.c 1)))) (
   .ret [.b (.c false)]) (
   .ite (.or (.lt (.len 1) (.c 1)) (.lt (.c 8) (.len 1))) (
    .ret [.b (.c false)]) (
    .loop 9 [.b (.c false), .i (.c 0)] [.c (.b), .c (.i .i64)] 1795 (
     .ite (.lt (.v 1796) (.len 1)) (
      .ev (.need (.le (.c 0) (.v 1796))) (
       .ev (.call 28 (.c true) [.i (.get 1 (.v 1796) 0), .i (.get 1 (.v 1796) 1), .i (.get 1 (.v 1796) 2), .i (.get 1 (.v 1796) 3), .i (.get 1 (.v 1796) 4), .i (.get 1 (.v 1796) 5), .i (.get 1 (.v 1796) 6), .i (.get 1 (.v 1796) 7), .i (.get 1 (.v 1796) 8), .i (.get 1 (.v 1796) 9), .i (.get 1 (.v 1796) 10), .i (.get 1 (.v 1796) 11), .i (.get 1 (.v 1796) 12), .i (.get 1 (.v 1796) 13), .i (.get 1 (.v 1796) 14), .i (.get 1 (.v 1796) 15)] [.one (.c (.b))] 2693) (
        .ite (.not (.v 2693)) (
         .ret [.b (.c false)]) (
         .ev (.need (.and (.le (.c (-9223372036854775808)) (.add (.v 1796) (.c 1))) (.le (.add (.v 1796) (.c 1)) (.c 9223372036854775807)))) (
          .again 9 [.b (.v 1795), .i (.add (.v 1796) (.c 1))]))))) (
      .ite (.or (.lt (.len 2) (.c 1)) (.lt (.c 8) (.len 2))) (
       .ret [.b (.c false)]) (
       .loop 9 [.b (.v 1795), .i (.c 0), .i (.v 1796), .i (.c 0), .i (.len 1), .b (.lt (.v 1796) (.len 1))] [.c (.b), .c (.i .i64), .c (.i .i64), .c (.i .i64), .c (.i .i64), .c (.b)] 3525 (
        .ite (.lt (.v 3526) (.len 2)) (
         .ev (.need (.le (.c 0) (.v 3526))) (
          .ev (.call 28 (.c true) [.i (.get 2 (.v 3526) 0), .i (.get 2 (.v 3526) 1), .i (.get 2 (.v 3526) 2), .i (.get 2 (.v 3526) 3), .i (.get 2 (.v 3526) 4), .i (.get 2 (.v 3526) 5), .i (.get 2 (.v 3526) 6), .i (.get 2 (.v 3526) 7), .i (.get 2 (.v 3526) 8), .i (.get 2 (.v 3526) 9), .i (.get 2 (.v 3526) 10), .i (.get 2 (.v 3526) 11), .i (.get 2 (.v 3526) 12), .i (.get 2 (.v 3526) 13), .i (.get 2 (.v 3526) 14), .i (.get 2 (.v 3526) 15)] [.one (.c (.b))] 4427) (
           .ite (.not (.v 4427)) (
            .ret [.b (.c false)]) (
            .ev (.need (.and (.le (.c (-9223372036854775808)) (.add (.v 3526) (.c 1))) (.le (.add (.v 3526) (.c 1)) (.c 9223372036854775807)))) (
             .again 9 [.b (.v 3525), .i (.add (.v 3526) (.c 1)), .i (.v 3526), .i (.c 1), .i (.len 2), .b (.lt (.v 3526) (.len 2))]))))) (
         .ret [.b (.c true)])))))))
theorem is23 : prune [] (execFn Try.prog cfg23 Try.f23 sg23 3000) = tree23 := by kernel_rfl
/-- rastrum.stack.New -/
def cfg24 : Cfg := ⟨sigsOf sigs, false, [], []⟩
def tree24 : Tree :=
  .ev (.call 34 (.c true) [] [.agg [.c (.i .i64), .c (.i .i64), .c (.i .i64), .c (.i .i64), .c (.i .i64), .c (.i .i64), .c (.i .i64), .c (.i .i64), .c (.i .i64), .c (.i .i64), .c (.i .i64), .c (.i .i64), .c (.i .i64), .c (.i .i64), .c (.i .i64), .c (.i .i64)]] 64) (
   .ev (.letl 128 (.lit [[(.v 64), (.v 65), (.v 66), (.v 67), (.v 68), (.v 69), (.v 70), (.v 71), (.v 72), (.v 73), (.v 74), (.v 75), (.v 76), (.v 77), (.v 78), (.v 79)]])) (
    .ev (.call 34 (.c true) [] [.agg [.c (.i .i64), .c (.i .i64), .c (.i .i64), .c (.i .i64), .c (.i .i64), .c (.i .i64), .c (.i .i64), .c (.i .i64), .c (.i .i64), .c (.i .i64), .c (.i .i64), .c (.i .i64), .c (.i .i64), .c (.i .i64), .c (.i .i64), .c (.i .i64)]] 192) (
     .ev (.letl 256 (.lit [[(.v 192), (.v 193), (.v 194), (.v 195), (.v 196), (.v 197), (.v 198), (.v 199), (.v 200), (.v 201), (.v 202), (.v 203), (.v 204), (.v 205), (.v 206), (.v 207)]])) (
      .ret [.i (.c 0), .l 128, .l 256]))))
theorem is24 : prune [] (execFn Try.prog cfg24 Try.f24 sg24 3000) = tree24 := by kernel_rfl
/-- rastrum.rastrumref06.New -/
def cfg25 : Cfg := ⟨sigsOf sigs, false, [], []⟩
def tree25 : Tree :=
  .ev (.call 35 (.c true) [] [.agg [.c (.i .i64), .c (.i .i64), .c (.i .i64), .c (.i .i64), .c (.i .i64), .c (.i .i64), .c (.i .i64), .c (.i .i64), .c (.i .i64), .c (.i .i64), .c (.i .i64), .c (.i .i64), .c (.i .i64), .c (.i .i64), .c (.i .i64), .c (.i .i64)]] 64) (
   .ev (.letl 128 (.lit [[(.v 64), (.v 65), (.v 66), (.v 67), (.v 68), (.v 69), (.v 70), (.v 71), (.v 72), (.v 73), (.v 74), (.v 75), (.v 76), (.v 77), (.v 78), (.v 79)]])) (
    .ev (.call 35 (.c true) [] [.agg [.c (.i .i64), .c (.i .i64), .c (.i .i64), .c (.i .i64), .c (.i .i64), .c (.i .i64), .c (.i .i64), .c (.i .i64), .c (.i .i64), .c (.i .i64), .c (.i .i64), .c (.i .i64), .c (.i .i64), .c (.i .i64), .c (.i .i64), .c (.i .i64)]] 192) (
     .ev (.letl 256 (.lit [[(.v 192), (.v 193), (.v 194), (.v 195), (.v 196), (.v 197), (.v 198), (.v 199), (.v 200), (.v 201), (.v 202), (.v 203), (.v 204), (.v 205), (.v 206), (.v 207)]])) (
      .ret [.i (.c 0), .l 128, .l 256]))))
theorem is25 : prune [] (execFn Try.prog cfg25 Try.f25 sg25 3000) = tree25 := by kernel_rfl
/-- rastrum.rastrumlaw06.do -/
def cfg26 : Cfg := ⟨sigsOf sigs, false, [], []⟩
def tree26 : Tree :=
  .ite (.eq (.v 3) (.c 0)) (
   .ev (.call 16 (.c true) [.i (.v 0), .l 1, .l 2, .i (.v 4)] [.agg [.c (.i .i64), .s 33 [.i .i64, .i .i64, .i .i64, .i .i64, .i .i64, .i .i64, .i .i64, .i .i64, .i .i64, .i .i64, .i .i64, .i .i64, .i .i64, .i .i64, .i .i64, .i .i64], .s 33 [.i .i64, .i .i64, .i .i64, .i .i64, .i .i64, .i .i64, .i .i64, .i .i64, .i .i64, .i .i64, .i .i64, .i .i64, .i .i64, .i .i64, .i .i64, .i .i64]], .one (.c (.i .i64))] 725) (
    .ret [.i (.v 725), .l 726, .l 727, .i (.v 728)])) (
   .ite (.eq (.v 3) (.c 1)) (
    .ev (.call 10 (.c true) [.i (.v 0), .l 1, .l 2, .i (.v 5), .i (.v 6), .i (.v 7), .i (.v 8), .i (.v 9), .i (.v 10), .i (.v 11), .i (.v 12), .i (.v 13), .i (.v 14), .i (.v 15), .i (.v 16), .i (.v 17), .i (.v 18), .i (.v 19), .i (.v 20)] [.agg [.c (.i .i64), .s 33 [.i .i64, .i .i64, .i .i64, .i .i64, .i .i64, .i .i64, .i .i64, .i .i64, .i .i64, .i .i64, .i .i64, .i .i64, .i .i64, .i .i64, .i .i64, .i .i64], .s 33 [.i .i64, .i .i64, .i .i64, .i .i64, .i .i64, .i .i64, .i .i64, .i .i64, .i .i64, .i .i64, .i .i64, .i .i64, .i .i64, .i .i64, .i .i64, .i .i64]], .one (.c (.i .i64))] 853) (
     .ret [.i (.v 853), .l 854, .l 855, .i (.v 856)])) (
    .ite (.eq (.v 3) (.c 2)) (
     .ev (.call 11 (.c true) [.i (.v 0), .l 1, .l 2, .i (.v 5), .i (.v 6), .i (.v 7), .i (.v 8), .i (.v 9), .i (.v 10), .i (.v 11), .i (.v 12), .i (.v 13), .i (.v 14), .i (.v 15), .i (.v 16), .i (.v 17), .i (.v 18), .i (.v 19), .i (.v 20)] [.agg [.c (.i .i64), .s 33 [.i .i64, .i .i64, .i .i64, .i .i64, .i .i64, .i .i64, .i .i64, .i .i64, .i .i64, .i .i64, .i .i64, .i .i64, .i .i64, .i .i64, .i .i64, .i .i64], .s 33 [.i .i64, .i .i64, .i .i64, .i .i64, .i .i64, .i .i64, .i .i64, .i .i64, .i .i64, .i .i64, .i .i64, .i .i64, .i .i64, .i .i64, .i .i64, .i .i64]], .one (.c (.i .i64))] 981) (
      .ret [.i (.v 981), .l 982, .l 983, .i (.v 984)])) (
     .ite (.eq (.v 3) (.c 3)) (
      .ev (.call 9 (.c true) [.i (.v 0), .l 1, .l 2] [.agg [.c (.i .i64), .s 33 [.i .i64, .i .i64, .i .i64, .i .i64, .i .i64, .i .i64, .i .i64, .i .i64, .i .i64, .i .i64, .i .i64, .i .i64, .i .i64, .i .i64, .i .i64, .i .i64], .s 33 [.i .i64, .i .i64, .i .i64, .i .i64, .i .i64, .i .i64, .i .i64, .i .i64, .i .i64, .i .i64, .i .i64, .i .i64, .i .i64, .i .i64, .i .i64, .i .i64]], .one (.c (.i .i64))] 981) (
       .ret [.i (.v 981), .l 982, .l 983, .i (.v 984)])) (
      .ev (.call 12 (.c true) [.i (.v 0), .l 1, .l 2] [.agg [.c (.i .i64), .s 33 [.i .i64, .i .i64, .i .i64, .i .i64, .i .i64, .i .i64, .i .i64, .i .i64, .i .i64, .i .i64, .i .i64, .i .i64, .i .i64, .i .i64, .i .i64, .i .i64], .s 33 [.i .i64, .i .i64, .i .i64, .i .i64, .i .i64, .i .i64, .i .i64, .i .i64, .i .i64, .i .i64, .i .i64, .i .i64, .i .i64, .i .i64, .i .i64, .i .i64]], .one (.c (.i .i64))] 981) (
       .ret [.i (.v 981), .l 982, .l 983, .i (.v 984)])))))
theorem is26 : prune [] (execFn Try.prog cfg26 Try.f26 sg26 3000) = tree26 := by kernel_rfl
/-- rastrum.rastrumlaw06.want -/
def cfg27 : Cfg := ⟨sigsOf sigs, false, [], []⟩
def tree27 : Tree :=
  .ite (.eq (.v 3) (.c 0)) (
   .ev (.call 17 (.c true) [.i (.v 0), .l 1, .l 2, .i (.v 4)] [.agg [.c (.i .i64), .s 33 [.i .i64, .i .i64, .i .i64, .i .i64, .i .i64, .i .i64, .i .i64, .i .i64, .i .i64, .i .i64, .i .i64, .i .i64, .i .i64, .i .i64, .i .i64, .i .i64], .s 33 [.i .i64, .i .i64, .i .i64, .i .i64, .i .i64, .i .i64, .i .i64, .i .i64, .i .i64, .i .i64, .i .i64, .i .i64, .i .i64, .i .i64, .i .i64, .i .i64]], .one (.c (.i .i64))] 725) (
    .ret [.i (.v 725), .l 726, .l 727, .i (.v 728)])) (
   .ite (.eq (.v 3) (.c 1)) (
    .ev (.call 18 (.c true) [.i (.v 0), .l 1, .l 2, .i (.v 5), .i (.v 6), .i (.v 7), .i (.v 8), .i (.v 9), .i (.v 10), .i (.v 11), .i (.v 12), .i (.v 13), .i (.v 14), .i (.v 15), .i (.v 16), .i (.v 17), .i (.v 18), .i (.v 19), .i (.v 20)] [.agg [.c (.i .i64), .s 33 [.i .i64, .i .i64, .i .i64, .i .i64, .i .i64, .i .i64, .i .i64, .i .i64, .i .i64, .i .i64, .i .i64, .i .i64, .i .i64, .i .i64, .i .i64, .i .i64], .s 33 [.i .i64, .i .i64, .i .i64, .i .i64, .i .i64, .i .i64, .i .i64, .i .i64, .i .i64, .i .i64, .i .i64, .i .i64, .i .i64, .i .i64, .i .i64, .i .i64]], .one (.c (.i .i64))] 853) (
     .ret [.i (.v 853), .l 854, .l 855, .i (.v 856)])) (
    .ite (.eq (.v 3) (.c 2)) (
     .ev (.call 19 (.c true) [.i (.v 0), .l 1, .l 2, .i (.v 5), .i (.v 6), .i (.v 7), .i (.v 8), .i (.v 9), .i (.v 10), .i (.v 11), .i (.v 12), .i (.v 13), .i (.v 14), .i (.v 15), .i (.v 16), .i (.v 17), .i (.v 18), .i (.v 19), .i (.v 20)] [.agg [.c (.i .i64), .s 33 [.i .i64, .i .i64, .i .i64, .i .i64, .i .i64, .i .i64, .i .i64, .i .i64, .i .i64, .i .i64, .i .i64, .i .i64, .i .i64, .i .i64, .i .i64, .i .i64], .s 33 [.i .i64, .i .i64, .i .i64, .i .i64, .i .i64, .i .i64, .i .i64, .i .i64, .i .i64, .i .i64, .i .i64, .i .i64, .i .i64, .i .i64, .i .i64, .i .i64]], .one (.c (.i .i64))] 981) (
      .ret [.i (.v 981), .l 982, .l 983, .i (.v 984)])) (
     .ite (.eq (.v 3) (.c 3)) (
      .ev (.call 20 (.c true) [.i (.v 0), .l 1, .l 2] [.agg [.c (.i .i64), .s 33 [.i .i64, .i .i64, .i .i64, .i .i64, .i .i64, .i .i64, .i .i64, .i .i64, .i .i64, .i .i64, .i .i64, .i .i64, .i .i64, .i .i64, .i .i64, .i .i64], .s 33 [.i .i64, .i .i64, .i .i64, .i .i64, .i .i64, .i .i64, .i .i64, .i .i64, .i .i64, .i .i64, .i .i64, .i .i64, .i .i64, .i .i64, .i .i64, .i .i64]], .one (.c (.i .i64))] 981) (
       .ret [.i (.v 981), .l 982, .l 983, .i (.v 984)])) (
      .ev (.call 21 (.c true) [.i (.v 0), .l 1, .l 2] [.agg [.c (.i .i64), .s 33 [.i .i64, .i .i64, .i .i64, .i .i64, .i .i64, .i .i64, .i .i64, .i .i64, .i .i64, .i .i64, .i .i64, .i .i64, .i .i64, .i .i64, .i .i64, .i .i64], .s 33 [.i .i64, .i .i64, .i .i64, .i .i64, .i .i64, .i .i64, .i .i64, .i .i64, .i .i64, .i .i64, .i .i64, .i .i64, .i .i64, .i .i64, .i .i64, .i .i64]], .one (.c (.i .i64))] 981) (
       .ret [.i (.v 981), .l 982, .l 983, .i (.v 984)])))))
theorem is27 : prune [] (execFn Try.prog cfg27 Try.f27 sg27 3000) = tree27 := by kernel_rfl
/-- rastrum.rastrumref05.Right -/
def cfg28 : Cfg := ⟨sigsOf sigs, false, [], []⟩
def tree28 : Tree :=
  .ev (.call 36 (.c true) [.i (.v 0), .i (.c 268435456)] [.one (.c (.b))] 528) (
   .ite (.not (.v 528)) (
    .ret [.b (.c false)]) (
    .ev (.call 36 (.c true) [.i (.v 1), .i (.c 268435456)] [.one (.c (.b))] 1168) (
     .ite (.not (.v 1168)) (
      .ret [.b (.c false)]) (
      .ev (.call 36 (.c true) [.i (.v 2), .i (.c 268435456)] [.one (.c (.b))] 1808) (
       .ite (.not (.v 1808)) (
        .ret [.b (.c false)]) (
        .ev (.call 36 (.c true) [.i (.v 3), .i (.c 268435456)] [.one (.c (.b))] 2448) (
         .ite (.not (.v 2448)) (
          .ret [.b (.c false)]) (
          .ev (.call 36 (.c true) [.i (.v 4), .i (.c 268435456)] [.one (.c (.b))] 3088) (
           .ite (.not (.v 3088)) (
            .ret [.b (.c false)]) (
            .ev (.call 36 (.c true) [.i (.v 5), .i (.c 268435456)] [.one (.c (.b))] 3728) (
             .ite (.not (.v 3728)) (
              .ret [.b (.c false)]) (
              .ev (.call 36 (.c true) [.i (.v 6), .i (.c 268435456)] [.one (.c (.b))] 4368) (
               .ite (.not (.v 4368)) (
                .ret [.b (.c false)]) (
                .ev (.call 36 (.c true) [.i (.v 7), .i (.c 268435456)] [.one (.c (.b))] 5008) (
                 .ite (.not (.v 5008)) (
                  .ret [.b (.c false)]) (
                  .ev (.call 36 (.c true) [.i (.v 8), .i (.c 268435456)] [.one (.c (.b))] 5648) (
                   .ite (.not (.v 5648)) (
                    .ret [.b (.c false)]) (
                    .ev (.call 36 (.c true) [.i (.v 9), .i (.c 268435456)] [.one (.c (.b))] 6288) (
                     .ite (.not (.v 6288)) (
                      .ret [.b (.c false)]) (
                      .ev (.call 36 (.c true) [.i (.v 10), .i (.c 268435456)] [.one (.c (.b))] 6928) (
                       .ite (.not (.v 6928)) (
                        .ret [.b (.c false)]) (
                        .ev (.call 36 (.c true) [.i (.v 11), .i (.c 268435456)] [.one (.c (.b))] 7568) (
                         .ite (.not (.v 7568)) (
                          .ret [.b (.c false)]) (
                          .ev (.call 36 (.c true) [.i (.v 12), .i (.c 268435456)] [.one (.c (.b))] 8208) (
                           .ite (.not (.v 8208)) (
                            .ret [.b (.c false)]) (
                            .ev (.call 36 (.c true) [.i (.v 13), .i (.c 268435456)] [.one (.c (.b))] 8848) (
                             .ite (.not (.v 8848)) (
                              .ret [.b (.c false)]) (
                              .ev (.call 36 (.c true) [.i (.v 14), .i (.c 268435456)] [.one (.c (.b))] 9488) (
                               .ite (.not (.v 9488)) (
                                .ret [.b (.c false)]) (
                                .ev (.call 36 (.c true) [.i (.v 15), .i (.c 268435456)] [.one (.c (.b))] 10128) (
                                 .ite (.not (.v 10128)) (
                                  .ret [.b (.c false)]) (
                                  .ret [.b (.c true)]))))))))))))))))))))))))))))))))
theorem is28 : prune [] (execFn Try.prog cfg28 Try.f28 sg28 3000) = tree28 := by kernel_rfl
/-- rastrum.rastrumref05.Mul -/
def cfg29 : Cfg := ⟨sigsOf sigs, false, [], []⟩
def tree29 : Tree :=
  .ev (.call 28 (.c true) [.i (.v 0), .i (.v 1), .i (.v 2), .i (.v 3), .i (.v 4), .i (.v 5), .i (.v 6), .i (.v 7), .i (.v 8), .i (.v 9), .i (.v 10), .i (.v 11), .i (.v 12), .i (.v 13), .i (.v 14), .i (.v 15)] [.one (.c (.b))] 352) (
   .ev (.call 28 (.v 352) [.i (.v 16), .i (.v 17), .i (.v 18), .i (.v 19), .i (.v 20), .i (.v 21), .i (.v 22), .i (.v 23), .i (.v 24), .i (.v 25), .i (.v 26), .i (.v 27), .i (.v 28), .i (.v 29), .i (.v 30), .i (.v 31)] [.one (.c (.b))] 608) (
    .ite (.or (.not (.v 352)) (.not (.v 608))) (
     .ret [.i (.c 0), .i (.c 0), .i (.c 0), .i (.c 0), .i (.c 0), .i (.c 0), .i (.c 0), .i (.c 0), .i (.c 0), .i (.c 0), .i (.c 0), .i (.c 0), .i (.c 0), .i (.c 0), .i (.c 0), .i (.c 0), .i (.c 1)]) (
     .ev (.call 37 (.c true) [.i (.v 0), .i (.v 1), .i (.v 2), .i (.v 3), .i (.v 4), .i (.v 5), .i (.v 6), .i (.v 7), .i (.v 8), .i (.v 9), .i (.v 10), .i (.v 11), .i (.v 12), .i (.v 13), .i (.v 14), .i (.v 15), .i (.c 0), .i (.c 0)] [.one (.c (.i .i64))] 1760) (
      .ev (.call 37 (.c true) [.i (.v 16), .i (.v 17), .i (.v 18), .i (.v 19), .i (.v 20), .i (.v 21), .i (.v 22), .i (.v 23), .i (.v 24), .i (.v 25), .i (.v 26), .i (.v 27), .i (.v 28), .i (.v 29), .i (.v 30), .i (.v 31), .i (.c 0), .i (.c 0)] [.one (.c (.i .i64))] 2016) (
       .ev (.need (.and (.le (.c (-9223372036854775808)) (.mul (.v 1760) (.v 2016))) (.le (.mul (.v 1760) (.v 2016)) (.c 9223372036854775807)))) (
        .ev (.call 37 (.c true) [.i (.v 0), .i (.v 1), .i (.v 2), .i (.v 3), .i (.v 4), .i (.v 5), .i (.v 6), .i (.v 7), .i (.v 8), .i (.v 9), .i (.v 10), .i (.v 11), .i (.v 12), .i (.v 13), .i (.v 14), .i (.v 15), .i (.c 0), .i (.c 1)] [.one (.c (.i .i64))] 2848) (
         .ev (.call 37 (.c true) [.i (.v 16), .i (.v 17), .i (.v 18), .i (.v 19), .i (.v 20), .i (.v 21), .i (.v 22), .i (.v 23), .i (.v 24), .i (.v 25), .i (.v 26), .i (.v 27), .i (.v 28), .i (.v 29), .i (.v 30), .i (.v 31), .i (.c 1), .i (.c 0)] [.one (.c (.i .i64))] 3104) (
          .ev (.need (.and (.le (.c (-9223372036854775808)) (.mul (.v 2848) (.v 3104))) (.le (.mul (.v 2848) (.v 3104)) (.c 9223372036854775807)))) (
           .ev (.need (.and (.le (.c (-9223372036854775808)) (.add (.mul (.v 1760) (.v 2016)) (.mul (.v 2848) (.v 3104)))) (.le (.add (.mul (.v 1760) (.v 2016)) (.mul (.v 2848) (.v 3104))) (.c 9223372036854775807)))) (
            .ev (.call 37 (.c true) [.i (.v 0), .i (.v 1), .i (.v 2), .i (.v 3), .i (.v 4), .i (.v 5), .i (.v 6), .i (.v 7), .i (.v 8), .i (.v 9), .i (.v 10), .i (.v 11), .i (.v 12), .i (.v 13), .i (.v 14), .i (.v 15), .i (.c 0), .i (.c 2)] [.one (.c (.i .i64))] 3936) (
             .ev (.call 37 (.c true) [.i (.v 16), .i (.v 17), .i (.v 18), .i (.v 19), .i (.v 20), .i (.v 21), .i (.v 22), .i (.v 23), .i (.v 24), .i (.v 25), .i (.v 26), .i (.v 27), .i (.v 28), .i (.v 29), .i (.v 30), .i (.v 31), .i (.c 2), .i (.c 0)] [.one (.c (.i .i64))] 4192) (
              .ev (.need (.and (.le (.c (-9223372036854775808)) (.mul (.v 3936) (.v 4192))) (.le (.mul (.v 3936) (.v 4192)) (.c 9223372036854775807)))) (
               .ev (.need (.and (.le (.c (-9223372036854775808)) (.add (.add (.mul (.v 1760) (.v 2016)) (.mul (.v 2848) (.v 3104))) (.mul (.v 3936) (.v 4192)))) (.le (.add (.add (.mul (.v 1760) (.v 2016)) (.mul (.v 2848) (.v 3104))) (.mul (.v 3936) (.v 4192))) (.c 9223372036854775807)))) (
                .ev (.call 37 (.c true) [.i (.v 0), .i (.v 1), .i (.v 2), .i (.v 3), .i (.v 4), .i (.v 5), .i (.v 6), .i (.v 7), .i (.v 8), .i (.v 9), .i (.v 10), .i (.v 11), .i (.v 12), .i (.v 13), .i (.v 14), .i (.v 15), .i (.c 0), .i (.c 3)] [.one (.c (.i .i64))] 5024) (
                 .ev (.call 37 (.c true) [.i (.v 16), .i (.v 17), .i (.v 18), .i (.v 19), .i (.v 20), .i (.v 21), .i (.v 22), .i (.v 23), .i (.v 24), .i (.v 25), .i (.v 26), .i (.v 27), .i (.v 28), .i (.v 29), .i (.v 30), .i (.v 31), .i (.c 3), .i (.c 0)] [.one (.c (.i .i64))] 5280) (
                  .ev (.need (.and (.le (.c (-9223372036854775808)) (.mul (.v 5024) (.v 5280))) (.le (.mul (.v 5024) (.v 5280)) (.c 9223372036854775807)))) (
                   .ev (.need (.and (.le (.c (-9223372036854775808)) (.add (.add (.add (.mul (.v 1760) (.v 2016)) (.mul (.v 2848) (.v 3104))) (.mul (.v 3936) (.v 4192))) (.mul (.v 5024) (.v 5280)))) (.le (.add (.add (.add (.mul (.v 1760) (.v 2016)) (.mul (.v 2848) (.v 3104))) (.mul (.v 3936) (.v 4192))) (.mul (.v 5024) (.v 5280))) (.c 9223372036854775807)))) (
                    .ev (.call 38 (.c true) [.i (.add (.add (.add (.mul (.v 1760) (.v 2016)) (.mul (.v 2848) (.v 3104))) (.mul (.v 3936) (.v 4192))) (.mul (.v 5024) (.v 5280)))] [.one (.c (.i .i64))] 6176) (
                     .ev (.call 37 (.c true) [.i (.v 0), .i (.v 1), .i (.v 2), .i (.v 3), .i (.v 4), .i (.v 5), .i (.v 6), .i (.v 7), .i (.v 8), .i (.v 9), .i (.v 10), .i (.v 11), .i (.v 12), .i (.v 13), .i (.v 14), .i (.v 15), .i (.c 0), .i (.c 0)] [.one (.c (.i .i64))] 7200) (
                      .ev (.call 37 (.c true) [.i (.v 16), .i (.v 17), .i (.v 18), .i (.v 19), .i (.v 20), .i (.v 21), .i (.v 22), .i (.v 23), .i (.v 24), .i (.v 25), .i (.v 26), .i (.v 27), .i (.v 28), .i (.v 29), .i (.v 30), .i (.v 31), .i (.c 0), .i (.c 1)] [.one (.c (.i .i64))] 7456) (
                       .ev (.need (.and (.le (.c (-9223372036854775808)) (.mul (.v 7200) (.v 7456))) (.le (.mul (.v 7200) (.v 7456)) (.c 9223372036854775807)))) (
                        .ev (.call 37 (.c true) [.i (.v 0), .i (.v 1), .i (.v 2), .i (.v 3), .i (.v 4), .i (.v 5), .i (.v 6), .i (.v 7), .i (.v 8), .i (.v 9), .i (.v 10), .i (.v 11), .i (.v 12), .i (.v 13), .i (.v 14), .i (.v 15), .i (.c 0), .i (.c 1)] [.one (.c (.i .i64))] 8288) (
                         .ev (.call 37 (.c true) [.i (.v 16), .i (.v 17), .i (.v 18), .i (.v 19), .i (.v 20), .i (.v 21), .i (.v 22), .i (.v 23), .i (.v 24), .i (.v 25), .i (.v 26), .i (.v 27), .i (.v 28), .i (.v 29), .i (.v 30), .i (.v 31), .i (.c 1), .i (.c 1)] [.one (.c (.i .i64))] 8544) (
                          .ev (.need (.and (.le (.c (-9223372036854775808)) (.mul (.v 8288) (.v 8544))) (.le (.mul (.v 8288) (.v 8544)) (.c 9223372036854775807)))) (
                           .ev (.need (.and (.le (.c (-9223372036854775808)) (.add (.mul (.v 7200) (.v 7456)) (.mul (.v 8288) (.v 8544)))) (.le (.add (.mul (.v 7200) (.v 7456)) (.mul (.v 8288) (.v 8544))) (.c 9223372036854775807)))) (
                            .ev (.call 37 (.c true) [.i (.v 0), .i (.v 1), .i (.v 2), .i (.v 3), .i (.v 4), .i (.v 5), .i (.v 6), .i (.v 7), .i (.v 8), .i (.v 9), .i (.v 10), .i (.v 11), .i (.v 12), .i (.v 13), .i (.v 14), .i (.v 15), .i (.c 0), .i (.c 2)] [.one (.c (.i .i64))] 9376) (
                             .ev (.call 37 (.c true) [.i (.v 16), .i (.v 17), .i (.v 18), .i (.v 19), .i (.v 20), .i (.v 21), .i (.v 22), .i (.v 23), .i (.v 24), .i (.v 25), .i (.v 26), .i (.v 27), .i (.v 28), .i (.v 29), .i (.v 30), .i (.v 31), .i (.c 2), .i (.c 1)] [.one (.c (.i .i64))] 9632) (
                              .ev (.need (.and (.le (.c (-9223372036854775808)) (.mul (.v 9376) (.v 9632))) (.le (.mul (.v 9376) (.v 9632)) (.c 9223372036854775807)))) (
                               .ev (.need (.and (.le (.c (-9223372036854775808)) (.add (.add (.mul (.v 7200) (.v 7456)) (.mul (.v 8288) (.v 8544))) (.mul (.v 9376) (.v 9632)))) (.le (.add (.add (.mul (.v 7200) (.v 7456)) (.mul (.v 8288) (.v 8544))) (.mul (.v 9376) (.v 9632))) (.c 9223372036854775807)))) (
                                .ev (.call 37 (.c true) [.i (.v 0), .i (.v 1), .i (.v 2), .i (.v 3), .i (.v 4), .i (.v 5), .i (.v 6), .i (.v 7), .i (.v 8), .i (.v 9), .i (.v 10), .i (.v 11), .i (.v 12), .i (.v 13), .i (.v 14), .i (.v 15), .i (.c 0), .i (.c 3)] [.one (.c (.i .i64))] 10464) (
                                 .ev (.call 37 (.c true) [.i (.v 16), .i (.v 17), .i (.v 18), .i (.v 19), .i (.v 20), .i (.v 21), .i (.v 22), .i (.v 23), .i (.v 24), .i (.v 25), .i (.v 26), .i (.v 27), .i (.v 28), .i (.v 29), .i (.v 30), .i (.v 31), .i (.c 3), .i (.c 1)] [.one (.c (.i .i64))] 10720) (
                                  .ev (.need (.and (.le (.c (-9223372036854775808)) (.mul (.v 10464) (.v 10720))) (.le (.mul (.v 10464) (.v 10720)) (.c 9223372036854775807)))) (
                                   .ev (.need (.and (.le (.c (-9223372036854775808)) (.add (.add (.add (.mul (.v 7200) (.v 7456)) (.mul (.v 8288) (.v 8544))) (.mul (.v 9376) (.v 9632))) (.mul (.v 10464) (.v 10720)))) (.le (.add (.add (.add (.mul (.v 7200) (.v 7456)) (.mul (.v 8288) (.v 8544))) (.mul (.v 9376) (.v 9632))) (.mul (.v 10464) (.v 10720))) (.c 9223372036854775807)))) (
                                    .ev (.call 38 (.c true) [.i (.add (.add (.add (.mul (.v 7200) (.v 7456)) (.mul (.v 8288) (.v 8544))) (.mul (.v 9376) (.v 9632))) (.mul (.v 10464) (.v 10720)))] [.one (.c (.i .i64))] 11616) (
                                     .ev (.call 37 (.c true) [.i (.v 0), .i (.v 1), .i (.v 2), .i (.v 3), .i (.v 4), .i (.v 5), .i (.v 6), .i (.v 7), .i (.v 8), .i (.v 9), .i (.v 10), .i (.v 11), .i (.v 12), .i (.v 13), .i (.v 14), .i (.v 15), .i (.c 0), .i (.c 0)] [.one (.c (.i .i64))] 12640) (
                                      .ev (.call 37 (.c true) [.i (.v 16), .i (.v 17), .i (.v 18), .i (.v 19), .i (.v 20), .i (.v 21), .i (.v 22), .i (.v 23), .i (.v 24), .i (.v 25), .i (.v 26), .i (.v 27), .i (.v 28), .i (.v 29), .i (.v 30), .i (.v 31), .i (.c 0), .i (.c 2)] [.one (.c (.i .i64))] 12896) (
                                       .ev (.need (.and (.le (.c (-9223372036854775808)) (.mul (.v 12640) (.v 12896))) (.le (.mul (.v 12640) (.v 12896)) (.c 9223372036854775807)))) (
                                        .ev (.call 37 (.c true) [.i (.v 0), .i (.v 1), .i (.v 2), .i (.v 3), .i (.v 4), .i (.v 5), .i (.v 6), .i (.v 7), .i (.v 8), .i (.v 9), .i (.v 10), .i (.v 11), .i (.v 12), .i (.v 13), .i (.v 14), .i (.v 15), .i (.c 0), .i (.c 1)] [.one (.c (.i .i64))] 13728) (
                                         .ev (.call 37 (.c true) [.i (.v 16), .i (.v 17), .i (.v 18), .i (.v 19), .i (.v 20), .i (.v 21), .i (.v 22), .i (.v 23), .i (.v 24), .i (.v 25), .i (.v 26), .i (.v 27), .i (.v 28), .i (.v 29), .i (.v 30), .i (.v 31), .i (.c 1), .i (.c 2)] [.one (.c (.i .i64))] 13984) (
                                          .ev (.need (.and (.le (.c (-9223372036854775808)) (.mul (.v 13728) (.v 13984))) (.le (.mul (.v 13728) (.v 13984)) (.c 9223372036854775807)))) (
                                           .ev (.need (.and (.le (.c (-9223372036854775808)) (.add (.mul (.v 12640) (.v 12896)) (.mul (.v 13728) (.v 13984)))) (.le (.add (.mul (.v 12640) (.v 12896)) (.mul (.v 13728) (.v 13984))) (.c 9223372036854775807)))) (
                                            .ev (.call 37 (.c true) [.i (.v 0), .i (.v 1), .i (.v 2), .i (.v 3), .i (.v 4), .i (.v 5), .i (.v 6), .i (.v 7), .i (.v 8), .i (.v 9), .i (.v 10), .i (.v 11), .i (.v 12), .i (.v 13), .i (.v 14), .i (.v 15), .i (.c 0), .i (.c 2)] [.one (.c (.i .i64))] 14816) (
                                             .ev (.call 37 (.c true) [.i (.v 16), .i (.v 17), .i (.v 18), .i (.v 19), .i (.v 20), .i (.v 21), .i (.v 22), .i (.v 23), .i (.v 24), .i (.v 25), .i (.v 26), .i (.v 27), .i (.v 28), .i (.v 29), .i (.v 30), .i (.v 31), .i (.c 2), .i (.c 2)] [.one (.c (.i .i64))] 15072) (
                                              .ev (.need (.and (.le (.c (-9223372036854775808)) (.mul (.v 14816) (.v 15072))) (.le (.mul (.v 14816) (.v 15072)) (.c 9223372036854775807)))) (
                                               .ev (.need (.and (.le (.c (-9223372036854775808)) (.add (.add (.mul (.v 12640) (.v 12896)) (.mul (.v 13728) (.v 13984))) (.mul (.v 14816) (.v 15072)))) (.le (.add (.add (.mul (.v 12640) (.v 12896)) (.mul (.v 13728) (.v 13984))) (.mul (.v 14816) (.v 15072))) (.c 9223372036854775807)))) (
                                                .ev (.call 37 (.c true) [.i (.v 0), .i (.v 1), .i (.v 2), .i (.v 3), .i (.v 4), .i (.v 5), .i (.v 6), .i (.v 7), .i (.v 8), .i (.v 9), .i (.v 10), .i (.v 11), .i (.v 12), .i (.v 13), .i (.v 14), .i (.v 15), .i (.c 0), .i (.c 3)] [.one (.c (.i .i64))] 15904) (
                                                 .ev (.call 37 (.c true) [.i (.v 16), .i (.v 17), .i (.v 18), .i (.v 19), .i (.v 20), .i (.v 21), .i (.v 22), .i (.v 23), .i (.v 24), .i (.v 25), .i (.v 26), .i (.v 27), .i (.v 28), .i (.v 29), .i (.v 30), .i (.v 31), .i (.c 3), .i (.c 2)] [.one (.c (.i .i64))] 16160) (
                                                  .ev (.need (.and (.le (.c (-9223372036854775808)) (.mul (.v 15904) (.v 16160))) (.le (.mul (.v 15904) (.v 16160)) (.c 9223372036854775807)))) (
                                                   .ev (.need (.and (.le (.c (-9223372036854775808)) (.add (.add (.add (.mul (.v 12640) (.v 12896)) (.mul (.v 13728) (.v 13984))) (.mul (.v 14816) (.v 15072))) (.mul (.v 15904) (.v 16160)))) (.le (.add (.add (.add (.mul (.v 12640) (.v 12896)) (.mul (.v 13728) (.v 13984))) (.mul (.v 14816) (.v 15072))) (.mul (.v 15904) (.v 16160))) (.c 9223372036854775807)))) (
                                                    .ev (.call 38 (.c true) [.i (.add (.add (.add (.mul (.v 12640) (.v 12896)) (.mul (.v 13728) (.v 13984))) (.mul (.v 14816) (.v 15072))) (.mul (.v 15904) (.v 16160)))] [.one (.c (.i .i64))] 17056) (
                                                     .ev (.call 37 (.c true) [.i (.v 0), .i (.v 1), .i (.v 2), .i (.v 3), .i (.v 4), .i (.v 5), .i (.v 6), .i (.v 7), .i (.v 8), .i (.v 9), .i (.v 10), .i (.v 11), .i (.v 12), .i (.v 13), .i (.v 14), .i (.v 15), .i (.c 0), .i (.c 0)] [.one (.c (.i .i64))] 18080) (
                                                      .ev (.call 37 (.c true) [.i (.v 16), .i (.v 17), .i (.v 18), .i (.v 19), .i (.v 20), .i (.v 21), .i (.v 22), .i (.v 23), .i (.v 24), .i (.v 25), .i (.v 26), .i (.v 27), .i (.v 28), .i (.v 29), .i (.v 30), .i (.v 31), .i (.c 0), .i (.c 3)] [.one (.c (.i .i64))] 18336) (
                                                       .ev (.need (.and (.le (.c (-9223372036854775808)) (.mul (.v 18080) (.v 18336))) (.le (.mul (.v 18080) (.v 18336)) (.c 9223372036854775807)))) (
                                                        .ev (.call 37 (.c true) [.i (.v 0), .i (.v 1), .i (.v 2), .i (.v 3), .i (.v 4), .i (.v 5), .i (.v 6), .i (.v 7), .i (.v 8), .i (.v 9), .i (.v 10), .i (.v 11), .i (.v 12), .i (.v 13), .i (.v 14), .i (.v 15), .i (.c 0), .i (.c 1)] [.one (.c (.i .i64))] 19168) (
                                                         .ev (.call 37 (.c true) [.i (.v 16), .i (.v 17), .i (.v 18), .i (.v 19), .i (.v 20), .i (.v 21), .i (.v 22), .i (.v 23), .i (.v 24), .i (.v 25), .i (.v 26), .i (.v 27), .i (.v 28), .i (.v 29), .i (.v 30), .i (.v 31), .i (.c 1), .i (.c 3)] [.one (.c (.i .i64))] 19424) (
                                                          .ev (.need (.and (.le (.c (-9223372036854775808)) (.mul (.v 19168) (.v 19424))) (.le (.mul (.v 19168) (.v 19424)) (.c 9223372036854775807)))) (
                                                           .ev (.need (.and (.le (.c (-9223372036854775808)) (.add (.mul (.v 18080) (.v 18336)) (.mul (.v 19168) (.v 19424)))) (.le (.add (.mul (.v 18080) (.v 18336)) (.mul (.v 19168) (.v 19424))) (.c 9223372036854775807)))) (
                                                            .ev (.call 37 (.c true) [.i (.v 0), .i (.v 1), .i (.v 2), .i (.v 3), .i (.v 4), .i (.v 5), .i (.v 6), .i (.v 7), .i (.v 8), .i (.v 9), .i (.v 10), .i (.v 11), .i (.v 12), .i (.v 13), .i (.v 14), .i (.v 15), .i (.c 0), .i (.c 2)] [.one (.c (.i .i64))] 20256) (
                                                             .ev (.call 37 (.c true) [.i (.v 16), .i (.v 17), .i (.v 18), .i (.v 19), .i (.v 20), .i (.v 21), .i (.v 22), .i (.v 23), .i (.v 24), .i (.v 25), .i (.v 26), .i (.v 27), .i (.v 28), .i (.v 29), .i (.v 30), .i (.v 31), .i (.c 2), .i (.c 3)] [.one (.c (.i .i64))] 20512) (
                                                              .ev (.need (.and (.le (.c (-9223372036854775808)) (.mul (.v 20256) (.v 20512))) (.le (.mul (.v 20256) (.v 20512)) (.c 9223372036854775807)))) (
                                                               .ev (.need (.and (.le (.c (-9223372036854775808)) (.add (.add (.mul (.v 18080) (.v 18336)) (.mul (.v 19168) (.v 19424))) (.mul (.v 20256) (.v 20512)))) (.le (.add (.add (.mul (.v 18080) (.v 18336)) (.mul (.v 19168) (.v 19424))) (.mul (.v 20256) (.v 20512))) (.c 9223372036854775807)))) (
                                                                .ev (.call 37 (.c true) [.i (.v 0), .i (.v 1), .i (.v 2), .i (.v 3), .i (.v 4), .i (.v 5), .i (.v 6), .i (.v 7), .i (.v 8), .i (.v 9), .i (.v 10), .i (.v 11), .i (.v 12), .i (.v 13), .i (.v 14), .i (.v 15), .i (.c 0), .i (.c 3)] [.one (.c (.i .i64))] 21344) (
                                                                 .ev (.call 37 (.c true) [.i (.v 16), .i (.v 17), .i (.v 18), .i (.v 19), .i (.v 20), .i (.v 21), .i (.v 22), .i (.v 23), .i (.v 24), .i (.v 25), .i (.v 26), .i (.v 27), .i (.v 28), .i (.v 29), .i (.v 30), .i (.v 31), .i (.c 3), .i (.c 3)] [.one (.c (.i .i64))] 21600) (
                                                                  .ev (.need (.and (.le (.c (-9223372036854775808)) (.mul (.v 21344) (.v 21600))) (.le (.mul (.v 21344) (.v 21600)) (.c 9223372036854775807)))) (
                                                                   .ev (.need (.and (.le (.c (-9223372036854775808)) (.add (.add (.add (.mul (.v 18080) (.v 18336)) (.mul (.v 19168) (.v 19424))) (.mul (.v 20256) (.v 20512))) (.mul (.v 21344) (.v 21600)))) (.le (.add (.add (.add (.mul (.v 18080) (.v 18336)) (.mul (.v 19168) (.v 19424))) (.mul (.v 20256) (.v 20512))) (.mul (.v 21344) (.v 21600))) (.c 9223372036854775807)))) (
                                                                    .ev (.call 38 (.c true) [.i (.add (.add (.add (.mul (.v 18080) (.v 18336)) (.mul (.v 19168) (.v 19424))) (.mul (.v 20256) (.v 20512))) (.mul (.v 21344) (.v 21600)))] [.one (.c (.i .i64))] 22496) (
                                                                     .ev (.call 37 (.c true) [.i (.v 0), .i (.v 1), .i (.v 2), .i (.v 3), .i (.v 4), .i (.v 5), .i (.v 6), .i (.v 7), .i (.v 8), .i (.v 9), .i (.v 10), .i (.v 11), .i (.v 12), .i (.v 13), .i (.v 14), .i (.v 15), .i (.c 1), .i (.c 0)] [.one (.c (.i .i64))] 24032) (
                                                                      .ev (.call 37 (.c true) [.i (.v 16), .i (.v 17), .i (.v 18), .i (.v 19), .i (.v 20), .i (.v 21), .i (.v 22), .i (.v 23), .i (.v 24), .i (.v 25), .i (.v 26), .i (.v 27), .i (.v 28), .i (.v 29), .i (.v 30), .i (.v 31), .i (.c 0), .i (.c 0)] [.one (.c (.i .i64))] 24288) (
                                                                       .ev (.need (.and (.le (.c (-9223372036854775808)) (.mul (.v 24032) (.v 24288))) (.le (.mul (.v 24032) (.v 24288)) (.c 9223372036854775807)))) (
                                                                        .ev (.call 37 (.c true) [.i (.v 0), .i (.v 1), .i (.v 2), .i (.v 3), .i (.v 4), .i (.v 5), .i (.v 6), .i (.v 7), .i (.v 8), .i (.v 9), .i (.v 10), .i (.v 11), .i (.v 12), .i (.v 13), .i (.v 14), .i (.v 15), .i (.c 1), .i (.c 1)] [.one (.c (.i .i64))] 25120) (
                                                                         .ev (.call 37 (.c true) [.i (.v 16), .i (.v 17), .i (.v 18), .i (.v 19), .i (.v 20), .i (.v 21), .i (.v 22), .i (.v 23), .i (.v 24), .i (.v 25), .i (.v 26), .i (.v 27), .i (.v 28), .i (.v 29), .i (.v 30), .i (.v 31), .i (.c 1), .i (.c 0)] [.one (.c (.i .i64))] 25376) (
                                                                          .ev (.need (.and (.le (.c (-9223372036854775808)) (.mul (.v 25120) (.v 25376))) (.le (.mul (.v 25120) (.v 25376)) (.c 9223372036854775807)))) (
                                                                           .ev (.need (.and (.le (.c (-9223372036854775808)) (.add (.mul (.v 24032) (.v 24288)) (.mul (.v 25120) (.v 25376)))) (.le (.add (.mul (.v 24032) (.v 24288)) (.mul (.v 25120) (.v 25376))) (.c 9223372036854775807)))) (
                                                                            .ev (.call 37 (.c true) [.i (.v 0), .i (.v 1), .i (.v 2), .i (.v 3), .i (.v 4), .i (.v 5), .i (.v 6), .i (.v 7), .i (.v 8), .i (.v 9), .i (.v 10), .i (.v 11), .i (.v 12), .i (.v 13), .i (.v 14), .i (.v 15), .i (.c 1), .i (.c 2)] [.one (.c (.i .i64))] 26208) (
                                                                             .ev (.call 37 (.c true) [.i (.v 16), .i (.v 17), .i (.v 18), .i (.v 19), .i (.v 20), .i (.v 21), .i (.v 22), .i (.v 23), .i (.v 24), .i (.v 25), .i (.v 26), .i (.v 27), .i (.v 28), .i (.v 29), .i (.v 30), .i (.v 31), .i (.c 2), .i (.c 0)] [.one (.c (.i .i64))] 26464) (
                                                                              .ev (.need (.and (.le (.c (-9223372036854775808)) (.mul (.v 26208) (.v 26464))) (.le (.mul (.v 26208) (.v 26464)) (.c 9223372036854775807)))) (
                                                                               .ev (.need (.and (.le (.c (-9223372036854775808)) (.add (.add (.mul (.v 24032) (.v 24288)) (.mul (.v 25120) (.v 25376))) (.mul (.v 26208) (.v 26464)))) (.le (.add (.add (.mul (.v 24032) (.v 24288)) (.mul (.v 25120) (.v 25376))) (.mul (.v 26208) (.v 26464))) (.c 9223372036854775807)))) (
                                                                                .ev (.call 37 (.c true) [.i (.v 0), .i (.v 1), .i (.v 2), .i (.v 3), .i (.v 4), .i (.v 5), .i (.v 6), .i (.v 7), .i (.v 8), .i (.v 9), .i (.v 10), .i (.v 11), .i (.v 12), .i (.v 13), .i (.v 14), .i (.v 15), .i (.c 1), .i (.c 3)] [.one (.c (.i .i64))] 27296) (
                                                                                 .ev (.call 37 (.c true) [.i (.v 16), .i (.v 17), .i (.v 18), .i (.v 19), .i (.v 20), .i (.v 21), .i (.v 22), .i (.v 23), .i (.v 24), .i (.v 25), .i (.v 26), .i (.v 27), .i (.v 28), .i (.v 29), .i (.v 30), .i (.v 31), .i (.c 3), .i (.c 0)] [.one (.c (.i .i64))] 27552) (
                                                                                  .ev (.need (.and (.le (.c (-9223372036854775808)) (.mul (.v 27296) (.v 27552))) (.le (.mul (.v 27296) (.v 27552)) (.c 9223372036854775807)))) (
                                                                                   .ev (.need (.and (.le (.c (-9223372036854775808)) (.add (.add (.add (.mul (.v 24032) (.v 24288)) (.mul (.v 25120) (.v 25376))) (.mul (.v 26208) (.v 26464))) (.mul (.v 27296) (.v 27552)))) (.le (.add (.add (.add (.mul (.v 24032) (.v 24288)) (.mul (.v 25120) (.v 25376))) (.mul (.v 26208) (.v 26464))) (.mul (.v 27296) (.v 27552))) (.c 9223372036854775807)))) (
                                                                                    .ev (.call 38 (.c true) [.i (.add (.add (.add (.mul (.v 24032) (.v 24288)) (.mul (.v 25120) (.v 25376))) (.mul (.v 26208) (.v 26464))) (.mul (.v 27296) (.v 27552)))] [.one (.c (.i .i64))] 28448) (
                                                                                     .ev (.call 37 (.c true) [.i (.v 0), .i (.v 1), .i (.v 2), .i (.v 3), .i (.v 4), .i (.v 5), .i (.v 6), .i (.v 7), .i (.v 8), .i (.v 9), .i (.v 10), .i (.v 11), .i (.v 12), .i (.v 13), .i (.v 14), .i (.v 15), .i (.c 1), .i (.c 0)] [.one (.c (.i .i64))] 29472) (
                                                                                      .ev (.call 37 (.c true) [.i (.v 16), .i (.v 17), .i (.v 18), .i (.v 19), .i (.v 20), .i (.v 21), .i (.v 22), .i (.v 23), .i (.v 24), .i (.v 25), .i (.v 26), .i (.v 27), .i (.v 28), .i (.v 29), .i (.v 30), .i (.v 31), .i (.c 0), .i (.c 1)] [.one (.c (.i .i64))] 29728) (
                                                                                       .ev (.need (.and (.le (.c (-9223372036854775808)) (.mul (.v 29472) (.v 29728))) (.le (.mul (.v 29472) (.v 29728)) (.c 9223372036854775807)))) (
                                                                                        .ev (.call 37 (.c true) [.i (.v 0), .i (.v 1), .i (.v 2), .i (.v 3), .i (.v 4), .i (.v 5), .i (.v 6), .i (.v 7), .i (.v 8), .i (.v 9), .i (.v 10), .i (.v 11), .i (.v 12), .i (.v 13), .i (.v 14), .i (.v 15), .i (.c 1), .i (.c 1)] [.one (.c (.i .i64))] 30560) (
                                                                                         .ev (.call 37 (.c true) [.i (.v 16), .i (.v 17), .i (.v 18), .i (.v 19), .i (.v 20), .i (.v 21), .i (.v 22), .i (.v 23), .i (.v 24), .i (.v 25), .i (.v 26), .i (.v 27), .i (.v 28), .i (.v 29), .i (.v 30), .i (.v 31), .i (.c 1), .i (.c 1)] [.one (.c (.i .i64))] 30816) (
                                                                                          .ev (.need (.and (.le (.c (-9223372036854775808)) (.mul (.v 30560) (.v 30816))) (.le (.mul (.v 30560) (.v 30816)) (.c 9223372036854775807)))) (
                                                                                           .ev (.need (.and (.le (.c (-9223372036854775808)) (.add (.mul (.v 29472) (.v 29728)) (.mul (.v 30560) (.v 30816)))) (.le (.add (.mul (.v 29472) (.v 29728)) (.mul (.v 30560) (.v 30816))) (.c 9223372036854775807)))) (
                                                                                            .ev (.call 37 (.c true) [.i (.v 0), .i (.v 1), .i (.v 2), .i (.v 3), .i (.v 4), .i (.v 5), .i (.v 6), .i (.v 7), .i (.v 8), .i (.v 9), .i (.v 10), .i (.v 11), .i (.v 12), .i (.v 13), .i (.v 14), .i (.v 15), .i (.c 1), .i (.c 2)] [.one (.c (.i .i64))] 31648) (
                                                                                             .ev (.call 37 (.c true) [.i (.v 16), .i (.v 17), .i (.v 18), .i (.v 19), .i (.v 20), .i (.v 21), .i (.v 22), .i (.v 23), .i (.v 24), .i (.v 25), .i (.v 26), .i (.v 27), .i (.v 28), .i (.v 29), .i (.v 30), .i (.v 31), .i (.c 2), .i (.c 1)] [.one (.c (.i .i64))] 31904) (
                                                                                              .ev (.need (.and (.le (.c (-9223372036854775808)) (.mul (.v 31648) (.v 31904))) (.le (.mul (.v 31648) (.v 31904)) (.c 9223372036854775807)))) (
                                                                                               .ev (.need (.and (.le (.c (-9223372036854775808)) (.add (.add (.mul (.v 29472) (.v 29728)) (.mul (.v 30560) (.v 30816))) (.mul (.v 31648) (.v 31904)))) (.le (.add (.add (.mul (.v 29472) (.v 29728)) (.mul (.v 30560) (.v 30816))) (.mul (.v 31648) (.v 31904))) (.c 9223372036854775807)))) (
                                                                                                .ev (.call 37 (.c true) [.i (.v 0), .i (.v 1), .i (.v 2), .i (.v 3), .i (.v 4), .i (.v 5), .i (.v 6), .i (.v 7), .i (.v 8), .i (.v 9), .i (.v 10), .i (.v 11), .i (.v 12), .i (.v 13), .i (.v 14), .i (.v 15), .i (.c 1), .i (.c 3)] [.one (.c (.i .i64))] 32736) (
                                                                                                 .ev (.call 37 (.c true) [.i (.v 16), .i (.v 17), .i (.v 18), .i (.v 19), .i (.v 20), .i (.v 21), .i (.v 22), .i (.v 23), .i (.v 24), .i (.v 25), .i (.v 26), .i (.v 27), .i (.v 28), .i (.v 29), .i (.v 30), .i (.v 31), .i (.c 3), .i (.c 1)] [.one (.c (.i .i64))] 32992) (
                                                                                                  .ev (.need (.and (.le (.c (-9223372036854775808)) (.mul (.v 32736) (.v 32992))) (.le (.mul (.v 32736) (.v 32992)) (.c 9223372036854775807)))) (
                                                                                                   .ev (.need (.and (.le (.c (-9223372036854775808)) (.add (.add (.add (.mul (.v 29472) (.v 29728)) (.mul (.v 30560) (.v 30816))) (.mul (.v 31648) (.v 31904))) (.mul (.v 32736) (.v 32992)))) (.le (.add (.add (.add (.mul (.v 29472) (.v 29728)) (.mul (.v 30560) (.v 30816))) (.mul (.v 31648) (.v 31904))) (.mul (.v 32736) (.v 32992))) (.c 9223372036854775807)))) (
                                                                                                    .ev (.call 38 (.c true) [.i (.add (.add (.add (.mul (.v 29472) (.v 29728)) (.mul (.v 30560) (.v 30816))) (.mul (.v 31648) (.v 31904))) (.mul (.v 32736) (.v 32992)))] [.one (.c (.i .i64))] 33888) (
                                                                                                     .ev (.call 37 (.c true) [.i (.v 0), .i (.v 1), .i (.v 2), .i (.v 3), .i (.v 4), .i (.v 5), .i (.v 6), .i (.v 7), .i (.v 8), .i (.v 9), .i (.v 10), .i (.v 11), .i (.v 12), .i (.v 13), .i (.v 14), .i (.v 15), .i (.c 1), .i (.c 0)] [.one (.c (.i .i64))] 34912) (
                                                                                                      .ev (.call 37 (.c true) [.i (.v 16), .i (.v 17), .i (.v 18), .i (.v 19), .i (.v 20), .i (.v 21), .i (.v 22), .i (.v 23), .i (.v 24), .i (.v 25), .i (.v 26), .i (.v 27), .i (.v 28), .i (.v 29), .i (.v 30), .i (.v 31), .i (.c 0), .i (.c 2)] [.one (.c (.i .i64))] 35168) (
                                                                                                       .ev (.need (.and (.le (.c (-9223372036854775808)) (.mul (.v 34912) (.v 35168))) (.le (.mul (.v 34912) (.v 35168)) (.c 9223372036854775807)))) (
                                                                                                        .ev (.call 37 (.c true) [.i (.v 0), .i (.v 1), .i (.v 2), .i (.v 3), .i (.v 4), .i (.v 5), .i (.v 6), .i (.v 7), .i (.v 8), .i (.v 9), .i (.v 10), .i (.v 11), .i (.v 12), .i (.v 13), .i (.v 14), .i (.v 15), .i (.c 1), .i (.c 1)] [.one (.c (.i .i64))] 36000) (
                                                                                                         .ev (.call 37 (.c true) [.i (.v 16), .i (.v 17), .i (.v 18), .i (.v 19), .i (.v 20), .i (.v 21), .i (.v 22), .i (.v 23), .i (.v 24), .i (.v 25), .i (.v 26), .i (.v 27), .i (.v 28), .i (.v 29), .i (.v 30), .i (.v 31), .i (.c 1), .i (.c 2)] [.one (.c (.i .i64))] 36256) (
                                                                                                          .ev (.need (.and (.le (.c (-9223372036854775808)) (.mul (.v 36000) (.v 36256))) (.le (.mul (.v 36000) (.v 36256)) (.c 9223372036854775807)))) (
                                                                                                           .ev (.need (.and (.le (.c (-9223372036854775808)) (.add (.mul (.v 34912) (.v 35168)) (.mul (.v 36000) (.v 36256)))) (.le (.add (.mul (.v 34912) (.v 35168)) (.mul (.v 36000) (.v 36256))) (.c 9223372036854775807)))) (
                                                                                                            .ev (.call 37 (.c true) [.i (.v 0), .i (.v 1), .i (.v 2), .i (.v 3), .i (.v 4), .i (.v 5), .i (.v 6), .i (.v 7), .i (.v 8), .i (.v 9), .i (.v 10), .i (.v 11), .i (.v 12), .i (.v 13), .i (.v 14), .i (.v 15), .i (.c 1), .i (.c 2)] [.one (.c (.i .i64))] 37088) (
                                                                                                             .ev (.call 37 (.c true) [.i (.v 16), .i (.v 17), .i (.v 18), .i (.v 19), .i (.v 20), .i (.v 21), .i (.v 22), .i (.v 23), .i (.v 24), .i (.v 25), .i (.v 26), .i (.v 27), .i (.v 28), .i (.v 29), .i (.v 30), .i (.v 31), .i (.c 2), .i (.c 2)] [.one (.c (.i .i64))] 37344) (
                                                                                                              .ev (.need (.and (.le (.c (-9223372036854775808)) (.mul (.v 37088) (.v 37344))) (.le (.mul (.v 37088) (.v 37344)) (.c 9223372036854775807)))) (
                                                                                                               .ev (.need (.and (.le (.c (-9223372036854775808)) (.add (.add (.mul (.v 34912) (.v 35168)) (.mul (.v 36000) (.v 36256))) (.mul (.v 37088) (.v 37344)))) (.le (.add (.add (.mul (.v 34912) (.v 35168)) (.mul (.v 36000) (.v 36256))) (.mul (.v 37088) (.v 37344))) (.c 9223372036854775807)))) (
                                                                                                                .ev (.call 37 (.c true) [.i (.v 0), .i (.v 1), .i (.v 2), .i (.v 3), .i (.v 4), .i (.v 5), .i (.v 6), .i (.v 7), .i (.v 8), .i (.v 9), .i (.v 10), .i (.v 11), .i (.v 12), .i (.v 13), .i (.v 14), .i (.v 15), .i (.c 1), .i (.c 3)] [.one (.c (.i .i64))] 38176) (
                                                                                                                 .ev (.call 37 (.c true) [.i (.v 16), .i (.v 17), .i (.v 18), .i (.v 19), .i (.v 20), .i (.v 21), .i (.v 22), .i (.v 23), .i (.v 24), .i (.v 25), .i (.v 26), .i (.v 27), .i (.v 28), .i (.v 29), .i (.v 30), .i (.v 31), .i (.c 3), .i (.c 2)] [.one (.c (.i .i64))] 38432) (
                                                                                                                  .ev (.need (.and (.le (.c (-9223372036854775808)) (.mul (.v 38176) (.v 38432))) (.le (.mul (.v 38176) (.v 38432)) (.c 9223372036854775807)))) (
                                                                                                                   .ev (.need (.and (.le (.c (-9223372036854775808)) (.add (.add (.add (.mul (.v 34912) (.v 35168)) (.mul (.v 36000) (.v 36256))) (.mul (.v 37088) (.v 37344))) (.mul (.v 38176) (.v 38432)))) (.le (.add (.add (.add (.mul (.v 34912) (.v 35168)) (.mul (.v 36000) (.v 36256))) (.mul (.v 37088) (.v 37344))) (.mul (.v 38176) (.v 38432))) (.c 9223372036854775807)))) (
                                                                                                                    .ev (.call 38 (.c true) [.i (.add (.add (.add (.mul (.v 34912) (.v 35168)) (.mul (.v 36000) (.v 36256))) (.mul (.v 37088) (.v 37344))) (.mul (.v 38176) (.v 38432)))] [.one (.c (.i .i64))] 39328) (
                                                                                                                     .ev (.call 37 (.c true) [.i (.v 0), .i (.v 1), .i (.v 2), .i (.v 3), .i (.v 4), .i (.v 5), .i (.v 6), .i (.v 7), .i (.v 8), .i (.v 9), .i (.v 10), .i (.v 11), .i (.v 12), .i (.v 13), .i (.v 14), .i (.v 15), .i (.c 1), .i (.c 0)] [.one (.c (.i .i64))] 40352) (
                                                                                                                      .ev (.call 37 (.c true) [.i (.v 16), .i (.v 17), .i (.v 18), .i (.v 19), .i (.v 20), .i (.v 21), .i (.v 22), .i (.v 23), .i (.v 24), .i (.v 25), .i (.v 26), .i (.v 27), .i (.v 28), .i (.v 29), .i (.v 30), .i (.v 31), .i (.c 0), .i (.c 3)] [.one (.c (.i .i64))] 40608) (
                                                                                                                       .ev (.need (.and (.le (.c (-9223372036854775808)) (.mul (.v 40352) (.v 40608))) (.le (.mul (.v 40352) (.v 40608)) (.c 9223372036854775807)))) (
                                                                                                                        .ev (.call 37 (.c true) [.i (.v 0), .i (.v 1), .i (.v 2), .i (.v 3), .i (.v 4), .i (.v 5), .i (.v 6), .i (.v 7), .i (.v 8), .i (.v 9), .i (.v 10), .i (.v 11), .i (.v 12), .i (.v 13), .i (.v 14), .i (.v 15), .i (.c 1), .i (.c 1)] [.one (.c (.i .i64))] 41440) (
                                                                                                                         .ev (.call 37 (.c true) [.i (.v 16), .i (.v 17), .i (.v 18), .i (.v 19), .i (.v 20), .i (.v 21), .i (.v 22), .i (.v 23), .i (.v 24), .i (.v 25), .i (.v 26), .i (.v 27), .i (.v 28), .i (.v 29), .i (.v 30), .i (.v 31), .i (.c 1), .i (.c 3)] [.one (.c (.i .i64))] 41696) (
                                                                                                                          .ev (.need (.and (.le (.c (-9223372036854775808)) (.mul (.v 41440) (.v 41696))) (.le (.mul (.v 41440) (.v 41696)) (.c 9223372036854775807)))) (
                                                                                                                           .ev (.need (.and (.le (.c (-9223372036854775808)) (.add (.mul (.v 40352) (.v 40608)) (.mul (.v 41440) (.v 41696)))) (.le (.add (.mul (.v 40352) (.v 40608)) (.mul (.v 41440) (.v 41696))) (.c 9223372036854775807)))) (
                                                                                                                            .ev (.call 37 (.c true) [.i (.v 0), .i (.v 1), .i (.v 2), .i (.v 3), .i (.v 4), .i (.v 5), .i (.v 6), .i (.v 7), .i (.v 8), .i (.v 9), .i (.v 10), .i (.v 11), .i (.v 12), .i (.v 13), .i (.v 14), .i (.v 15), .i (.c 1), .i (.c 2)] [.one (.c (.i .i64))] 42528) (
                                                                                                                             .ev (.call 37 (.c true) [.i (.v 16), .i (.v 17), .i (.v 18), .i (.v 19), .i (.v 20), .i (.v 21), .i (.v 22), .i (.v 23), .i (.v 24), .i (.v 25), .i (.v 26), .i (.v 27), .i (.v 28), .i (.v 29), .i (.v 30), .i (.v 31), .i (.c 2), .i (.c 3)] [.one (.c (.i .i64))] 42784) (
                                                                                                                              .ev (.need (.and (.le (.c (-9223372036854775808)) (.mul (.v 42528) (.v 42784))) (.le (.mul (.v 42528) (.v 42784)) (.c 9223372036854775807)))) (
                                                                                                                               .ev (.need (.and (.le (.c (-9223372036854775808)) (.add (.add (.mul (.v 40352) (.v 40608)) (.mul (.v 41440) (.v 41696))) (.mul (.v 42528) (.v 42784)))) (.le (.add (.add (.mul (.v 40352) (.v 40608)) (.mul (.v 41440) (.v 41696))) (.mul (.v 42528) (.v 42784))) (.c 9223372036854775807)))) (
                                                                                                                                .ev (.call 37 (.c true) [.i (.v 0), .i (.v 1), .i (.v 2), .i (.v 3), .i (.v 4), .i (.v 5), .i (.v 6), .i (.v 7), .i (.v 8), .i (.v 9), .i (.v 10), .i (.v 11), .i (.v 12), .i (.v 13), .i (.v 14), .i (.v 15), .i (.c 1), .i (.c 3)] [.one (.c (.i .i64))] 43616) (
                                                                                                                                 .ev (.call 37 (.c true) [.i (.v 16), .i (.v 17), .i (.v 18), .i (.v 19), .i (.v 20), .i (.v 21), .i (.v 22), .i (.v 23), .i (.v 24), .i (.v 25), .i (.v 26), .i (.v 27), .i (.v 28), .i (.v 29), .i (.v 30), .i (.v 31), .i (.c 3), .i (.c 3)] [.one (.c (.i .i64))] 43872) (
                                                                                                                                  .ev (.need (.and (.le (.c (-9223372036854775808)) (.mul (.v 43616) (.v 43872))) (.le (.mul (.v 43616) (.v 43872)) (.c 9223372036854775807)))) (
                                                                                                                                   .ev (.need (.and (.le (.c (-9223372036854775808)) (.add (.add (.add (.mul (.v 40352) (.v 40608)) (.mul (.v 41440) (.v 41696))) (.mul (.v 42528) (.v 42784))) (.mul (.v 43616) (.v 43872)))) (.le (.add (.add (.add (.mul (.v 40352) (.v 40608)) (.mul (.v 41440) (.v 41696))) (.mul (.v 42528) (.v 42784))) (.mul (.v 43616) (.v 43872))) (.c 9223372036854775807)))) (
                                                                                                                                    .ev (.call 38 (.c true) [.i (.add (.add (.add (.mul (.v 40352) (.v 40608)) (.mul (.v 41440) (.v 41696))) (.mul (.v 42528) (.v 42784))) (.mul (.v 43616) (.v 43872)))] [.one (.c (.i .i64))] 44768) (
                                                                                                                                     .ev (.call 37 (.c true) [.i (.v 0), .i (.v 1), .i (.v 2), .i (.v 3), .i (.v 4), .i (.v 5), .i (.v 6), .i (.v 7), .i (.v 8), .i (.v 9), .i (.v 10), .i (.v 11), .i (.v 12), .i (.v 13), .i (.v 14), .i (.v 15), .i (.c 2), .i (.c 0)] [.one (.c (.i .i64))] 46304) (
                                                                                                                                      .ev (.call 37 (.c true) [.i (.v 16), .i (.v 17), .i (.v 18), .i (.v 19), .i (.v 20), .i (.v 21), .i (.v 22), .i (.v 23), .i (.v 24), .i (.v 25), .i (.v 26), .i (.v 27), .i (.v 28), .i (.v 29), .i (.v 30), .i (.v 31), .i (.c 0), .i (.c 0)] [.one (.c (.i .i64))] 46560) (
                                                                                                                                       .ev (.need (.and (.le (.c (-9223372036854775808)) (.mul (.v 46304) (.v 46560))) (.le (.mul (.v 46304) (.v 46560)) (.c 9223372036854775807)))) (
                                                                                                                                        .ev (.call 37 (.c true) [.i (.v 0), .i (.v 1), .i (.v 2), .i (.v 3), .i (.v 4), .i (.v 5), .i (.v 6), .i (.v 7), .i (.v 8), .i (.v 9), .i (.v 10), .i (.v 11), .i (.v 12), .i (.v 13), .i (.v 14), .i (.v 15), .i (.c 2), .i (.c 1)] [.one (.c (.i .i64))] 47392) (
                                                                                                                                         .ev (.call 37 (.c true) [.i (.v 16), .i (.v 17), .i (.v 18), .i (.v 19), .i (.v 20), .i (.v 21), .i (.v 22), .i (.v 23), .i (.v 24), .i (.v 25), .i (.v 26), .i (.v 27), .i (.v 28), .i (.v 29), .i (.v 30), .i (.v 31), .i (.c 1), .i (.c 0)] [.one (.c (.i .i64))] 47648) (
                                                                                                                                          .ev (.need (.and (.le (.c (-9223372036854775808)) (.mul (.v 47392) (.v 47648))) (.le (.mul (.v 47392) (.v 47648)) (.c 9223372036854775807)))) (
                                                                                                                                           .ev (.need (.and (.le (.c (-9223372036854775808)) (.add (.mul (.v 46304) (.v 46560)) (.mul (.v 47392) (.v 47648)))) (.le (.add (.mul (.v 46304) (.v 46560)) (.mul (.v 47392) (.v 47648))) (.c 9223372036854775807)))) (
                                                                                                                                            .ev (.call 37 (.c true) [.i (.v 0), .i (.v 1), .i (.v 2), .i (.v 3), .i (.v 4), .i (.v 5), .i (.v 6), .i (.v 7), .i (.v 8), .i (.v 9), .i (.v 10), .i (.v 11), .i (.v 12), .i (.v 13), .i (.v 14), .i (.v 15), .i (.c 2), .i (.c 2)] [.one (.c (.i .i64))] 48480) (
                                                                                                                                             .ev (.call 37 (.c true) [.i (.v 16), .i (.v 17), .i (.v 18), .i (.v 19), .i (.v 20), .i (.v 21), .i (.v 22), .i (.v 23), .i (.v 24), .i (.v 25), .i (.v 26), .i (.v 27), .i (.v 28), .i (.v 29), .i (.v 30), .i (.v 31), .i (.c 2), .i (.c 0)] [.one (.c (.i .i64))] 48736) (
                                                                                                                                              .ev (.need (.and (.le (.c (-9223372036854775808)) (.mul (.v 48480) (.v 48736))) (.le (.mul (.v 48480) (.v 48736)) (.c 9223372036854775807)))) (
                                                                                                                                               .ev (.need (.and (.le (.c (-9223372036854775808)) (.add (.add (.mul (.v 46304) (.v 46560)) (.mul (.v 47392) (.v 47648))) (.mul (.v 48480) (.v 48736)))) (.le (.add (.add (.mul (.v 46304) (.v 46560)) (.mul (.v 47392) (.v 47648))) (.mul (.v 48480) (.v 48736))) (.c 9223372036854775807)))) (
                                                                                                                                                .ev (.call 37 (.c true) [.i (.v 0), .i (.v 1), .i (.v 2), .i (.v 3), .i (.v 4), .i (.v 5), .i (.v 6), .i (.v 7), .i (.v 8), .i (.v 9), .i (.v 10), .i (.v 11), .i (.v 12), .i (.v 13), .i (.v 14), .i (.v 15), .i (.c 2), .i (.c 3)] [.one (.c (.i .i64))] 49568) (
                                                                                                                                                 .ev (.call 37 (.c true) [.i (.v 16), .i (.v 17), .i (.v 18), .i (.v 19), .i (.v 20), .i (.v 21), .i (.v 22), .i (.v 23), .i (.v 24), .i (.v 25), .i (.v 26), .i (.v 27), .i (.v 28), .i (.v 29), .i (.v 30), .i (.v 31), .i (.c 3), .i (.c 0)] [.one (.c (.i .i64))] 49824) (
                                                                                                                                                  .ev (.need (.and (.le (.c (-9223372036854775808)) (.mul (.v 49568) (.v 49824))) (.le (.mul (.v 49568) (.v 49824)) (.c 9223372036854775807)))) (
                                                                                                                                                   .ev (.need (.and (.le (.c (-9223372036854775808)) (.add (.add (.add (.mul (.v 46304) (.v 46560)) (.mul (.v 47392) (.v 47648))) (.mul (.v 48480) (.v 48736))) (.mul (.v 49568) (.v 49824)))) (.le (.add (.add (.add (.mul (.v 46304) (.v 46560)) (.mul (.v 47392) (.v 47648))) (.mul (.v 48480) (.v 48736))) (.mul (.v 49568) (.v 49824))) (.c 9223372036854775807)))) (
                                                                                                                                                    .ev (.call 38 (.c true) [.i (.add (.add (.add (.mul (.v 46304) (.v 46560)) (.mul (.v 47392) (.v 47648))) (.mul (.v 48480) (.v 48736))) (.mul (.v 49568) (.v 49824)))] [.one (.c (.i .i64))] 50720) (
                                                                                                                                                     .ev (.call 37 (.c true) [.i (.v 0), .i (.v 1), .i (.v 2), .i (.v 3), .i (.v 4), .i (.v 5), .i (.v 6), .i (.v 7), .i (.v 8), .i (.v 9), .i (.v 10), .i (.v 11), .i (.v 12), .i (.v 13), .i (.v 14), .i (.v 15), .i (.c 2), .i (.c 0)] [.one (.c (.i .i64))] 51744) (
                                                                                                                                                      .ev (.call 37 (.c true) [.i (.v 16), .i (.v 17), .i (.v 18), .i (.v 19), .i (.v 20), .i (.v 21), .i (.v 22), .i (.v 23), .i (.v 24), .i (.v 25), .i (.v 26), .i (.v 27), .i (.v 28), .i (.v 29), .i (.v 30), .i (.v 31), .i (.c 0), .i (.c 1)] [.one (.c (.i .i64))] 52000) (
                                                                                                                                                       .ev (.need (.and (.le (.c (-9223372036854775808)) (.mul (.v 51744) (.v 52000))) (.le (.mul (.v 51744) (.v 52000)) (.c 9223372036854775807)))) (
                                                                                                                                                        .ev (.call 37 (.c true) [.i (.v 0), .i (.v 1), .i (.v 2), .i (.v 3), .i (.v 4), .i (.v 5), .i (.v 6), .i (.v 7), .i (.v 8), .i (.v 9), .i (.v 10), .i (.v 11), .i (.v 12), .i (.v 13), .i (.v 14), .i (.v 15), .i (.c 2), .i (.c 1)] [.one (.c (.i .i64))] 52832) (
                                                                                                                                                         .ev (.call 37 (.c true) [.i (.v 16), .i (.v 17), .i (.v 18), .i (.v 19), .i (.v 20), .i (.v 21), .i (.v 22), .i (.v 23), .i (.v 24), .i (.v 25), .i (.v 26), .i (.v 27), .i (.v 28), .i (.v 29), .i (.v 30), .i (.v 31), .i (.c 1), .i (.c 1)] [.one (.c (.i .i64))] 53088) (
                                                                                                                                                          .ev (.need (.and (.le (.c (-9223372036854775808)) (.mul (.v 52832) (.v 53088))) (.le (.mul (.v 52832) (.v 53088)) (.c 9223372036854775807)))) (
                                                                                                                                                           .ev (.need (.and (.le (.c (-9223372036854775808)) (.add (.mul (.v 51744) (.v 52000)) (.mul (.v 52832) (.v 53088)))) (.le (.add (.mul (.v 51744) (.v 52000)) (.mul (.v 52832) (.v 53088))) (.c 9223372036854775807)))) (
                                                                                                                                                            .ev (.call 37 (.c true) [.i (.v 0), .i (.v 1), .i (.v 2), .i (.v 3), .i (.v 4), .i (.v 5), .i (.v 6), .i (.v 7), .i (.v 8), .i (.v 9), .i (.v 10), .i (.v 11), .i (.v 12), .i (.v 13), .i (.v 14), .i (.v 15), .i (.c 2), .i (.c 2)] [.one (.c (.i .i64))] 53920) (
                                                                                                                                                             .ev (.call 37 (.c true) [.i (.v 16), .i (.v 17), .i (.v 18), .i (.v 19), .i (.v 20), .i (.v 21), .i (.v 22), .i (.v 23), .i (.v 24), .i (.v 25), .i (.v 26), .i (.v 27), .i (.v 28), .i (.v 29), .i (.v 30), .i (.v 31), .i (.c 2), .i (.c 1)] [.one (.c (.i .i64))] 54176) (
                                                                                                                                                              .ev (.need (.and (.le (.c (-9223372036854775808)) (.mul (.v 53920) (.v 54176))) (.le (.mul (.v 53920) (.v 54176)) (.c 9223372036854775807)))) (
                                                                                                                                                               .ev (.need (.and (.le (.c (-9223372036854775808)) (.add (.add (.mul (.v 51744) (.v 52000)) (.mul (.v 52832) (.v 53088))) (.mul (.v 53920) (.v 54176)))) (.le (.add (.add (.mul (.v 51744) (.v 52000)) (.mul (.v 52832) (.v 53088))) (.mul (.v 53920) (.v 54176))) (.c 9223372036854775807)))) (
                                                                                                                                                                .ev (.call 37 (.c true) [.i (.v 0), .i (.v 1), .i (.v 2), .i (.v 3), .i (.v 4), .i (.v 5), .i (.v 6), .i (.v 7), .i (.v 8), .i (.v 9), .i (.v 10), .i (.v 11), .i (.v 12), .i (.v 13), .i (.v 14), .i (.v 15), .i (.c 2), .i (.c 3)] [.one (.c (.i .i64))] 55008) (
                                                                                                                                                                 .ev (.call 37 (.c true) [.i (.v 16), .i (.v 17), .i (.v 18), .i (.v 19), .i (.v 20), .i (.v 21), .i (.v 22), .i (.v 23), .i (.v 24), .i (.v 25), .i (.v 26), .i (.v 27), .i (.v 28), .i (.v 29), .i (.v 30), .i (.v 31), .i (.c 3), .i (.c 1)] [.one (.c (.i .i64))] 55264) (
                                                                                                                                                                  .ev (.need (.and (.le (.c (-9223372036854775808)) (.mul (.v 55008) (.v 55264))) (.le (.mul (.v 55008) (.v 55264)) (.c 9223372036854775807)))) (
                                                                                                                                                                   .ev (.need (.and (.le (.c (-9223372036854775808)) (.add (.add (.add (.mul (.v 51744) (.v 52000)) (.mul (.v 52832) (.v 53088))) (.mul (.v 53920) (.v 54176))) (.mul (.v 55008) (.v 55264)))) (.le (.add (.add (.add (.mul (.v 51744) (.v 52000)) (.mul (.v 52832) (.v 53088))) (.mul (.v 53920) (.v 54176))) (.mul (.v 55008) (.v 55264))) (.c 9223372036854775807)))) (
                                                                                                                                                                    .ev (.call 38 (.c true) [.i (.add (.add (.add (.mul (.v 51744) (.v 52000)) (.mul (.v 52832) (.v 53088))) (.mul (.v 53920) (.v 54176))) (.mul (.v 55008) (.v 55264)))] [.one (.c (.i .i64))] 56160) (
                                                                                                                                                                     .ev (.call 37 (.c true) [.i (.v 0), .i (.v 1), .i (.v 2), .i (.v 3), .i (.v 4), .i (.v 5), .i (.v 6), .i (.v 7), .i (.v 8), .i (.v 9), .i (.v 10), .i (.v 11), .i (.v 12), .i (.v 13), .i (.v 14), .i (.v 15), .i (.c 2), .i (.c 0)] [.one (.c (.i .i64))] 57184) (
                                                                                                                                                                      .ev (.call 37 (.c true) [.i (.v 16), .i (.v 17), .i (.v 18), .i (.v 19), .i (.v 20), .i (.v 21), .i (.v 22), .i (.v 23), .i (.v 24), .i (.v 25), .i (.v 26), .i (.v 27), .i (.v 28), .i (.v 29), .i (.v 30), .i (.v 31), .i (.c 0), .i (.c 2)] [.one (.c (.i .i64))] 57440) (
                                                                                                                                                                       .ev (.need (.and (.le (.c (-9223372036854775808)) (.mul (.v 57184) (.v 57440))) (.le (.mul (.v 57184) (.v 57440)) (.c 9223372036854775807)))) (
                                                                                                                                                                        .ev (.call 37 (.c true) [.i (.v 0), .i (.v 1), .i (.v 2), .i (.v 3), .i (.v 4), .i (.v 5), .i (.v 6), .i (.v 7), .i (.v 8), .i (.v 9), .i (.v 10), .i (.v 11), .i (.v 12), .i (.v 13), .i (.v 14), .i (.v 15), .i (.c 2), .i (.c 1)] [.one (.c (.i .i64))] 58272) (
                                                                                                                                                                         .ev (.call 37 (.c true) [.i (.v 16), .i (.v 17), .i (.v 18), .i (.v 19), .i (.v 20), .i (.v 21), .i (.v 22), .i (.v 23), .i (.v 24), .i (.v 25), .i (.v 26), .i (.v 27), .i (.v 28), .i (.v 29), .i (.v 30), .i (.v 31), .i (.c 1), .i (.c 2)] [.one (.c (.i .i64))] 58528) (
                                                                                                                                                                          .ev (.need (.and (.le (.c (-9223372036854775808)) (.mul (.v 58272) (.v 58528))) (.le (.mul (.v 58272) (.v 58528)) (.c 9223372036854775807)))) (
                                                                                                                                                                           .ev (.need (.and (.le (.c (-9223372036854775808)) (.add (.mul (.v 57184) (.v 57440)) (.mul (.v 58272) (.v 58528)))) (.le (.add (.mul (.v 57184) (.v 57440)) (.mul (.v 58272) (.v 58528))) (.c 9223372036854775807)))) (
                                                                                                                                                                            .ev (.call 37 (.c true) [.i (.v 0), .i (.v 1), .i (.v 2), .i (.v 3), .i (.v 4), .i (.v 5), .i (.v 6), .i (.v 7), .i (.v 8), .i (.v 9), .i (.v 10), .i (.v 11), .i (.v 12), .i (.v 13), .i (.v 14), .i (.v 15), .i (.c 2), .i (.c 2)] [.one (.c (.i .i64))] 59360) (
                                                                                                                                                                             .ev (.call 37 (.c true) [.i (.v 16), .i (.v 17), .i (.v 18), .i (.v 19), .i (.v 20), .i (.v 21), .i (.v 22), .i (.v 23), .i (.v 24), .i (.v 25), .i (.v 26), .i (.v 27), .i (.v 28), .i (.v 29), .i (.v 30), .i (.v 31), .i (.c 2), .i (.c 2)] [.one (.c (.i .i64))] 59616) (
                                                                                                                                                                              .ev (.need (.and (.le (.c (-9223372036854775808)) (.mul (.v 59360) (.v 59616))) (.le (.mul (.v 59360) (.v 59616)) (.c 9223372036854775807)))) (
                                                                                                                                                                               .ev (.need (.and (.le (.c (-9223372036854775808)) (.add (.add (.mul (.v 57184) (.v 57440)) (.mul (.v 58272) (.v 58528))) (.mul (.v 59360) (.v 59616)))) (.le (.add (.add (.mul (.v 57184) (.v 57440)) (.mul (.v 58272) (.v 58528))) (.mul (.v 59360) (.v 59616))) (.c 9223372036854775807)))) (
                                                                                                                                                                                .ev (.call 37 (.c true) [.i (.v 0), .i (.v 1), .i (.v 2), .i (.v 3), .i (.v 4), .i (.v 5), .i (.v 6), .i (.v 7), .i (.v 8), .i (.v 9), .i (.v 10), .i (.v 11), .i (.v 12), .i (.v 13), .i (.v 14), .i (.v 15), .i (.c 2), .i (.c 3)] [.one (.c (.i .i64))] 60448) (
                                                                                                                                                                                 .ev (.call 37 (.c true) [.i (.v 16), .i (.v 17), .i (.v 18), .i (.v 19), .i (.v 20), .i (.v 21), .i (.v 22), .i (.v 23), .i (.v 24), .i (.v 25), .i (.v 26), .i (.v 27), .i (.v 28), .i (.v 29), .i (.v 30), .i (.v 31), .i (.c 3), .i (.c 2)] [.one (.c (.i .i64))] 60704) (
                                                                                                                                                                                  .ev (.need (.and (.le (.c (-9223372036854775808)) (.mul (.v 60448) (.v 60704))) (.le (.mul (.v 60448) (.v 60704)) (.c 9223372036854775807)))) (
                                                                                                                                                                                   .ev (.need (.and (.le (.c (-9223372036854775808)) (.add (.add (.add (.mul (.v 57184) (.v 57440)) (.mul (.v 58272) (.v 58528))) (.mul (.v 59360) (.v 59616))) (.mul (.v 60448) (.v 60704)))) (.le (.add (.add (.add (.mul (.v 57184) (.v 57440)) (.mul (.v 58272) (.v 58528))) (.mul (.v 59360) (.v 59616))) (.mul (.v 60448) (.v 60704))) (.c 9223372036854775807)))) (
                                                                                                                                                                                    .ev (.call 38 (.c true) [.i (.add (.add (.add (.mul (.v 57184) (.v 57440)) (.mul (.v 58272) (.v 58528))) (.mul (.v 59360) (.v 59616))) (.mul (.v 60448) (.v 60704)))] [.one (.c (.i .i64))] 61600) (
                                                                                                                                                                                     .ev (.call 37 (.c true) [.i (.v 0), .i (.v 1), .i (.v 2), .i (.v 3), .i (.v 4), .i (.v 5), .i (.v 6), .i (.v 7), .i (.v 8), .i (.v 9), .i (.v 10), .i (.v 11), .i (.v 12), .i (.v 13), .i (.v 14), .i (.v 15), .i (.c 2), .i (.c 0)] [.one (.c (.i .i64))] 62624) (
                                                                                                                                                                                      .ev (.call 37 (.c true) [.i (.v 16), .i (.v 17), .i (.v 18), .i (.v 19), .i (.v 20), .i (.v 21), .i (.v 22), .i (.v 23), .i (.v 24), .i (.v 25), .i (.v 26), .i (.v 27), .i (.v 28), .i (.v 29), .i (.v 30), .i (.v 31), .i (.c 0), .i (.c 3)] [.one (.c (.i .i64))] 62880) (
                                                                                                                                                                                       .ev (.need (.and (.le (.c (-9223372036854775808)) (.mul (.v 62624) (.v 62880))) (.le (.mul (.v 62624) (.v 62880)) (.c 9223372036854775807)))) (
                                                                                                                                                                                        .ev (.call 37 (.c true) [.i (.v 0), .i (.v 1), .i (.v 2), .i (.v 3), .i (.v 4), .i (.v 5), .i (.v 6), .i (.v 7), .i (.v 8), .i (.v 9), .i (.v 10), .i (.v 11), .i (.v 12), .i (.v 13), .i (.v 14), .i (.v 15), .i (.c 2), .i (.c 1)] [.one (.c (.i .i64))] 63712) (
                                                                                                                                                                                         .ev (.call 37 (.c true) [.i (.v 16), .i (.v 17), .i (.v 18), .i (.v 19), .i (.v 20), .i (.v 21), .i (.v 22), .i (.v 23), .i (.v 24), .i (.v 25), .i (.v 26), .i (.v 27), .i (.v 28), .i (.v 29), .i (.v 30), .i (.v 31), .i (.c 1), .i (.c 3)] [.one (.c (.i .i64))] 63968) (
                                                                                                                                                                                          .ev (.need (.and (.le (.c (-9223372036854775808)) (.mul (.v 63712) (.v 63968))) (.le (.mul (.v 63712) (.v 63968)) (.c 9223372036854775807)))) (
                                                                                                                                                                                           .ev (.need (.and (.le (.c (-9223372036854775808)) (.add (.mul (.v 62624) (.v 62880)) (.mul (.v 63712) (.v 63968)))) (.le (.add (.mul (.v 62624) (.v 62880)) (.mul (.v 63712) (.v 63968))) (.c 9223372036854775807)))) (
                                                                                                                                                                                            .ev (.call 37 (.c true) [.i (.v 0), .i (.v 1), .i (.v 2), .i (.v 3), .i (.v 4), .i (.v 5), .i (.v 6), .i (.v 7), .i (.v 8), .i (.v 9), .i (.v 10), .i (.v 11), .i (.v 12), .i (.v 13), .i (.v 14), .i (.v 15), .i (.c 2), .i (.c 2)] [.one (.c (.i .i64))] 64800) (
                                                                                                                                                                                             .ev (.call 37 (.c true) [.i (.v 16), .i (.v 17), .i (.v 18), .i (.v 19), .i (.v 20), .i (.v 21), .i (.v 22), .i (.v 23), .i (.v 24), .i (.v 25), .i (.v 26), .i (.v 27), .i (.v 28), .i (.v 29), .i (.v 30), .i (.v 31), .i (.c 2), .i (.c 3)] [.one (.c (.i .i64))] 65056) (
                                                                                                                                                                                              .ev (.need (.and (.le (.c (-9223372036854775808)) (.mul (.v 64800) (.v 65056))) (.le (.mul (.v 64800) (.v 65056)) (.c 9223372036854775807)))) (
                                                                                                                                                                                               .ev (.need (.and (.le (.c (-9223372036854775808)) (.add (.add (.mul (.v 62624) (.v 62880)) (.mul (.v 63712) (.v 63968))) (.mul (.v 64800) (.v 65056)))) (.le (.add (.add (.mul (.v 62624) (.v 62880)) (.mul (.v 63712) (.v 63968))) (.mul (.v 64800) (.v 65056))) (.c 9223372036854775807)))) (
                                                                                                                                                                                                .ev (.call 37 (.c true) [.i (.v 0), .i (.v 1), .i (.v 2), .i (.v 3), .i (.v 4), .i (.v 5), .i (.v 6), .i (.v 7), .i (.v 8), .i (.v 9), .i (.v 10), .i (.v 11), .i (.v 12), .i (.v 13), .i (.v 14), .i (.v 15), .i (.c 2), .i (.c 3)] [.one (.c (.i .i64))] 65888) (
                                                                                                                                                                                                 .ev (.call 37 (.c true) [.i (.v 16), .i (.v 17), .i (.v 18), .i (.v 19), .i (.v 20), .i (.v 21), .i (.v 22), .i (.v 23), .i (.v 24), .i (.v 25), .i (.v 26), .i (.v 27), .i (.v 28), .i (.v 29), .i (.v 30), .i (.v 31), .i (.c 3), .i (.c 3)] [.one (.c (.i .i64))] 66144) (
                                                                                                                                                                                                  .ev (.need (.and (.le (.c (-9223372036854775808)) (.mul (.v 65888) (.v 66144))) (.le (.mul (.v 65888) (.v 66144)) (.c 9223372036854775807)))) (
                                                                                                                                                                                                   .ev (.need (.and (.le (.c (-9223372036854775808)) (.add (.add (.add (.mul (.v 62624) (.v 62880)) (.mul (.v 63712) (.v 63968))) (.mul (.v 64800) (.v 65056))) (.mul (.v 65888) (.v 66144)))) (.le (.add (.add (.add (.mul (.v 62624) (.v 62880)) (.mul (.v 63712) (.v 63968))) (.mul (.v 64800) (.v 65056))) (.mul (.v 65888) (.v 66144))) (.c 9223372036854775807)))) (
                                                                                                                                                                                                    .ev (.call 38 (.c true) [.i (.add (.add (.add (.mul (.v 62624) (.v 62880)) (.mul (.v 63712) (.v 63968))) (.mul (.v 64800) (.v 65056))) (.mul (.v 65888) (.v 66144)))] [.one (.c (.i .i64))] 67040) (
                                                                                                                                                                                                     .ev (.call 37 (.c true) [.i (.v 0), .i (.v 1), .i (.v 2), .i (.v 3), .i (.v 4), .i (.v 5), .i (.v 6), .i (.v 7), .i (.v 8), .i (.v 9), .i (.v 10), .i (.v 11), .i (.v 12), .i (.v 13), .i (.v 14), .i (.v 15), .i (.c 3), .i (.c 0)] [.one (.c (.i .i64))] 68576) (
                                                                                                                                                                                                      .ev (.call 37 (.c true) [.i (.v 16), .i (.v 17), .i (.v 18), .i (.v 19), .i (.v 20), .i (.v 21), .i (.v 22), .i (.v 23), .i (.v 24), .i (.v 25), .i (.v 26), .i (.v 27), .i (.v 28), .i (.v 29), .i (.v 30), .i (.v 31), .i (.c 0), .i (.c 0)] [.one (.c (.i .i64))] 68832) (
                                                                                                                                                                                                       .ev (.need (.and (.le (.c (-9223372036854775808)) (.mul (.v 68576) (.v 68832))) (.le (.mul (.v 68576) (.v 68832)) (.c 9223372036854775807)))) (
                                                                                                                                                                                                        .ev (.call 37 (.c true) [.i (.v 0), .i (.v 1), .i (.v 2), .i (.v 3), .i (.v 4), .i (.v 5), .i (.v 6), .i (.v 7), .i (.v 8), .i (.v 9), .i (.v 10), .i (.v 11), .i (.v 12), .i (.v 13), .i (.v 14), .i (.v 15), .i (.c 3), .i (.c 1)] [.one (.c (.i .i64))] 69664) (
                                                                                                                                                                                                         .ev (.call 37 (.c true) [.i (.v 16), .i (.v 17), .i (.v 18), .i (.v 19), .i (.v 20), .i (.v 21), .i (.v 22), .i (.v 23), .i (.v 24), .i (.v 25), .i (.v 26), .i (.v 27), .i (.v 28), .i (.v 29), .i (.v 30), .i (.v 31), .i (.c 1), .i (.c 0)] [.one (.c (.i .i64))] 69920) (
                                                                                                                                                                                                          .ev (.need (.and (.le (.c (-9223372036854775808)) (.mul (.v 69664) (.v 69920))) (.le (.mul (.v 69664) (.v 69920)) (.c 9223372036854775807)))) (
                                                                                                                                                                                                           .ev (.need (.and (.le (.c (-9223372036854775808)) (.add (.mul (.v 68576) (.v 68832)) (.mul (.v 69664) (.v 69920)))) (.le (.add (.mul (.v 68576) (.v 68832)) (.mul (.v 69664) (.v 69920))) (.c 9223372036854775807)))) (
                                                                                                                                                                                                            .ev (.call 37 (.c true) [.i (.v 0), .i (.v 1), .i (.v 2), .i (.v 3), .i (.v 4), .i (.v 5), .i (.v 6), .i (.v 7), .i (.v 8), .i (.v 9), .i (.v 10), .i (.v 11), .i (.v 12), .i (.v 13), .i (.v 14), .i (.v 15), .i (.c 3), .i (.c 2)] [.one (.c (.i .i64))] 70752) (
                                                                                                                                                                                                             .ev (.call 37 (.c true) [.i (.v 16), .i (.v 17), .i (.v 18), .i (.v 19), .i (.v 20), .i (.v 21), .i (.v 22), .i (.v 23), .i (.v 24), .i (.v 25), .i (.v 26), .i (.v 27), .i (.v 28), .i (.v 29), .i (.v 30), .i (.v 31), .i (.c 2), .i (.c 0)] [.one (.c (.i .i64))] 71008) (
                                                                                                                                                                                                              .ev (.need (.and (.le (.c (-9223372036854775808)) (.mul (.v 70752) (.v 71008))) (.le (.mul (.v 70752) (.v 71008)) (.c 9223372036854775807)))) (
                                                                                                                                                                                                               .ev (.need (.and (.le (.c (-9223372036854775808)) (.add (.add (.mul (.v 68576) (.v 68832)) (.mul (.v 69664) (.v 69920))) (.mul (.v 70752) (.v 71008)))) (.le (.add (.add (.mul (.v 68576) (.v 68832)) (.mul (.v 69664) (.v 69920))) (.mul (.v 70752) (.v 71008))) (.c 9223372036854775807)))) (
                                                                                                                                                                                                                .ev (.call 37 (.c true) [.i (.v 0), .i (.v 1), .i (.v 2), .i (.v 3), .i (.v 4), .i (.v 5), .i (.v 6), .i (.v 7), .i (.v 8), .i (.v 9), .i (.v 10), .i (.v 11), .i (.v 12), .i (.v 13), .i (.v 14), .i (.v 15), .i (.c 3), .i (.c 3)] [.one (.c (.i .i64))] 71840) (
                                                                                                                                                                                                                 .ev (.call 37 (.c true) [.i (.v 16), .i (.v 17), .i (.v 18), .i (.v 19), .i (.v 20), .i (.v 21), .i (.v 22), .i (.v 23), .i (.v 24), .i (.v 25), .i (.v 26), .i (.v 27), .i (.v 28), .i (.v 29), .i (.v 30), .i (.v 31), .i (.c 3), .i (.c 0)] [.one (.c (.i .i64))] 72096) (
                                                                                                                                                                                                                  .ev (.need (.and (.le (.c (-9223372036854775808)) (.mul (.v 71840) (.v 72096))) (.le (.mul (.v 71840) (.v 72096)) (.c 9223372036854775807)))) (
                                                                                                                                                                                                                   .ev (.need (.and (.le (.c (-9223372036854775808)) (.add (.add (.add (.mul (.v 68576) (.v 68832)) (.mul (.v 69664) (.v 69920))) (.mul (.v 70752) (.v 71008))) (.mul (.v 71840) (.v 72096)))) (.le (.add (.add (.add (.mul (.v 68576) (.v 68832)) (.mul (.v 69664) (.v 69920))) (.mul (.v 70752) (.v 71008))) (.mul (.v 71840) (.v 72096))) (.c 9223372036854775807)))) (
                                                                                                                                                                                                                    .ev (.call 38 (.c true) [.i (.add (.add (.add (.mul (.v 68576) (.v 68832)) (.mul (.v 69664) (.v 69920))) (.mul (.v 70752) (.v 71008))) (.mul (.v 71840) (.v 72096)))] [.one (.c (.i .i64))] 72992) (
                                                                                                                                                                                                                     .ev (.call 37 (.c true) [.i (.v 0), .i (.v 1), .i (.v 2), .i (.v 3), .i (.v 4), .i (.v 5), .i (.v 6), .i (.v 7), .i (.v 8), .i (.v 9), .i (.v 10), .i (.v 11), .i (.v 12), .i (.v 13), .i (.v 14), .i (.v 15), .i (.c 3), .i (.c 0)] [.one (.c (.i .i64))] 74016) (
                                                                                                                                                                                                                      .ev (.call 37 (.c true) [.i (.v 16), .i (.v 17), .i (.v 18), .i (.v 19), .i (.v 20), .i (.v 21), .i (.v 22), .i (.v 23), .i (.v 24), .i (.v 25), .i (.v 26), .i (.v 27), .i (.v 28), .i (.v 29), .i (.v 30), .i (.v 31), .i (.c 0), .i (.c 1)] [.one (.c (.i .i64))] 74272) (
                                                                                                                                                                                                                       .ev (.need (.and (.le (.c (-9223372036854775808)) (.mul (.v 74016) (.v 74272))) (.le (.mul (.v 74016) (.v 74272)) (.c 9223372036854775807)))) (
                                                                                                                                                                                                                        .ev (.call 37 (.c true) [.i (.v 0), .i (.v 1), .i (.v 2), .i (.v 3), .i (.v 4), .i (.v 5), .i (.v 6), .i (.v 7), .i (.v 8), .i (.v 9), .i (.v 10), .i (.v 11), .i (.v 12), .i (.v 13), .i (.v 14), .i (.v 15), .i (.c 3), .i (.c 1)] [.one (.c (.i .i64))] 75104) (
                                                                                                                                                                                                                         .ev (.call 37 (.c true) [.i (.v 16), .i (.v 17), .i (.v 18), .i (.v 19), .i (.v 20), .i (.v 21), .i (.v 22), .i (.v 23), .i (.v 24), .i (.v 25), .i (.v 26), .i (.v 27), .i (.v 28), .i (.v 29), .i (.v 30), .i (.v 31), .i (.c 1), .i (.c 1)] [.one (.c (.i .i64))] 75360) (
                                                                                                                                                                                                                          .ev (.need (.and (.le (.c (-9223372036854775808)) (.mul (.v 75104) (.v 75360))) (.le (.mul (.v 75104) (.v 75360)) (.c 9223372036854775807)))) (
                                                                                                                                                                                                                           .ev (.need (.and (.le (.c (-9223372036854775808)) (.add (.mul (.v 74016) (.v 74272)) (.mul (.v 75104) (.v 75360)))) (.le (.add (.mul (.v 74016) (.v 74272)) (.mul (.v 75104) (.v 75360))) (.c 9223372036854775807)))) (
                                                                                                                                                                                                                            .ev (.call 37 (.c true) [.i (.v 0), .i (.v 1), .i (.v 2), .i (.v 3), .i (.v 4), .i (.v 5), .i (.v 6), .i (.v 7), .i (.v 8), .i (.v 9), .i (.v 10), .i (.v 11), .i (.v 12), .i (.v 13), .i (.v 14), .i (.v 15), .i (.c 3), .i (.c 2)] [.one (.c (.i .i64))] 76192) (
                                                                                                                                                                                                                             .ev (.call 37 (.c true) [.i (.v 16), .i (.v 17), .i (.v 18), .i (.v 19), .i (.v 20), .i (.v 21), .i (.v 22), .i (.v 23), .i (.v 24), .i (.v 25), .i (.v 26), .i (.v 27), .i (.v 28), .i (.v 29), .i (.v 30), .i (.v 31), .i (.c 2), .i (.c 1)] [.one (.c (.i .i64))] 76448) (
                                                                                                                                                                                                                              .ev (.need (.and (.le (.c (-9223372036854775808)) (.mul (.v 76192) (.v 76448))) (.le (.mul (.v 76192) (.v 76448)) (.c 9223372036854775807)))) (
                                                                                                                                                                                                                               .ev (.need (.and (.le (.c (-9223372036854775808)) (.add (.add (.mul (.v 74016) (.v 74272)) (.mul (.v 75104) (.v 75360))) (.mul (.v 76192) (.v 76448)))) (.le (.add (.add (.mul (.v 74016) (.v 74272)) (.mul (.v 75104) (.v 75360))) (.mul (.v 76192) (.v 76448))) (.c 9223372036854775807)))) (
                                                                                                                                                                                                                                .ev (.call 37 (.c true) [.i (.v 0), .i (.v 1), .i (.v 2), .i (.v 3), .i (.v 4), .i (.v 5), .i (.v 6), .i (.v 7), .i (.v 8), .i (.v 9), .i (.v 10), .i (.v 11), .i (.v 12), .i (.v 13), .i (.v 14), .i (.v 15), .i (.c 3), .i (.c 3)] [.one (.c (.i .i64))] 77280) (
                                                                                                                                                                                                                                 .ev (.call 37 (.c true) [.i (.v 16), .i (.v 17), .i (.v 18), .i (.v 19), .i (.v 20), .i (.v 21), .i (.v 22), .i (.v 23), .i (.v 24), .i (.v 25), .i (.v 26), .i (.v 27), .i (.v 28), .i (.v 29), .i (.v 30), .i (.v 31), .i (.c 3), .i (.c 1)] [.one (.c (.i .i64))] 77536) (
                                                                                                                                                                                                                                  .ev (.need (.and (.le (.c (-9223372036854775808)) (.mul (.v 77280) (.v 77536))) (.le (.mul (.v 77280) (.v 77536)) (.c 9223372036854775807)))) (
                                                                                                                                                                                                                                   .ev (.need (.and (.le (.c (-9223372036854775808)) (.add (.add (.add (.mul (.v 74016) (.v 74272)) (.mul (.v 75104) (.v 75360))) (.mul (.v 76192) (.v 76448))) (.mul (.v 77280) (.v 77536)))) (.le (.add (.add (.add (.mul (.v 74016) (.v 74272)) (.mul (.v 75104) (.v 75360))) (.mul (.v 76192) (.v 76448))) (.mul (.v 77280) (.v 77536))) (.c 9223372036854775807)))) (
                                                                                                                                                                                                                                    .ev (.call 38 (.c true) [.i (.add (.add (.add (.mul (.v 74016) (.v 74272)) (.mul (.v 75104) (.v 75360))) (.mul (.v 76192) (.v 76448))) (.mul (.v 77280) (.v 77536)))] [.one (.c (.i .i64))] 78432) (
                                                                                                                                                                                                                                     .ev (.call 37 (.c true) [.i (.v 0), .i (.v 1), .i (.v 2), .i (.v 3), .i (.v 4), .i (.v 5), .i (.v 6), .i (.v 7), .i (.v 8), .i (.v 9), .i (.v 10), .i (.v 11), .i (.v 12), .i (.v 13), .i (.v 14), .i (.v 15), .i (.c 3), .i (.c 0)] [.one (.c (.i .i64))] 79456) (
                                                                                                                                                                                                                                      .ev (.call 37 (.c true) [.i (.v 16), .i (.v 17), .i (.v 18), .i (.v 19), .i (.v 20), .i (.v 21), .i (.v 22), .i (.v 23), .i (.v 24), .i (.v 25), .i (.v 26), .i (.v 27), .i (.v 28), .i (.v 29), .i (.v 30), .i (.v 31), .i (.c 0), .i (.c 2)] [.one (.c (.i .i64))] 79712) (
                                                                                                                                                                                                                                       .ev (.need (.and (.le (.c (-9223372036854775808)) (.mul (.v 79456) (.v 79712))) (.le (.mul (.v 79456) (.v 79712)) (.c 9223372036854775807)))) (
                                                                                                                                                                                                                                        .ev (.call 37 (.c true) [.i (.v 0), .i (.v 1), .i (.v 2), .i (.v 3), .i (.v 4), .i (.v 5), .i (.v 6), .i (.v 7), .i (.v 8), .i (.v 9), .i (.v 10), .i (.v 11), .i (.v 12), .i (.v 13), .i (.v 14), .i (.v 15), .i (.c 3), .i (.c 1)] [.one (.c (.i .i64))] 80544) (
                                                                                                                                                                                                                                         .ev (.call 37 (.c true) [.i (.v 16), .i (.v 17), .i (.v 18), .i (.v 19), .i (.v 20), .i (.v 21), .i (.v 22), .i (.v 23), .i (.v 24), .i (.v 25), .i (.v 26), .i (.v 27), .i (.v 28), .i (.v 29), .i (.v 30), .i (.v 31), .i (.c 1), .i (.c 2)] [.one (.c (.i .i64))] 80800) (
                                                                                                                                                                                                                                          .ev (.need (.and (.le (.c (-9223372036854775808)) (.mul (.v 80544) (.v 80800))) (.le (.mul (.v 80544) (.v 80800)) (.c 9223372036854775807)))) (
                                                                                                                                                                                                                                           .ev (.need (.and (.le (.c (-9223372036854775808)) (.add (.mul (.v 79456) (.v 79712)) (.mul (.v 80544) (.v 80800)))) (.le (.add (.mul (.v 79456) (.v 79712)) (.mul (.v 80544) (.v 80800))) (.c 9223372036854775807)))) (
                                                                                                                                                                                                                                            .ev (.call 37 (.c true) [.i (.v 0), .i (.v 1), .i (.v 2), .i (.v 3), .i (.v 4), .i (.v 5), .i (.v 6), .i (.v 7), .i (.v 8), .i (.v 9), .i (.v 10), .i (.v 11), .i (.v 12), .i (.v 13), .i (.v 14), .i (.v 15), .i (.c 3), .i (.c 2)] [.one (.c (.i .i64))] 81632) (
                                                                                                                                                                                                                                             .ev (.call 37 (.c true) [.i (.v 16), .i (.v 17), .i (.v 18), .i (.v 19), .i (.v 20), .i (.v 21), .i (.v 22), .i (.v 23), .i (.v 24), .i (.v 25), .i (.v 26), .i (.v 27), .i (.v 28), .i (.v 29), .i (.v 30), .i (.v 31), .i (.c 2), .i (.c 2)] [.one (.c (.i .i64))] 81888) (
                                                                                                                                                                                                                                              .ev (.need (.and (.le (.c (-9223372036854775808)) (.mul (.v 81632) (.v 81888))) (.le (.mul (.v 81632) (.v 81888)) (.c 9223372036854775807)))) (
                                                                                                                                                                                                                                               .ev (.need (.and (.le (.c (-9223372036854775808)) (.add (.add (.mul (.v 79456) (.v 79712)) (.mul (.v 80544) (.v 80800))) (.mul (.v 81632) (.v 81888)))) (.le (.add (.add (.mul (.v 79456) (.v 79712)) (.mul (.v 80544) (.v 80800))) (.mul (.v 81632) (.v 81888))) (.c 9223372036854775807)))) (
                                                                                                                                                                                                                                                .ev (.call 37 (.c true) [.i (.v 0), .i (.v 1), .i (.v 2), .i (.v 3), .i (.v 4), .i (.v 5), .i (.v 6), .i (.v 7), .i (.v 8), .i (.v 9), .i (.v 10), .i (.v 11), .i (.v 12), .i (.v 13), .i (.v 14), .i (.v 15), .i (.c 3), .i (.c 3)] [.one (.c (.i .i64))] 82720) (
                                                                                                                                                                                                                                                 .ev (.call 37 (.c true) [.i (.v 16), .i (.v 17), .i (.v 18), .i (.v 19), .i (.v 20), .i (.v 21), .i (.v 22), .i (.v 23), .i (.v 24), .i (.v 25), .i (.v 26), .i (.v 27), .i (.v 28), .i (.v 29), .i (.v 30), .i (.v 31), .i (.c 3), .i (.c 2)] [.one (.c (.i .i64))] 82976) (
                                                                                                                                                                                                                                                  .ev (.need (.and (.le (.c (-9223372036854775808)) (.mul (.v 82720) (.v 82976))) (.le (.mul (.v 82720) (.v 82976)) (.c 9223372036854775807)))) (
                                                                                                                                                                                                                                                   .ev (.need (.and (.le (.c (-9223372036854775808)) (.add (.add (.add (.mul (.v 79456) (.v 79712)) (.mul (.v 80544) (.v 80800))) (.mul (.v 81632) (.v 81888))) (.mul (.v 82720) (.v 82976)))) (.le (.add (.add (.add (.mul (.v 79456) (.v 79712)) (.mul (.v 80544) (.v 80800))) (.mul (.v 81632) (.v 81888))) (.mul (.v 82720) (.v 82976))) (.c 9223372036854775807)))) (
                                                                                                                                                                                                                                                    .ev (.call 38 (.c true) [.i (.add (.add (.add (.mul (.v 79456) (.v 79712)) (.mul (.v 80544) (.v 80800))) (.mul (.v 81632) (.v 81888))) (.mul (.v 82720) (.v 82976)))] [.one (.c (.i .i64))] 83872) (
                                                                                                                                                                                                                                                     .ev (.call 37 (.c true) [.i (.v 0), .i (.v 1), .i (.v 2), .i (.v 3), .i (.v 4), .i (.v 5), .i (.v 6), .i (.v 7), .i (.v 8), .i (.v 9), .i (.v 10), .i (.v 11), .i (.v 12), .i (.v 13), .i (.v 14), .i (.v 15), .i (.c 3), .i (.c 0)] [.one (.c (.i .i64))] 84896) (
                                                                                                                                                                                                                                                      .ev (.call 37 (.c true) [.i (.v 16), .i (.v 17), .i (.v 18), .i (.v 19), .i (.v 20), .i (.v 21), .i (.v 22), .i (.v 23), .i (.v 24), .i (.v 25), .i (.v 26), .i (.v 27), .i (.v 28), .i (.v 29), .i (.v 30), .i (.v 31), .i (.c 0), .i (.c 3)] [.one (.c (.i .i64))] 85152) (
                                                                                                                                                                                                                                                       .ev (.need (.and (.le (.c (-9223372036854775808)) (.mul (.v 84896) (.v 85152))) (.le (.mul (.v 84896) (.v 85152)) (.c 9223372036854775807)))) (
                                                                                                                                                                                                                                                        .ev (.call 37 (.c true) [.i (.v 0), .i (.v 1), .i (.v 2), .i (.v 3), .i (.v 4), .i (.v 5), .i (.v 6), .i (.v 7), .i (.v 8), .i (.v 9), .i (.v 10), .i (.v 11), .i (.v 12), .i (.v 13), .i (.v 14), .i (.v 15), .i (.c 3), .i (.c 1)] [.one (.c (.i .i64))] 85984) (
                                                                                                                                                                                                                                                         .ev (.call 37 (.c true) [.i (.v 16), .i (.v 17), .i (.v 18), .i (.v 19), .i (.v 20), .i (.v 21), .i (.v 22), .i (.v 23), .i (.v 24), .i (.v 25), .i (.v 26), .i (.v 27), .i (.v 28), .i (.v 29), .i (.v 30), .i (.v 31), .i (.c 1), .i (.c 3)] [.one (.c (.i .i64))] 86240) (
                                                                                                                                                                                                                                                          .ev (.need (.and (.le (.c (-9223372036854775808)) (.mul (.v 85984) (.v 86240))) (.le (.mul (.v 85984) (.v 86240)) (.c 9223372036854775807)))) (
                                                                                                                                                                                                                                                           .ev (.need (.and (.le (.c (-9223372036854775808)) (.add (.mul (.v 84896) (.v 85152)) (.mul (.v 85984) (.v 86240)))) (.le (.add (.mul (.v 84896) (.v 85152)) (.mul (.v 85984) (.v 86240))) (.c 9223372036854775807)))) (
                                                                                                                                                                                                                                                            .ev (.call 37 (.c true) [.i (.v 0), .i (.v 1), .i (.v 2), .i (.v 3), .i (.v 4), .i (.v 5), .i (.v 6), .i (.v 7), .i (.v 8), .i (.v 9), .i (.v 10), .i (.v 11), .i (.v 12), .i (.v 13), .i (.v 14), .i (.v 15), .i (.c 3), .i (.c 2)] [.one (.c (.i .i64))] 87072) (
                                                                                                                                                                                                                                                             .ev (.call 37 (.c true) [.i (.v 16), .i (.v 17), .i (.v 18), .i (.v 19), .i (.v 20), .i (.v 21), .i (.v 22), .i (.v 23), .i (.v 24), .i (.v 25), .i (.v 26), .i (.v 27), .i (.v 28), .i (.v 29), .i (.v 30), .i (.v 31), .i (.c 2), .i (.c 3)] [.one (.c (.i .i64))] 87328) (
                                                                                                                                                                                                                                                              .ev (.need (.and (.le (.c (-9223372036854775808)) (.mul (.v 87072) (.v 87328))) (.le (.mul (.v 87072) (.v 87328)) (.c 9223372036854775807)))) (
                                                                                                                                                                                                                                                               .ev (.need (.and (.le (.c (-9223372036854775808)) (.add (.add (.mul (.v 84896) (.v 85152)) (.mul (.v 85984) (.v 86240))) (.mul (.v 87072) (.v 87328)))) (.le (.add (.add (.mul (.v 84896) (.v 85152)) (.mul (.v 85984) (.v 86240))) (.mul (.v 87072) (.v 87328))) (.c 9223372036854775807)))) (
                                                                                                                                                                                                                                                                .ev (.call 37 (.c true) [.i (.v 0), .i (.v 1), .i (.v 2), .i (.v 3), .i (.v 4), .i (.v 5), .i (.v 6), .i (.v 7), .i (.v 8), .i (.v 9), .i (.v 10), .i (.v 11), .i (.v 12), .i (.v 13), .i (.v 14), .i (.v 15), .i (.c 3), .i (.c 3)] [.one (.c (.i .i64))] 88160) (
                                                                                                                                                                                                                                                                 .ev (.call 37 (.c true) [.i (.v 16), .i (.v 17), .i (.v 18), .i (.v 19), .i (.v 20), .i (.v 21), .i (.v 22), .i (.v 23), .i (.v 24), .i (.v 25), .i (.v 26), .i (.v 27), .i (.v 28), .i (.v 29), .i (.v 30), .i (.v 31), .i (.c 3), .i (.c 3)] [.one (.c (.i .i64))] 88416) (
                                                                                                                                                                                                                                                                  .ev (.need (.and (.le (.c (-9223372036854775808)) (.mul (.v 88160) (.v 88416))) (.le (.mul (.v 88160) (.v 88416)) (.c 9223372036854775807)))) (
                                                                                                                                                                                                                                                                   .ev (.need (.and (.le (.c (-9223372036854775808)) (.add (.add (.add (.mul (.v 84896) (.v 85152)) (.mul (.v 85984) (.v 86240))) (.mul (.v 87072) (.v 87328))) (.mul (.v 88160) (.v 88416)))) (.le (.add (.add (.add (.mul (.v 84896) (.v 85152)) (.mul (.v 85984) (.v 86240))) (.mul (.v 87072) (.v 87328))) (.mul (.v 88160) (.v 88416))) (.c 9223372036854775807)))) (
                                                                                                                                                                                                                                                                    .ev (.call 38 (.c true) [.i (.add (.add (.add (.mul (.v 84896) (.v 85152)) (.mul (.v 85984) (.v 86240))) (.mul (.v 87072) (.v 87328))) (.mul (.v 88160) (.v 88416)))] [.one (.c (.i .i64))] 89312) (
                                                                                                                                                                                                                                                                     .ev (.call 28 (.c true) [.i (.v 6176), .i (.v 11616), .i (.v 17056), .i (.v 22496), .i (.v 28448), .i (.v 33888), .i (.v 39328), .i (.v 44768), .i (.v 50720), .i (.v 56160), .i (.v 61600), .i (.v 67040), .i (.v 72992), .i (.v 78432), .i (.v 83872), .i (.v 89312)] [.one (.c (.b))] 90208) (
                                                                                                                                                                                                                                                                      .ite (.not (.v 90208)) (
                                                                                                                                                                                                                                                                       .ret [.i (.c 0), .i (.c 0), .i (.c 0), .i (.c 0), .i (.c 0), .i (.c 0), .i (.c 0), .i (.c 0), .i (.c 0), .i (.c 0), .i (.c 0), .i (.c 0), .i (.c 0), .i (.c 0), .i (.c 0), .i (.c 0), .i (.c 4)]) (
                                                                                                                                                                                                                                                                       .ret [.i (.v 6176), .i (.v 11616), .i (.v 17056), .i (.v 22496), .i (.v 28448), .i (.v 33888), .i (.v 39328), .i (.v 44768), .i (.v 50720), .i (.v 56160), .i (.v 61600), .i (.v 67040), .i (.v 72992), .i (.v 78432), .i (.v 83872), .i (.v 89312), .i (.c 0)])))))))))))))))))))))))))))))))))))))))))))))))))))))))))))))))))))))))))))))))))))))))))))))))))))))))))))))))))))))))))))))))))))))))))))))))))))))))))))))))))))))))))))))))))))))))))))))))))))))))))))))))))))))))))))))))))))))))))))))))))))))))))))))))))))))
theorem is29 : prune [] (execFn Try.prog cfg29 Try.f29 sg29 3000) = tree29 := by kernel_rfl
/-- rastrum.stack.own -/
def cfg30 : Cfg := ⟨sigsOf sigs, false, [], []⟩
def tree30 : Tree :=
  .ev (.letl 451 (.lit [])) (
   .ev (.need (.le (.add (.len 451) (.len 1)) (.c 1099511627776))) (
    .ev (.letl 771 (.app 451 1)) (
     .ev (.letl 1411 (.lit [])) (
      .ev (.need (.le (.add (.len 1411) (.len 2)) (.c 1099511627776))) (
       .ev (.letl 1731 (.app 1411 2)) (
        .ret [.i (.v 0), .l 771, .l 1731]))))))
theorem is30 : prune [] (execFn Try.prog cfg30 Try.f30 sg30 3000) = tree30 := by kernel_rfl
/-- rastrum.mat.Right -/
def cfg31 : Cfg := ⟨sigsOf sigs, false, [], []⟩
def tree31 : Tree :=
  .ev (.call 39 (.c true) [.i (.v 0), .i (.c 268435456)] [.one (.c (.b))] 528) (
   .ite (.v 528) (
    .ret [.b (.c false)]) (
    .ev (.call 39 (.c true) [.i (.v 1), .i (.c 268435456)] [.one (.c (.b))] 976) (
     .ite (.v 976) (
      .ret [.b (.c false)]) (
      .ev (.call 39 (.c true) [.i (.v 2), .i (.c 268435456)] [.one (.c (.b))] 1424) (
       .ite (.v 1424) (
        .ret [.b (.c false)]) (
        .ev (.call 39 (.c true) [.i (.v 3), .i (.c 268435456)] [.one (.c (.b))] 1872) (
         .ite (.v 1872) (
          .ret [.b (.c false)]) (
          .ev (.call 39 (.c true) [.i (.v 4), .i (.c 268435456)] [.one (.c (.b))] 2320) (
           .ite (.v 2320) (
            .ret [.b (.c false)]) (
            .ev (.call 39 (.c true) [.i (.v 5), .i (.c 268435456)] [.one (.c (.b))] 2768) (
             .ite (.v 2768) (
              .ret [.b (.c false)]) (
              .ev (.call 39 (.c true) [.i (.v 6), .i (.c 268435456)] [.one (.c (.b))] 3216) (
               .ite (.v 3216) (
                .ret [.b (.c false)]) (
                .ev (.call 39 (.c true) [.i (.v 7), .i (.c 268435456)] [.one (.c (.b))] 3664) (
                 .ite (.v 3664) (
                  .ret [.b (.c false)]) (
                  .ev (.call 39 (.c true) [.i (.v 8), .i (.c 268435456)] [.one (.c (.b))] 4112) (
                   .ite (.v 4112) (
                    .ret [.b (.c false)]) (
                    .ev (.call 39 (.c true) [.i (.v 9), .i (.c 268435456)] [.one (.c (.b))] 4560) (
                     .ite (.v 4560) (
                      .ret [.b (.c false)]) (
                      .ev (.call 39 (.c true) [.i (.v 10), .i (.c 268435456)] [.one (.c (.b))] 5008) (
                       .ite (.v 5008) (
                        .ret [.b (.c false)]) (
                        .ev (.call 39 (.c true) [.i (.v 11), .i (.c 268435456)] [.one (.c (.b))] 5456) (
                         .ite (.v 5456) (
                          .ret [.b (.c false)]) (
                          .ev (.call 39 (.c true) [.i (.v 12), .i (.c 268435456)] [.one (.c (.b))] 5904) (
                           .ite (.v 5904) (
                            .ret [.b (.c false)]) (
                            .ev (.call 39 (.c true) [.i (.v 13), .i (.c 268435456)] [.one (.c (.b))] 6352) (
                             .ite (.v 6352) (
                              .ret [.b (.c false)]) (
                              .ev (.call 39 (.c true) [.i (.v 14), .i (.c 268435456)] [.one (.c (.b))] 6800) (
                               .ite (.v 6800) (
                                .ret [.b (.c false)]) (
                                .ev (.call 39 (.c true) [.i (.v 15), .i (.c 268435456)] [.one (.c (.b))] 7248) (
                                 .ite (.v 7248) (
                                  .ret [.b (.c false)]) (
                                  .ret [.b (.c true)]))))))))))))))))))))))))))))))))
theorem is31 : prune [] (execFn Try.prog cfg31 Try.f31 sg31 3000) = tree31 := by kernel_rfl
/-- rastrum.mat.Mul -/
def cfg32 : Cfg := ⟨sigsOf sigs, false, [], []⟩
def tree32 : Tree :=
  .ev (.call 31 (.c true) [.i (.v 0), .i (.v 1), .i (.v 2), .i (.v 3), .i (.v 4), .i (.v 5), .i (.v 6), .i (.v 7), .i (.v 8), .i (.v 9), .i (.v 10), .i (.v 11), .i (.v 12), .i (.v 13), .i (.v 14), .i (.v 15)] [.one (.c (.b))] 352) (
   .ev (.call 31 (.v 352) [.i (.v 16), .i (.v 17), .i (.v 18), .i (.v 19), .i (.v 20), .i (.v 21), .i (.v 22), .i (.v 23), .i (.v 24), .i (.v 25), .i (.v 26), .i (.v 27), .i (.v 28), .i (.v 29), .i (.v 30), .i (.v 31)] [.one (.c (.b))] 608) (
    .ite (.or (.not (.v 352)) (.not (.v 608))) (
     .ret [.i (.c 0), .i (.c 0), .i (.c 0), .i (.c 0), .i (.c 0), .i (.c 0), .i (.c 0), .i (.c 0), .i (.c 0), .i (.c 0), .i (.c 0), .i (.c 0), .i (.c 0), .i (.c 0), .i (.c 0), .i (.c 0), .i (.c 1)]) (
     .ev (.call 40 (.c true) [.rows [(.v 0), (.v 1), (.v 2), (.v 3), (.v 4), (.v 5), (.v 6), (.v 7), (.v 8), (.v 9), (.v 10), (.v 11), (.v 12), (.v 13), (.v 14), (.v 15)], .i (.c 0), .rows [(.v 16), (.v 20), (.v 24), (.v 28)]] [.one (.c (.i .i64))] 2848) (
      .ev (.call 40 (.c true) [.rows [(.v 0), (.v 1), (.v 2), (.v 3), (.v 4), (.v 5), (.v 6), (.v 7), (.v 8), (.v 9), (.v 10), (.v 11), (.v 12), (.v 13), (.v 14), (.v 15)], .i (.c 1), .rows [(.v 16), (.v 20), (.v 24), (.v 28)]] [.one (.c (.i .i64))] 3680) (
       .ev (.call 40 (.c true) [.rows [(.v 0), (.v 1), (.v 2), (.v 3), (.v 4), (.v 5), (.v 6), (.v 7), (.v 8), (.v 9), (.v 10), (.v 11), (.v 12), (.v 13), (.v 14), (.v 15)], .i (.c 2), .rows [(.v 16), (.v 20), (.v 24), (.v 28)]] [.one (.c (.i .i64))] 4512) (
        .ev (.call 40 (.c true) [.rows [(.v 0), (.v 1), (.v 2), (.v 3), (.v 4), (.v 5), (.v 6), (.v 7), (.v 8), (.v 9), (.v 10), (.v 11), (.v 12), (.v 13), (.v 14), (.v 15)], .i (.c 3), .rows [(.v 16), (.v 20), (.v 24), (.v 28)]] [.one (.c (.i .i64))] 5344) (
         .ev (.call 40 (.c true) [.rows [(.v 0), (.v 1), (.v 2), (.v 3), (.v 4), (.v 5), (.v 6), (.v 7), (.v 8), (.v 9), (.v 10), (.v 11), (.v 12), (.v 13), (.v 14), (.v 15)], .i (.c 0), .rows [(.v 17), (.v 21), (.v 25), (.v 29)]] [.one (.c (.i .i64))] 7776) (
          .ev (.call 40 (.c true) [.rows [(.v 0), (.v 1), (.v 2), (.v 3), (.v 4), (.v 5), (.v 6), (.v 7), (.v 8), (.v 9), (.v 10), (.v 11), (.v 12), (.v 13), (.v 14), (.v 15)], .i (.c 1), .rows [(.v 17), (.v 21), (.v 25), (.v 29)]] [.one (.c (.i .i64))] 8608) (
           .ev (.call 40 (.c true) [.rows [(.v 0), (.v 1), (.v 2), (.v 3), (.v 4), (.v 5), (.v 6), (.v 7), (.v 8), (.v 9), (.v 10), (.v 11), (.v 12), (.v 13), (.v 14), (.v 15)], .i (.c 2), .rows [(.v 17), (.v 21), (.v 25), (.v 29)]] [.one (.c (.i .i64))] 9440) (
            .ev (.call 40 (.c true) [.rows [(.v 0), (.v 1), (.v 2), (.v 3), (.v 4), (.v 5), (.v 6), (.v 7), (.v 8), (.v 9), (.v 10), (.v 11), (.v 12), (.v 13), (.v 14), (.v 15)], .i (.c 3), .rows [(.v 17), (.v 21), (.v 25), (.v 29)]] [.one (.c (.i .i64))] 10272) (
             .ev (.call 40 (.c true) [.rows [(.v 0), (.v 1), (.v 2), (.v 3), (.v 4), (.v 5), (.v 6), (.v 7), (.v 8), (.v 9), (.v 10), (.v 11), (.v 12), (.v 13), (.v 14), (.v 15)], .i (.c 0), .rows [(.v 18), (.v 22), (.v 26), (.v 30)]] [.one (.c (.i .i64))] 12704) (
              .ev (.call 40 (.c true) [.rows [(.v 0), (.v 1), (.v 2), (.v 3), (.v 4), (.v 5), (.v 6), (.v 7), (.v 8), (.v 9), (.v 10), (.v 11), (.v 12), (.v 13), (.v 14), (.v 15)], .i (.c 1), .rows [(.v 18), (.v 22), (.v 26), (.v 30)]] [.one (.c (.i .i64))] 13536) (
               .ev (.call 40 (.c true) [.rows [(.v 0), (.v 1), (.v 2), (.v 3), (.v 4), (.v 5), (.v 6), (.v 7), (.v 8), (.v 9), (.v 10), (.v 11), (.v 12), (.v 13), (.v 14), (.v 15)], .i (.c 2), .rows [(.v 18), (.v 22), (.v 26), (.v 30)]] [.one (.c (.i .i64))] 14368) (
                .ev (.call 40 (.c true) [.rows [(.v 0), (.v 1), (.v 2), (.v 3), (.v 4), (.v 5), (.v 6), (.v 7), (.v 8), (.v 9), (.v 10), (.v 11), (.v 12), (.v 13), (.v 14), (.v 15)], .i (.c 3), .rows [(.v 18), (.v 22), (.v 26), (.v 30)]] [.one (.c (.i .i64))] 15200) (
                 .ev (.call 40 (.c true) [.rows [(.v 0), (.v 1), (.v 2), (.v 3), (.v 4), (.v 5), (.v 6), (.v 7), (.v 8), (.v 9), (.v 10), (.v 11), (.v 12), (.v 13), (.v 14), (.v 15)], .i (.c 0), .rows [(.v 19), (.v 23), (.v 27), (.v 31)]] [.one (.c (.i .i64))] 17632) (
                  .ev (.call 40 (.c true) [.rows [(.v 0), (.v 1), (.v 2), (.v 3), (.v 4), (.v 5), (.v 6), (.v 7), (.v 8), (.v 9), (.v 10), (.v 11), (.v 12), (.v 13), (.v 14), (.v 15)], .i (.c 1), .rows [(.v 19), (.v 23), (.v 27), (.v 31)]] [.one (.c (.i .i64))] 18464) (
                   .ev (.call 40 (.c true) [.rows [(.v 0), (.v 1), (.v 2), (.v 3), (.v 4), (.v 5), (.v 6), (.v 7), (.v 8), (.v 9), (.v 10), (.v 11), (.v 12), (.v 13), (.v 14), (.v 15)], .i (.c 2), .rows [(.v 19), (.v 23), (.v 27), (.v 31)]] [.one (.c (.i .i64))] 19296) (
                    .ev (.call 40 (.c true) [.rows [(.v 0), (.v 1), (.v 2), (.v 3), (.v 4), (.v 5), (.v 6), (.v 7), (.v 8), (.v 9), (.v 10), (.v 11), (.v 12), (.v 13), (.v 14), (.v 15)], .i (.c 3), .rows [(.v 19), (.v 23), (.v 27), (.v 31)]] [.one (.c (.i .i64))] 20128) (
                     .ev (.call 31 (.c true) [.i (.v 2848), .i (.v 7776), .i (.v 12704), .i (.v 17632), .i (.v 3680), .i (.v 8608), .i (.v 13536), .i (.v 18464), .i (.v 4512), .i (.v 9440), .i (.v 14368), .i (.v 19296), .i (.v 5344), .i (.v 10272), .i (.v 15200), .i (.v 20128)] [.one (.c (.b))] 20768) (
                      .ite (.not (.v 20768)) (
                       .ret [.i (.c 0), .i (.c 0), .i (.c 0), .i (.c 0), .i (.c 0), .i (.c 0), .i (.c 0), .i (.c 0), .i (.c 0), .i (.c 0), .i (.c 0), .i (.c 0), .i (.c 0), .i (.c 0), .i (.c 0), .i (.c 0), .i (.c 4)]) (
                       .ret [.i (.v 2848), .i (.v 7776), .i (.v 12704), .i (.v 17632), .i (.v 3680), .i (.v 8608), .i (.v 13536), .i (.v 18464), .i (.v 4512), .i (.v 9440), .i (.v 14368), .i (.v 19296), .i (.v 5344), .i (.v 10272), .i (.v 15200), .i (.v 20128), .i (.c 0)])))))))))))))))))))))
theorem is32 : prune [] (execFn Try.prog cfg32 Try.f32 sg32 3000) = tree32 := by kernel_rfl
/-- rastrum.rastrumref06.own -/
def cfg33 : Cfg := ⟨sigsOf sigs, false, [], []⟩
def tree33 : Tree :=
  .ev (.letl 387 (.lit [])) (
   .ev (.need (.le (.add (.len 387) (.len 1)) (.c 1099511627776))) (
    .ev (.letl 707 (.app 387 1)) (
     .ev (.letl 1347 (.lit [])) (
      .ev (.need (.le (.add (.len 1347) (.len 2)) (.c 1099511627776))) (
       .ev (.letl 1667 (.app 1347 2)) (
        .ret [.i (.v 0), .l 707, .l 1667]))))))
theorem is33 : prune [] (execFn Try.prog cfg33 Try.f33 sg33 3000) = tree33 := by kernel_rfl
/-- rastrum.mat.Unit -/
def cfg34 : Cfg := ⟨sigsOf sigs, false, [], []⟩
def tree34 : Tree :=
  .ret [.i (.c 65536), .i (.c 0), .i (.c 0), .i (.c 0), .i (.c 0), .i (.c 65536), .i (.c 0), .i (.c 0), .i (.c 0), .i (.c 0), .i (.c 65536), .i (.c 0), .i (.c 0), .i (.c 0), .i (.c 0), .i (.c 65536)]
theorem is34 : prune [] (execFn Try.prog cfg34 Try.f34 sg34 3000) = tree34 := by kernel_rfl
/-- rastrum.rastrumref05.Unit -/
def cfg35 : Cfg := ⟨sigsOf sigs, false, [], []⟩
def tree35 : Tree :=
  .ret [.i (.c 65536), .i (.c 0), .i (.c 0), .i (.c 0), .i (.c 0), .i (.c 65536), .i (.c 0), .i (.c 0), .i (.c 0), .i (.c 0), .i (.c 65536), .i (.c 0), .i (.c 0), .i (.c 0), .i (.c 0), .i (.c 65536)]
theorem is35 : prune [] (execFn Try.prog cfg35 Try.f35 sg35 3000) = tree35 := by kernel_rfl
/-- rastrum.rastrumref05.fits -/
def cfg36 : Cfg := ⟨sigsOf sigs, false, [], []⟩
def tree36 : Tree :=
  .ev (.need (.and (.le (.c (-9223372036854775808)) (.sub (.c 0) (.v 1))) (.le (.sub (.c 0) (.v 1)) (.c 9223372036854775807)))) (
   .ret [.b (.and (.le (.sub (.c 0) (.v 1)) (.v 0)) (.le (.v 0) (.v 1)))])
theorem is36 : prune [] (execFn Try.prog cfg36 Try.f36 sg36 3000) = tree36 := by kernel_rfl
/-- rastrum.rastrumref05.at -/
def cfg37 : Cfg := ⟨sigsOf sigs, false, [], []⟩
def tree37 : Tree :=
  .ev (.need (.and (.le (.c (-9223372036854775808)) (.mul (.c 4) (.v 16))) (.le (.mul (.c 4) (.v 16)) (.c 9223372036854775807)))) (
   .ev (.need (.and (.le (.c (-9223372036854775808)) (.add (.mul (.c 4) (.v 16)) (.v 17))) (.le (.add (.mul (.c 4) (.v 16)) (.v 17)) (.c 9223372036854775807)))) (
    .ev (.need (.le (.c 0) (.add (.mul (.c 4) (.v 16)) (.v 17)))) (
     .ev (.need (.lt (.add (.mul (.c 4) (.v 16)) (.v 17)) (.c 16))) (
      .ret [.i (.ifeq (.add (.mul (.c 4) (.v 16)) (.v 17)) 0 (.v 0) (.ifeq (.add (.mul (.c 4) (.v 16)) (.v 17)) 1 (.v 1) (.ifeq (.add (.mul (.c 4) (.v 16)) (.v 17)) 2 (.v 2) (.ifeq (.add (.mul (.c 4) (.v 16)) (.v 17)) 3 (.v 3) (.ifeq (.add (.mul (.c 4) (.v 16)) (.v 17)) 4 (.v 4) (.ifeq (.add (.mul (.c 4) (.v 16)) (.v 17)) 5 (.v 5) (.ifeq (.add (.mul (.c 4) (.v 16)) (.v 17)) 6 (.v 6) (.ifeq (.add (.mul (.c 4) (.v 16)) (.v 17)) 7 (.v 7) (.ifeq (.add (.mul (.c 4) (.v 16)) (.v 17)) 8 (.v 8) (.ifeq (.add (.mul (.c 4) (.v 16)) (.v 17)) 9 (.v 9) (.ifeq (.add (.mul (.c 4) (.v 16)) (.v 17)) 10 (.v 10) (.ifeq (.add (.mul (.c 4) (.v 16)) (.v 17)) 11 (.v 11) (.ifeq (.add (.mul (.c 4) (.v 16)) (.v 17)) 12 (.v 12) (.ifeq (.add (.mul (.c 4) (.v 16)) (.v 17)) 13 (.v 13) (.ifeq (.add (.mul (.c 4) (.v 16)) (.v 17)) 14 (.v 14) (.v 15))))))))))))))))]))))
theorem is37 : prune [] (execFn Try.prog cfg37 Try.f37 sg37 3000) = tree37 := by kernel_rfl
/-- rastrum.rastrumref05.down -/
def cfg38 : Cfg := ⟨sigsOf sigs, false, [], []⟩
def tree38 : Tree :=
  .ev (.need (.and (.le (.c (-9223372036854775808)) (.tdiv (.v 0) (.c 65536))) (.le (.tdiv (.v 0) (.c 65536)) (.c 9223372036854775807)))) (
   .ite (.lt (.tmod (.v 0) (.c 65536)) (.c 0)) (
    .ev (.need (.and (.le (.c (-9223372036854775808)) (.sub (.tdiv (.v 0) (.c 65536)) (.c 1))) (.le (.sub (.tdiv (.v 0) (.c 65536)) (.c 1)) (.c 9223372036854775807)))) (
     .ret [.i (.sub (.tdiv (.v 0) (.c 65536)) (.c 1))])) (
    .ret [.i (.tdiv (.v 0) (.c 65536))]))
theorem is38 : prune [] (execFn Try.prog cfg38 Try.f38 sg38 3000) = tree38 := by kernel_rfl
/-- rastrum.mat.far -/
def cfg39 : Cfg := ⟨sigsOf sigs, false, [], []⟩
def tree39 : Tree :=
  .ev (.need (.or (.not (.not (.lt (.v 1) (.v 0)))) (.and (.le (.c (-9223372036854775808)) (.sub (.c 0) (.v 1))) (.le (.sub (.c 0) (.v 1)) (.c 9223372036854775807))))) (
   .ret [.b (.or (.lt (.v 1) (.v 0)) (.lt (.v 0) (.sub (.c 0) (.v 1))))])
theorem is39 : prune [] (execFn Try.prog cfg39 Try.f39 sg39 3000) = tree39 := by kernel_rfl
/-- rastrum.mat.row -/
def cfg40 : Cfg := ⟨sigsOf sigs, false, [], []⟩
def tree40 : Tree :=
  .ev (.need (.and (.le (.c (-9223372036854775808)) (.mul (.c 4) (.v 1))) (.le (.mul (.c 4) (.v 1)) (.c 9223372036854775807)))) (
   .ev (.need (.lt (.c 0) (.len 0))) (
    .ev (.need (.le (.c 0) (.mul (.c 4) (.v 1)))) (
     .ev (.need (.lt (.mul (.c 4) (.v 1)) (.c 16))) (
      .ev (.need (.lt (.mul (.c 4) (.v 1)) (.len 0))) (
       .ev (.need (.lt (.c 0) (.len 2))) (
        .ev (.need (.and (.le (.c (-9223372036854775808)) (.mul (.get 0 (.mul (.c 4) (.v 1)) 0) (.get 2 (.c 0) 0))) (.le (.mul (.get 0 (.mul (.c 4) (.v 1)) 0) (.get 2 (.c 0) 0)) (.c 9223372036854775807)))) (
         .ev (.need (.and (.le (.c (-9223372036854775808)) (.add (.mul (.c 4) (.v 1)) (.c 1))) (.le (.add (.mul (.c 4) (.v 1)) (.c 1)) (.c 9223372036854775807)))) (
          .ev (.need (.le (.c 0) (.add (.mul (.c 4) (.v 1)) (.c 1)))) (
           .ev (.need (.lt (.add (.mul (.c 4) (.v 1)) (.c 1)) (.c 16))) (
            .ev (.need (.lt (.add (.mul (.c 4) (.v 1)) (.c 1)) (.len 0))) (
             .ev (.need (.lt (.c 1) (.len 2))) (
              .ev (.need (.and (.le (.c (-9223372036854775808)) (.mul (.get 0 (.add (.mul (.c 4) (.v 1)) (.c 1)) 0) (.get 2 (.c 1) 0))) (.le (.mul (.get 0 (.add (.mul (.c 4) (.v 1)) (.c 1)) 0) (.get 2 (.c 1) 0)) (.c 9223372036854775807)))) (
               .ev (.need (.and (.le (.c (-9223372036854775808)) (.add (.mul (.get 0 (.mul (.c 4) (.v 1)) 0) (.get 2 (.c 0) 0)) (.mul (.get 0 (.add (.mul (.c 4) (.v 1)) (.c 1)) 0) (.get 2 (.c 1) 0)))) (.le (.add (.mul (.get 0 (.mul (.c 4) (.v 1)) 0) (.get 2 (.c 0) 0)) (.mul (.get 0 (.add (.mul (.c 4) (.v 1)) (.c 1)) 0) (.get 2 (.c 1) 0))) (.c 9223372036854775807)))) (
                .ev (.need (.and (.le (.c (-9223372036854775808)) (.add (.mul (.c 4) (.v 1)) (.c 2))) (.le (.add (.mul (.c 4) (.v 1)) (.c 2)) (.c 9223372036854775807)))) (
                 .ev (.need (.le (.c 0) (.add (.mul (.c 4) (.v 1)) (.c 2)))) (
                  .ev (.need (.lt (.add (.mul (.c 4) (.v 1)) (.c 2)) (.c 16))) (
                   .ev (.need (.lt (.add (.mul (.c 4) (.v 1)) (.c 2)) (.len 0))) (
                    .ev (.need (.lt (.c 2) (.len 2))) (
                     .ev (.need (.and (.le (.c (-9223372036854775808)) (.mul (.get 0 (.add (.mul (.c 4) (.v 1)) (.c 2)) 0) (.get 2 (.c 2) 0))) (.le (.mul (.get 0 (.add (.mul (.c 4) (.v 1)) (.c 2)) 0) (.get 2 (.c 2) 0)) (.c 9223372036854775807)))) (
                      .ev (.need (.and (.le (.c (-9223372036854775808)) (.add (.add (.mul (.get 0 (.mul (.c 4) (.v 1)) 0) (.get 2 (.c 0) 0)) (.mul (.get 0 (.add (.mul (.c 4) (.v 1)) (.c 1)) 0) (.get 2 (.c 1) 0))) (.mul (.get 0 (.add (.mul (.c 4) (.v 1)) (.c 2)) 0) (.get 2 (.c 2) 0)))) (.le (.add (.add (.mul (.get 0 (.mul (.c 4) (.v 1)) 0) (.get 2 (.c 0) 0)) (.mul (.get 0 (.add (.mul (.c 4) (.v 1)) (.c 1)) 0) (.get 2 (.c 1) 0))) (.mul (.get 0 (.add (.mul (.c 4) (.v 1)) (.c 2)) 0) (.get 2 (.c 2) 0))) (.c 9223372036854775807)))) (
                       .ev (.need (.and (.le (.c (-9223372036854775808)) (.add (.mul (.c 4) (.v 1)) (.c 3))) (.le (.add (.mul (.c 4) (.v 1)) (.c 3)) (.c 9223372036854775807)))) (
                        .ev (.need (.le (.c 0) (.add (.mul (.c 4) (.v 1)) (.c 3)))) (
                         .ev (.need (.lt (.add (.mul (.c 4) (.v 1)) (.c 3)) (.c 16))) (
                          .ev (.need (.lt (.add (.mul (.c 4) (.v 1)) (.c 3)) (.len 0))) (
                           .ev (.need (.lt (.c 3) (.len 2))) (
                            .ev (.need (.and (.le (.c (-9223372036854775808)) (.mul (.get 0 (.add (.mul (.c 4) (.v 1)) (.c 3)) 0) (.get 2 (.c 3) 0))) (.le (.mul (.get 0 (.add (.mul (.c 4) (.v 1)) (.c 3)) 0) (.get 2 (.c 3) 0)) (.c 9223372036854775807)))) (
                             .ev (.need (.and (.le (.c (-9223372036854775808)) (.add (.add (.add (.mul (.get 0 (.mul (.c 4) (.v 1)) 0) (.get 2 (.c 0) 0)) (.mul (.get 0 (.add (.mul (.c 4) (.v 1)) (.c 1)) 0) (.get 2 (.c 1) 0))) (.mul (.get 0 (.add (.mul (.c 4) (.v 1)) (.c 2)) 0) (.get 2 (.c 2) 0))) (.mul (.get 0 (.add (.mul (.c 4) (.v 1)) (.c 3)) 0) (.get 2 (.c 3) 0)))) (.le (.add (.add (.add (.mul (.get 0 (.mul (.c 4) (.v 1)) 0) (.get 2 (.c 0) 0)) (.mul (.get 0 (.add (.mul (.c 4) (.v 1)) (.c 1)) 0) (.get 2 (.c 1) 0))) (.mul (.get 0 (.add (.mul (.c 4) (.v 1)) (.c 2)) 0) (.get 2 (.c 2) 0))) (.mul (.get 0 (.add (.mul (.c 4) (.v 1)) (.c 3)) 0) (.get 2 (.c 3) 0))) (.c 9223372036854775807)))) (
                              .ret [.i (.ediv (.add (.add (.add (.mul (.get 0 (.mul (.c 4) (.v 1)) 0) (.get 2 (.c 0) 0)) (.mul (.get 0 (.add (.mul (.c 4) (.v 1)) (.c 1)) 0) (.get 2 (.c 1) 0))) (.mul (.get 0 (.add (.mul (.c 4) (.v 1)) (.c 2)) 0) (.get 2 (.c 2) 0))) (.mul (.get 0 (.add (.mul (.c 4) (.v 1)) (.c 3)) 0) (.get 2 (.c 3) 0))) 65536)]))))))))))))))))))))))))))))
theorem is40 : prune [] (execFn Try.prog cfg40 Try.f40 sg40 3000) = tree40 := by kernel_rfl
end Go.Proofs.Ytnpmcfjagijkgaa.Trees

/- THE FUNCTIONS' TREES, written by the program Gen.lean out of the given translation; each is checked by the kernel. -/
import Derived.Test.YtfdpnmohpdekiaaSxG1
import Derived.Test.YtfdpnmohpdekiaaChecked
import Derived.KernelRfl
set_option maxRecDepth 100000
set_option linter.unusedVariables false
namespace Go.Proofs.Ytfdpnmohpdekiaa.Trees
open Go.Sx
def sg3 : Sig := ⟨[.one (.s 43 [.i .i64, .i .i64, .i .i64])], [.one (.c (.b))]⟩
def sg4 : Sig := ⟨[.one (.c (.b)), .one (.c (.i .i64))], [.one (.c (.b))]⟩
def sg5 : Sig := ⟨[.one (.s 3 [.i .i64]), .one (.c (.i .i64))], [.one (.c (.b))]⟩
def sg6 : Sig := ⟨[], [.one (.c (.b))]⟩
def sg8 : Sig := ⟨[], []⟩
def sg10 : Sig := ⟨[.one (.s 43 [.i .i64, .i .i64, .i .i64])], [.one (.s 3 [.i .i64]), .one (.c (.b)), .one (.c (.i .i64))]⟩
def sg11 : Sig := ⟨[.one (.s 3 [.i .i64]), .one (.s 3 [.i .i64])], [.one (.c (.b))]⟩
def sg12 : Sig := ⟨[], []⟩
def sg13 : Sig := ⟨[.one (.c (.b)), .one (.c (.i .i64))], []⟩
def sg15 : Sig := ⟨[.one (.c (.i .i64))], []⟩
def sg16 : Sig := ⟨[.one (.c (.i .i64))], []⟩
def sg17 : Sig := ⟨[.one (.c (.i .i64))], []⟩
def sg18 : Sig := ⟨[], []⟩
def sg19 : Sig := ⟨[], []⟩
def sg20 : Sig := ⟨[], []⟩
def sg21 : Sig := ⟨[], []⟩
def sg22 : Sig := ⟨[], []⟩
def sigs : List (FuncId × Sig) := [(3, sg3), (4, sg4), (5, sg5), (6, sg6), (8, sg8), (10, sg10), (11, sg11), (12, sg12), (13, sg13), (15, sg15), (16, sg16), (17, sg17), (18, sg18), (19, sg19), (20, sg20), (21, sg21), (22, sg22)]
/-- rastrum.rastrumlaw03.same -/
def cfg11 : Cfg := ⟨sigsOf sigs, false, [(4, ⟨[], []⟩)], []⟩
def tree11 : Tree :=
  .ite (.not (.eq (.len 0) (.len 1))) (
   .ret [.b (.c false)]) (
   .loop 4 [.b (.c false), .i (.c 0)] [.c (.b), .c (.i .i64)] 450 (
    .ite (.lt (.v 451) (.len 0)) (
     .ev (.need (.le (.c 0) (.v 451))) (
      .ev (.need (.lt (.v 451) (.len 1))) (
       .ite (.not (.eq (.get 0 (.v 451) 0) (.get 1 (.v 451) 0))) (
        .ret [.b (.c false)]) (
        .ev (.need (.and (.le (.c (-9223372036854775808)) (.add (.v 451) (.c 1))) (.le (.add (.v 451) (.c 1)) (.c 9223372036854775807)))) (
         .again 4 [.b (.v 450), .i (.add (.v 451) (.c 1))]))))) (
     .ret [.b (.c true)])))
theorem is11 : prune [] (execFn Try.prog cfg11 Try.f11 sg11 400) = tree11 := by kernel_rfl
end Go.Proofs.Ytfdpnmohpdekiaa.Trees

/- THE FUNCTIONS' TREES, written by the program Gen.lean out of the given translation; each is checked by the kernel. -/
import Derived.Test.YtmcgdadieklbjaaSxG1
import Derived.Test.YtmcgdadieklbjaaChecked
import Derived.KernelRfl
set_option maxRecDepth 100000
set_option linter.unusedVariables false
namespace Go.Proofs.Ytmcgdadieklbjaa.Trees
open Go.Sx
def sg3 : Sig := ⟨[.agg [.c (.i .i64), .c (.i .i64), .c (.i .i64), .c (.i .i64), .c (.i .i64), .c (.i .i64), .c (.i .i64), .c (.i .i64)], .agg [.c (.i .i64), .c (.i .i64), .c (.i .i64), .c (.i .i64)], .one (.c (.i .i64))], [.one (.c (.b))]⟩
def sg4 : Sig := ⟨[.agg [.c (.i .i64), .c (.i .i64), .c (.i .i64), .c (.i .i64), .c (.i .i64), .c (.i .i64), .c (.i .i64), .c (.i .i64)], .agg [.c (.i .i64), .c (.i .i64), .c (.i .i64), .c (.i .i64)]], [.one (.c (.b))]⟩
def sg5 : Sig := ⟨[.agg [.c (.i .i64), .c (.i .i64), .c (.i .i64), .c (.i .i64), .c (.i .i64), .c (.i .i64), .c (.i .i64), .c (.i .i64)], .agg [.c (.i .i64), .c (.i .i64), .c (.i .i64), .c (.i .i64)], .one (.c (.i .u8))], [.one (.c (.b))]⟩
def sg6 : Sig := ⟨[.agg [.c (.i .i64), .c (.i .i64), .c (.i .i64), .c (.i .i64), .c (.i .i64), .c (.i .i64), .c (.i .i64), .c (.i .i64), .c (.i .i64), .c (.i .i64), .c (.i .i64), .c (.i .i64), .c (.i .i16), .c (.i .i16)]], [.one (.c (.b))]⟩
def sg7 : Sig := ⟨[.agg [.c (.i .i64), .c (.i .i64), .c (.i .i64), .c (.i .i64), .c (.i .i64), .c (.i .i64), .c (.i .i64), .c (.i .i64)], .agg [.c (.i .i64), .c (.i .i64), .c (.i .i64), .c (.i .i64)], .one (.c (.i .u16))], [.one (.c (.b))]⟩
def sg8 : Sig := ⟨[.agg [.c (.i .i64), .c (.i .i64), .c (.i .i64), .c (.i .i64), .c (.i .i64), .c (.i .i64), .c (.i .i64), .c (.i .i64)], .agg [.c (.i .i64), .c (.i .i64), .c (.i .i64), .c (.i .i64)]], [.agg [.c (.i .i64), .c (.i .i64), .c (.i .i64), .c (.i .i64), .c (.i .i64), .c (.i .i64), .c (.i .i64)], .one (.c (.i .i64))]⟩
def sg9 : Sig := ⟨[.agg [.c (.i .i64), .c (.i .i64), .c (.i .i64), .c (.i .i64), .c (.i .i64), .c (.i .i64), .c (.i .i64), .c (.i .i64)], .agg [.c (.i .i64), .c (.i .i64), .c (.i .i64), .c (.i .i64)]], [.agg [.c (.i .i64), .c (.i .i64), .c (.i .i64), .c (.i .i64), .c (.i .i64), .c (.i .i64), .c (.i .i64)], .one (.c (.i .i64))]⟩
def sg10 : Sig := ⟨[], [.one (.c (.b))]⟩
def sg11 : Sig := ⟨[.agg [.c (.i .i64), .c (.i .i64), .c (.i .i64), .c (.i .i64)]], [.one (.c (.b))]⟩
def sg12 : Sig := ⟨[.agg [.c (.i .i64), .c (.i .i64), .c (.i .i64), .c (.i .i64)]], [.one (.c (.b))]⟩
def sg13 : Sig := ⟨[.one (.c (.i .i64))], [.one (.c (.i .i64))]⟩
def sg14 : Sig := ⟨[.one (.c (.i .i64))], [.one (.c (.i .i64))]⟩
def sg15 : Sig := ⟨[.agg [.c (.i .i64), .c (.i .i64), .c (.i .i64), .c (.i .i64), .c (.i .i64), .c (.i .i64), .c (.i .i64), .c (.i .i64)]], [.one (.c (.b))]⟩
def sg16 : Sig := ⟨[.one (.c (.i .i64)), .one (.c (.i .i64))], [.one (.c (.i .i64))]⟩
def sg17 : Sig := ⟨[.one (.c (.i .i64)), .one (.c (.i .i64)), .one (.c (.i .i64))], [.one (.c (.b))]⟩
def sg18 : Sig := ⟨[.one (.c (.i .i64)), .one (.c (.i .i64))], [.one (.c (.i .i64))]⟩
def sigs : List (FuncId × Sig) := [(3, sg3), (4, sg4), (5, sg5), (6, sg6), (7, sg7), (8, sg8), (9, sg9), (10, sg10), (11, sg11), (12, sg12), (13, sg13), (14, sg14), (15, sg15), (16, sg16), (17, sg17), (18, sg18)]
/-- rastrum.rastrumlaw11.ViewTells -/
def cfg3 : Cfg := ⟨sigsOf sigs, false, []⟩
def tree3 : Tree :=
  .ev (.call 8 (.c true) [.i (.v 0), .i (.v 1), .i (.v 2), .i (.v 3), .i (.v 4), .i (.v 5), .i (.v 6), .i (.v 7), .i (.v 8), .i (.v 9), .i (.v 10), .i (.v 11)] [.agg [.c (.i .i64), .c (.i .i64), .c (.i .i64), .c (.i .i64), .c (.i .i64), .c (.i .i64), .c (.i .i64)], .one (.c (.i .i64))] 333) (
   .ev (.call 9 (.c true) [.i (.v 0), .i (.v 1), .i (.v 2), .i (.v 3), .i (.v 4), .i (.v 5), .i (.v 6), .i (.v 7), .i (.v 8), .i (.v 9), .i (.v 10), .i (.v 11)] [.agg [.c (.i .i64), .c (.i .i64), .c (.i .i64), .c (.i .i64), .c (.i .i64), .c (.i .i64), .c (.i .i64)], .one (.c (.i .i64))] 909) (
    .ev (.call 10 (.c true) [] [.one (.c (.b))] 1357) (
     .ev (.call 11 (.and (.and (.v 1357) (.and (.eq (.v 333) (.v 909)) (.and (.eq (.v 334) (.v 910)) (.and (.eq (.v 335) (.v 911)) (.and (.eq (.v 336) (.v 912)) (.and (.eq (.v 337) (.v 913)) (.and (.eq (.v 338) (.v 914)) (.eq (.v 339) (.v 915))))))))) (.eq (.v 340) (.v 916))) [.i (.v 8), .i (.v 9), .i (.v 10), .i (.v 11)] [.one (.c (.b))] 2189) (
      .ev (.call 12 (.and (.and (.v 1357) (.and (.eq (.v 333) (.v 909)) (.and (.eq (.v 334) (.v 910)) (.and (.eq (.v 335) (.v 911)) (.and (.eq (.v 336) (.v 912)) (.and (.eq (.v 337) (.v 913)) (.and (.eq (.v 338) (.v 914)) (.eq (.v 339) (.v 915))))))))) (.eq (.v 340) (.v 916))) [.i (.v 8), .i (.v 9), .i (.v 10), .i (.v 11)] [.one (.c (.b))] 2317) (
       .ev (.call 13 (.and (.and (.and (.v 1357) (.and (.eq (.v 333) (.v 909)) (.and (.eq (.v 334) (.v 910)) (.and (.eq (.v 335) (.v 911)) (.and (.eq (.v 336) (.v 912)) (.and (.eq (.v 337) (.v 913)) (.and (.eq (.v 338) (.v 914)) (.eq (.v 339) (.v 915))))))))) (.eq (.v 340) (.v 916))) (.iff (.v 2189) (.v 2317))) [.i (.v 12)] [.one (.c (.i .i64))] 2637) (
        .ev (.call 14 (.and (.and (.and (.v 1357) (.and (.eq (.v 333) (.v 909)) (.and (.eq (.v 334) (.v 910)) (.and (.eq (.v 335) (.v 911)) (.and (.eq (.v 336) (.v 912)) (.and (.eq (.v 337) (.v 913)) (.and (.eq (.v 338) (.v 914)) (.eq (.v 339) (.v 915))))))))) (.eq (.v 340) (.v 916))) (.iff (.v 2189) (.v 2317))) [.i (.v 12)] [.one (.c (.i .i64))] 2765) (
         .ret [.b (.and (.and (.and (.and (.v 1357) (.and (.eq (.v 333) (.v 909)) (.and (.eq (.v 334) (.v 910)) (.and (.eq (.v 335) (.v 911)) (.and (.eq (.v 336) (.v 912)) (.and (.eq (.v 337) (.v 913)) (.and (.eq (.v 338) (.v 914)) (.eq (.v 339) (.v 915))))))))) (.eq (.v 340) (.v 916))) (.iff (.v 2189) (.v 2317))) (.eq (.v 2637) (.v 2765)))])))))))
theorem is3 : prune [] (execFn Try.prog cfg3 Try.f3 sg3 400) = tree3 := by kernel_rfl
/-- rastrum.rastrumlaw11.ViewIn -/
def cfg4 : Cfg := ⟨sigsOf sigs, false, []⟩
def tree4 : Tree :=
  .ev (.call 8 (.c true) [.i (.v 0), .i (.v 1), .i (.v 2), .i (.v 3), .i (.v 4), .i (.v 5), .i (.v 6), .i (.v 7), .i (.v 8), .i (.v 9), .i (.v 10), .i (.v 11)] [.agg [.c (.i .i64), .c (.i .i64), .c (.i .i64), .c (.i .i64), .c (.i .i64), .c (.i .i64), .c (.i .i64)], .one (.c (.i .i64))] 332) (
   .ite (.not (.eq (.v 339) (.c 0))) (
    .ev (.call 10 (.c true) [] [.one (.c (.b))] 908) (
     .ret [.b (.and (.v 908) (.and (.eq (.v 332) (.c 0)) (.and (.eq (.v 333) (.c 0)) (.and (.eq (.v 334) (.c 0)) (.and (.eq (.v 335) (.c 0)) (.and (.eq (.v 336) (.c 0)) (.and (.eq (.v 337) (.c 0)) (.eq (.v 338) (.c 0)))))))))])) (
    .ev (.need (.and (.le (.c (-9223372036854775808)) (.sub (.c 0) (.v 3))) (.le (.sub (.c 0) (.v 3)) (.c 9223372036854775807)))) (
     .ev (.need (.or (.not (.not (.or (.lt (.v 0) (.sub (.c 0) (.v 3))) (.lt (.v 3) (.v 0))))) (.and (.le (.c (-9223372036854775808)) (.sub (.c 0) (.v 3))) (.le (.sub (.c 0) (.v 3)) (.c 9223372036854775807))))) (
      .ite (.or (.or (.or (.lt (.v 0) (.sub (.c 0) (.v 3))) (.lt (.v 3) (.v 0))) (.lt (.v 1) (.sub (.c 0) (.v 3)))) (.lt (.v 3) (.v 1))) (
       .ev (.call 10 (.c true) [] [.one (.c (.b))] 2700) (
        .ret [.b (.v 2700)])) (
       .ev (.need (.and (.le (.c (-9223372036854775808)) (.mul (.c 256) (.v 8))) (.le (.mul (.c 256) (.v 8)) (.c 9223372036854775807)))) (
        .ev (.need (.or (.not (.le (.mul (.c 256) (.v 8)) (.v 332))) (.and (.le (.c (-9223372036854775808)) (.add (.v 8) (.v 10))) (.le (.add (.v 8) (.v 10)) (.c 9223372036854775807))))) (
         .ev (.need (.or (.not (.le (.mul (.c 256) (.v 8)) (.v 332))) (.and (.le (.c (-9223372036854775808)) (.mul (.c 256) (.add (.v 8) (.v 10)))) (.le (.mul (.c 256) (.add (.v 8) (.v 10))) (.c 9223372036854775807))))) (
          .ev (.need (.or (.not (.and (.le (.mul (.c 256) (.v 8)) (.v 332)) (.le (.v 332) (.mul (.c 256) (.add (.v 8) (.v 10)))))) (.and (.le (.c (-9223372036854775808)) (.mul (.c 256) (.v 9))) (.le (.mul (.c 256) (.v 9)) (.c 9223372036854775807))))) (
           .ev (.need (.or (.not (.and (.and (.le (.mul (.c 256) (.v 8)) (.v 332)) (.le (.v 332) (.mul (.c 256) (.add (.v 8) (.v 10))))) (.le (.mul (.c 256) (.v 9)) (.v 333)))) (.and (.le (.c (-9223372036854775808)) (.add (.v 9) (.v 11))) (.le (.add (.v 9) (.v 11)) (.c 9223372036854775807))))) (
            .ev (.need (.or (.not (.and (.and (.le (.mul (.c 256) (.v 8)) (.v 332)) (.le (.v 332) (.mul (.c 256) (.add (.v 8) (.v 10))))) (.le (.mul (.c 256) (.v 9)) (.v 333)))) (.and (.le (.c (-9223372036854775808)) (.mul (.c 256) (.add (.v 9) (.v 11)))) (.le (.mul (.c 256) (.add (.v 9) (.v 11))) (.c 9223372036854775807))))) (
             .ev (.call 10 (.c true) [] [.one (.c (.b))] 5068) (
              .ev (.need (.or (.not (.and (.v 5068) (.and (.and (.and (.le (.mul (.c 256) (.v 8)) (.v 332)) (.le (.v 332) (.mul (.c 256) (.add (.v 8) (.v 10))))) (.le (.mul (.c 256) (.v 9)) (.v 333))) (.le (.v 333) (.mul (.c 256) (.add (.v 9) (.v 11))))))) (.and (.le (.c (-9223372036854775808)) (.sub (.c 0) (.v 3))) (.le (.sub (.c 0) (.v 3)) (.c 9223372036854775807))))) (
               .ret [.b (.and (.and (.and (.and (.and (.v 5068) (.and (.and (.and (.le (.mul (.c 256) (.v 8)) (.v 332)) (.le (.v 332) (.mul (.c 256) (.add (.v 8) (.v 10))))) (.le (.mul (.c 256) (.v 9)) (.v 333))) (.le (.v 333) (.mul (.c 256) (.add (.v 9) (.v 11)))))) (.or (.lt (.sub (.c 0) (.v 3)) (.v 2)) (.eq (.v 334) (.c 0)))) (.or (.lt (.v 2) (.v 3)) (.eq (.v 334) (.c 16777215)))) (.le (.c 0) (.v 334))) (.le (.v 334) (.c 16777215)))])))))))))))))
theorem is4 : prune [] (execFn Try.prog cfg4 Try.f4 sg4 400) = tree4 := by kernel_rfl
/-- rastrum.rastrumlaw11.ViewScales -/
def cfg5 : Cfg := ⟨sigsOf sigs, false, []⟩
def tree5 : Tree :=
  .ev (.need (.and (.le (.c (-9223372036854775808)) (.v 12)) (.le (.v 12) (.c 9223372036854775807)))) (
   .ev (.need (.and (.le (.c (-9223372036854775808)) (.add (.c 1) (.v 12))) (.le (.add (.c 1) (.v 12)) (.c 9223372036854775807)))) (
    .ev (.need (.ne0 (.add (.c 1) (.v 12)))) (
     .ev (.need (.and (.le (.c (-9223372036854775808)) (.tdiv (.c 68719476736) (.add (.c 1) (.v 12)))) (.le (.tdiv (.c 68719476736) (.add (.c 1) (.v 12))) (.c 9223372036854775807)))) (
      .ev (.need (.or (.not (.not (.lt (.tdiv (.c 68719476736) (.add (.c 1) (.v 12))) (.v 0)))) (.ne0 (.add (.c 1) (.v 12))))) (
       .ev (.need (.or (.not (.not (.lt (.tdiv (.c 68719476736) (.add (.c 1) (.v 12))) (.v 0)))) (.and (.le (.c (-9223372036854775808)) (.tdiv (.c (-68719476736)) (.add (.c 1) (.v 12)))) (.le (.tdiv (.c (-68719476736)) (.add (.c 1) (.v 12))) (.c 9223372036854775807))))) (
        .ev (.need (.or (.not (.not (.or (.lt (.tdiv (.c 68719476736) (.add (.c 1) (.v 12))) (.v 0)) (.lt (.v 0) (.tdiv (.c (-68719476736)) (.add (.c 1) (.v 12))))))) (.ne0 (.add (.c 1) (.v 12))))) (
         .ev (.need (.or (.not (.not (.or (.lt (.tdiv (.c 68719476736) (.add (.c 1) (.v 12))) (.v 0)) (.lt (.v 0) (.tdiv (.c (-68719476736)) (.add (.c 1) (.v 12))))))) (.and (.le (.c (-9223372036854775808)) (.tdiv (.c 68719476736) (.add (.c 1) (.v 12)))) (.le (.tdiv (.c 68719476736) (.add (.c 1) (.v 12))) (.c 9223372036854775807))))) (
          .ev (.need (.or (.not (.not (.or (.or (.lt (.tdiv (.c 68719476736) (.add (.c 1) (.v 12))) (.v 0)) (.lt (.v 0) (.tdiv (.c (-68719476736)) (.add (.c 1) (.v 12))))) (.lt (.tdiv (.c 68719476736) (.add (.c 1) (.v 12))) (.v 1))))) (.ne0 (.add (.c 1) (.v 12))))) (
           .ev (.need (.or (.not (.not (.or (.or (.lt (.tdiv (.c 68719476736) (.add (.c 1) (.v 12))) (.v 0)) (.lt (.v 0) (.tdiv (.c (-68719476736)) (.add (.c 1) (.v 12))))) (.lt (.tdiv (.c 68719476736) (.add (.c 1) (.v 12))) (.v 1))))) (.and (.le (.c (-9223372036854775808)) (.tdiv (.c (-68719476736)) (.add (.c 1) (.v 12)))) (.le (.tdiv (.c (-68719476736)) (.add (.c 1) (.v 12))) (.c 9223372036854775807))))) (
            .ev (.need (.or (.not (.not (.or (.or (.or (.lt (.tdiv (.c 68719476736) (.add (.c 1) (.v 12))) (.v 0)) (.lt (.v 0) (.tdiv (.c (-68719476736)) (.add (.c 1) (.v 12))))) (.lt (.tdiv (.c 68719476736) (.add (.c 1) (.v 12))) (.v 1))) (.lt (.v 1) (.tdiv (.c (-68719476736)) (.add (.c 1) (.v 12))))))) (.ne0 (.add (.c 1) (.v 12))))) (
             .ev (.need (.or (.not (.not (.or (.or (.or (.lt (.tdiv (.c 68719476736) (.add (.c 1) (.v 12))) (.v 0)) (.lt (.v 0) (.tdiv (.c (-68719476736)) (.add (.c 1) (.v 12))))) (.lt (.tdiv (.c 68719476736) (.add (.c 1) (.v 12))) (.v 1))) (.lt (.v 1) (.tdiv (.c (-68719476736)) (.add (.c 1) (.v 12))))))) (.and (.le (.c (-9223372036854775808)) (.tdiv (.c 68719476736) (.add (.c 1) (.v 12)))) (.le (.tdiv (.c 68719476736) (.add (.c 1) (.v 12))) (.c 9223372036854775807))))) (
              .ev (.need (.or (.not (.not (.or (.or (.or (.or (.lt (.tdiv (.c 68719476736) (.add (.c 1) (.v 12))) (.v 0)) (.lt (.v 0) (.tdiv (.c (-68719476736)) (.add (.c 1) (.v 12))))) (.lt (.tdiv (.c 68719476736) (.add (.c 1) (.v 12))) (.v 1))) (.lt (.v 1) (.tdiv (.c (-68719476736)) (.add (.c 1) (.v 12))))) (.lt (.tdiv (.c 68719476736) (.add (.c 1) (.v 12))) (.v 2))))) (.ne0 (.add (.c 1) (.v 12))))) (
               .ev (.need (.or (.not (.not (.or (.or (.or (.or (.lt (.tdiv (.c 68719476736) (.add (.c 1) (.v 12))) (.v 0)) (.lt (.v 0) (.tdiv (.c (-68719476736)) (.add (.c 1) (.v 12))))) (.lt (.tdiv (.c 68719476736) (.add (.c 1) (.v 12))) (.v 1))) (.lt (.v 1) (.tdiv (.c (-68719476736)) (.add (.c 1) (.v 12))))) (.lt (.tdiv (.c 68719476736) (.add (.c 1) (.v 12))) (.v 2))))) (.and (.le (.c (-9223372036854775808)) (.tdiv (.c (-68719476736)) (.add (.c 1) (.v 12)))) (.le (.tdiv (.c (-68719476736)) (.add (.c 1) (.v 12))) (.c 9223372036854775807))))) (
                .ev (.need (.or (.not (.not (.or (.or (.or (.or (.or (.lt (.tdiv (.c 68719476736) (.add (.c 1) (.v 12))) (.v 0)) (.lt (.v 0) (.tdiv (.c (-68719476736)) (.add (.c 1) (.v 12))))) (.lt (.tdiv (.c 68719476736) (.add (.c 1) (.v 12))) (.v 1))) (.lt (.v 1) (.tdiv (.c (-68719476736)) (.add (.c 1) (.v 12))))) (.lt (.tdiv (.c 68719476736) (.add (.c 1) (.v 12))) (.v 2))) (.lt (.v 2) (.tdiv (.c (-68719476736)) (.add (.c 1) (.v 12))))))) (.ne0 (.add (.c 1) (.v 12))))) (
                 .ev (.need (.or (.not (.not (.or (.or (.or (.or (.or (.lt (.tdiv (.c 68719476736) (.add (.c 1) (.v 12))) (.v 0)) (.lt (.v 0) (.tdiv (.c (-68719476736)) (.add (.c 1) (.v 12))))) (.lt (.tdiv (.c 68719476736) (.add (.c 1) (.v 12))) (.v 1))) (.lt (.v 1) (.tdiv (.c (-68719476736)) (.add (.c 1) (.v 12))))) (.lt (.tdiv (.c 68719476736) (.add (.c 1) (.v 12))) (.v 2))) (.lt (.v 2) (.tdiv (.c (-68719476736)) (.add (.c 1) (.v 12))))))) (.and (.le (.c (-9223372036854775808)) (.tdiv (.c 68719476736) (.add (.c 1) (.v 12)))) (.le (.tdiv (.c 68719476736) (.add (.c 1) (.v 12))) (.c 9223372036854775807))))) (
                  .ite (.or (.or (.or (.or (.or (.or (.or (.lt (.tdiv (.c 68719476736) (.add (.c 1) (.v 12))) (.v 0)) (.lt (.v 0) (.tdiv (.c (-68719476736)) (.add (.c 1) (.v 12))))) (.lt (.tdiv (.c 68719476736) (.add (.c 1) (.v 12))) (.v 1))) (.lt (.v 1) (.tdiv (.c (-68719476736)) (.add (.c 1) (.v 12))))) (.lt (.tdiv (.c 68719476736) (.add (.c 1) (.v 12))) (.v 2))) (.lt (.v 2) (.tdiv (.c (-68719476736)) (.add (.c 1) (.v 12))))) (.lt (.tdiv (.c 68719476736) (.add (.c 1) (.v 12))) (.v 3))) (.lt (.v 3) (.c 1))) (
                   .ev (.call 10 (.c true) [] [.one (.c (.b))] 3789) (
                    .ret [.b (.v 3789)])) (
                   .ev (.call 8 (.c true) [.i (.v 0), .i (.v 1), .i (.v 2), .i (.v 3), .i (.v 4), .i (.v 5), .i (.v 6), .i (.v 7), .i (.v 8), .i (.v 9), .i (.v 10), .i (.v 11)] [.agg [.c (.i .i64), .c (.i .i64), .c (.i .i64), .c (.i .i64), .c (.i .i64), .c (.i .i64), .c (.i .i64)], .one (.c (.i .i64))] 3917) (
                    .ev (.need (.and (.le (.c (-9223372036854775808)) (.mul (.add (.c 1) (.v 12)) (.v 0))) (.le (.mul (.add (.c 1) (.v 12)) (.v 0)) (.c 9223372036854775807)))) (
                     .ev (.need (.and (.le (.c (-9223372036854775808)) (.mul (.add (.c 1) (.v 12)) (.v 1))) (.le (.mul (.add (.c 1) (.v 12)) (.v 1)) (.c 9223372036854775807)))) (
                      .ev (.need (.and (.le (.c (-9223372036854775808)) (.mul (.add (.c 1) (.v 12)) (.v 2))) (.le (.mul (.add (.c 1) (.v 12)) (.v 2)) (.c 9223372036854775807)))) (
                       .ev (.need (.and (.le (.c (-9223372036854775808)) (.mul (.add (.c 1) (.v 12)) (.v 3))) (.le (.mul (.add (.c 1) (.v 12)) (.v 3)) (.c 9223372036854775807)))) (
                        .ev (.call 8 (.c true) [.i (.mul (.add (.c 1) (.v 12)) (.v 0)), .i (.mul (.add (.c 1) (.v 12)) (.v 1)), .i (.mul (.add (.c 1) (.v 12)) (.v 2)), .i (.mul (.add (.c 1) (.v 12)) (.v 3)), .i (.v 4), .i (.v 5), .i (.v 6), .i (.v 7), .i (.v 8), .i (.v 9), .i (.v 10), .i (.v 11)] [.agg [.c (.i .i64), .c (.i .i64), .c (.i .i64), .c (.i .i64), .c (.i .i64), .c (.i .i64), .c (.i .i64)], .one (.c (.i .i64))] 5645) (
                         .ev (.call 10 (.c true) [] [.one (.c (.b))] 6093) (
                          .ret [.b (.and (.and (.v 6093) (.and (.eq (.v 3917) (.v 5645)) (.and (.eq (.v 3918) (.v 5646)) (.and (.eq (.v 3919) (.v 5647)) (.and (.eq (.v 3920) (.v 5648)) (.and (.eq (.v 3921) (.v 5649)) (.and (.eq (.v 3922) (.v 5650)) (.eq (.v 3923) (.v 5651))))))))) (.eq (.v 3924) (.v 5652)))]))))))))))))))))))))))))
theorem is5 : prune [] (execFn Try.prog cfg5 Try.f5 sg5 400) = tree5 := by kernel_rfl
/-- rastrum.rastrumlaw11.ViewMoves -/
def cfg6 : Cfg := ⟨sigsOf sigs, false, []⟩
def tree6 : Tree :=
  .ev (.need (.and (.le (.c (-9223372036854775808)) (.v 12)) (.le (.v 12) (.c 9223372036854775807)))) (
   .ev (.need (.and (.le (.c (-9223372036854775808)) (.v 13)) (.le (.v 13) (.c 9223372036854775807)))) (
    .ev (.call 8 (.c true) [.i (.v 0), .i (.v 1), .i (.v 2), .i (.v 3), .i (.v 4), .i (.v 5), .i (.v 6), .i (.v 7), .i (.v 8), .i (.v 9), .i (.v 10), .i (.v 11)] [.agg [.c (.i .i64), .c (.i .i64), .c (.i .i64), .c (.i .i64), .c (.i .i64), .c (.i .i64), .c (.i .i64)], .one (.c (.i .i64))] 1806) (
     .ev (.call 8 (.c true) [.i (.v 0), .i (.v 1), .i (.v 2), .i (.v 3), .i (.v 4), .i (.v 5), .i (.v 6), .i (.v 7), .i (.tmod (.v 12) (.c 8193)), .i (.tmod (.v 13) (.c 8193)), .i (.v 10), .i (.v 11)] [.agg [.c (.i .i64), .c (.i .i64), .c (.i .i64), .c (.i .i64), .c (.i .i64), .c (.i .i64), .c (.i .i64)], .one (.c (.i .i64))] 2382) (
      .ite (.or (.not (.eq (.v 1813) (.c 0))) (.not (.eq (.v 2389) (.c 0)))) (
       .ev (.call 10 (.c true) [] [.one (.c (.b))] 3214) (
        .ret [.b (.v 3214)])) (
       .ev (.call 10 (.c true) [] [.one (.c (.b))] 3214) (
        .ev (.need (.or (.not (.v 3214)) (.and (.le (.c (-9223372036854775808)) (.sub (.v 2382) (.v 1806))) (.le (.sub (.v 2382) (.v 1806)) (.c 9223372036854775807))))) (
         .ev (.need (.or (.not (.v 3214)) (.and (.le (.c (-9223372036854775808)) (.sub (.tmod (.v 12) (.c 8193)) (.v 8))) (.le (.sub (.tmod (.v 12) (.c 8193)) (.v 8)) (.c 9223372036854775807))))) (
          .ev (.need (.or (.not (.v 3214)) (.and (.le (.c (-9223372036854775808)) (.mul (.c 256) (.sub (.tmod (.v 12) (.c 8193)) (.v 8)))) (.le (.mul (.c 256) (.sub (.tmod (.v 12) (.c 8193)) (.v 8))) (.c 9223372036854775807))))) (
           .ev (.need (.or (.not (.and (.v 3214) (.eq (.sub (.v 2382) (.v 1806)) (.mul (.c 256) (.sub (.tmod (.v 12) (.c 8193)) (.v 8)))))) (.and (.le (.c (-9223372036854775808)) (.sub (.v 2383) (.v 1807))) (.le (.sub (.v 2383) (.v 1807)) (.c 9223372036854775807))))) (
            .ev (.need (.or (.not (.and (.v 3214) (.eq (.sub (.v 2382) (.v 1806)) (.mul (.c 256) (.sub (.tmod (.v 12) (.c 8193)) (.v 8)))))) (.and (.le (.c (-9223372036854775808)) (.sub (.tmod (.v 13) (.c 8193)) (.v 9))) (.le (.sub (.tmod (.v 13) (.c 8193)) (.v 9)) (.c 9223372036854775807))))) (
             .ev (.need (.or (.not (.and (.v 3214) (.eq (.sub (.v 2382) (.v 1806)) (.mul (.c 256) (.sub (.tmod (.v 12) (.c 8193)) (.v 8)))))) (.and (.le (.c (-9223372036854775808)) (.mul (.c 256) (.sub (.tmod (.v 13) (.c 8193)) (.v 9)))) (.le (.mul (.c 256) (.sub (.tmod (.v 13) (.c 8193)) (.v 9))) (.c 9223372036854775807))))) (
              .ret [.b (.and (.and (.and (.and (.and (.v 3214) (.eq (.sub (.v 2382) (.v 1806)) (.mul (.c 256) (.sub (.tmod (.v 12) (.c 8193)) (.v 8))))) (.eq (.sub (.v 2383) (.v 1807)) (.mul (.c 256) (.sub (.tmod (.v 13) (.c 8193)) (.v 9))))) (.eq (.v 1808) (.v 2384))) (.and (.eq (.v 1809) (.v 2385)) (.and (.eq (.v 1810) (.v 2386)) (.and (.eq (.v 1811) (.v 2387)) (.eq (.v 1812) (.v 2388)))))) (.and (.eq (.v 1809) (.v 4)) (.and (.eq (.v 1810) (.v 5)) (.and (.eq (.v 1811) (.v 6)) (.eq (.v 1812) (.v 7))))))]))))))))))))
theorem is6 : prune [] (execFn Try.prog cfg6 Try.f6 sg6 400) = tree6 := by kernel_rfl
/-- rastrum.rastrumlaw11.ViewRises -/
def cfg7 : Cfg := ⟨sigsOf sigs, false, []⟩
def tree7 : Tree :=
  .ite (.or (.or (.lt (.c 68719411200) (.v 0)) (.lt (.c 68719411200) (.v 2))) (.lt (.v 1) (.c (-68719411200)))) (
   .ev (.call 10 (.c true) [] [.one (.c (.b))] 1229) (
    .ret [.b (.v 1229)])) (
   .ev (.need (.and (.le (.c (-9223372036854775808)) (.v 12)) (.le (.v 12) (.c 9223372036854775807)))) (
    .ev (.need (.and (.le (.c (-9223372036854775808)) (.add (.v 0) (.v 12))) (.le (.add (.v 0) (.v 12)) (.c 9223372036854775807)))) (
     .ev (.need (.and (.le (.c (-9223372036854775808)) (.sub (.v 1) (.v 12))) (.le (.sub (.v 1) (.v 12)) (.c 9223372036854775807)))) (
      .ev (.need (.and (.le (.c (-9223372036854775808)) (.add (.v 2) (.v 12))) (.le (.add (.v 2) (.v 12)) (.c 9223372036854775807)))) (
       .ev (.call 8 (.c true) [.i (.v 0), .i (.v 1), .i (.v 2), .i (.v 3), .i (.v 4), .i (.v 5), .i (.v 6), .i (.v 7), .i (.v 8), .i (.v 9), .i (.v 10), .i (.v 11)] [.agg [.c (.i .i64), .c (.i .i64), .c (.i .i64), .c (.i .i64), .c (.i .i64), .c (.i .i64), .c (.i .i64)], .one (.c (.i .i64))] 2701) (
        .ev (.call 8 (.c true) [.i (.add (.v 0) (.v 12)), .i (.sub (.v 1) (.v 12)), .i (.add (.v 2) (.v 12)), .i (.v 3), .i (.v 4), .i (.v 5), .i (.v 6), .i (.v 7), .i (.v 8), .i (.v 9), .i (.v 10), .i (.v 11)] [.agg [.c (.i .i64), .c (.i .i64), .c (.i .i64), .c (.i .i64), .c (.i .i64), .c (.i .i64), .c (.i .i64)], .one (.c (.i .i64))] 3277) (
         .ite (.or (.not (.eq (.v 2708) (.c 0))) (.not (.eq (.v 3284) (.c 0)))) (
          .ev (.call 10 (.c true) [] [.one (.c (.b))] 4109) (
           .ret [.b (.v 4109)])) (
          .ev (.call 10 (.c true) [] [.one (.c (.b))] 4109) (
           .ret [.b (.and (.and (.and (.v 4109) (.le (.v 2701) (.v 3277))) (.le (.v 3278) (.v 2702))) (.le (.v 2703) (.v 3279)))])))))))))
theorem is7 : prune [] (execFn Try.prog cfg7 Try.f7 sg7 400) = tree7 := by kernel_rfl
/-- rastrum.view.Map -/
def cfg8 : Cfg := ⟨sigsOf sigs, false, []⟩
def tree8 : Tree :=
  .ev (.call 11 (.c true) [.i (.v 8), .i (.v 9), .i (.v 10), .i (.v 11)] [.one (.c (.b))] 332) (
   .ev (.call 15 (.v 332) [.i (.v 0), .i (.v 1), .i (.v 2), .i (.v 3), .i (.v 4), .i (.v 5), .i (.v 6), .i (.v 7)] [.one (.c (.b))] 588) (
    .ite (.or (.not (.v 332)) (.not (.v 588))) (
     .ret [.i (.c 0), .i (.c 0), .i (.c 0), .i (.c 0), .i (.c 0), .i (.c 0), .i (.c 0), .i (.c 1)]) (
     .ev (.need (.and (.le (.c (-9223372036854775808)) (.mul (.v 8) (.c 256))) (.le (.mul (.v 8) (.c 256)) (.c 9223372036854775807)))) (
      .ev (.need (.and (.le (.c (-9223372036854775808)) (.mul (.v 10) (.c 128))) (.le (.mul (.v 10) (.c 128)) (.c 9223372036854775807)))) (
       .ev (.need (.and (.le (.c (-9223372036854775808)) (.add (.v 0) (.v 3))) (.le (.add (.v 0) (.v 3)) (.c 9223372036854775807)))) (
        .ev (.need (.and (.le (.c (-9223372036854775808)) (.mul (.mul (.v 10) (.c 128)) (.add (.v 0) (.v 3)))) (.le (.mul (.mul (.v 10) (.c 128)) (.add (.v 0) (.v 3))) (.c 9223372036854775807)))) (
         .ev (.call 16 (.c true) [.i (.mul (.mul (.v 10) (.c 128)) (.add (.v 0) (.v 3))), .i (.v 3)] [.one (.c (.i .i64))] 1996) (
          .ev (.need (.and (.le (.c (-9223372036854775808)) (.add (.mul (.v 8) (.c 256)) (.v 1996))) (.le (.add (.mul (.v 8) (.c 256)) (.v 1996)) (.c 9223372036854775807)))) (
           .ev (.need (.and (.le (.c (-9223372036854775808)) (.mul (.v 9) (.c 256))) (.le (.mul (.v 9) (.c 256)) (.c 9223372036854775807)))) (
            .ev (.need (.and (.le (.c (-9223372036854775808)) (.mul (.v 11) (.c 128))) (.le (.mul (.v 11) (.c 128)) (.c 9223372036854775807)))) (
             .ev (.need (.and (.le (.c (-9223372036854775808)) (.add (.v 1) (.v 3))) (.le (.add (.v 1) (.v 3)) (.c 9223372036854775807)))) (
              .ev (.need (.and (.le (.c (-9223372036854775808)) (.mul (.mul (.v 11) (.c 128)) (.add (.v 1) (.v 3)))) (.le (.mul (.mul (.v 11) (.c 128)) (.add (.v 1) (.v 3))) (.c 9223372036854775807)))) (
               .ev (.call 16 (.c true) [.i (.mul (.mul (.v 11) (.c 128)) (.add (.v 1) (.v 3))), .i (.v 3)] [.one (.c (.i .i64))] 3148) (
                .ev (.need (.and (.le (.c (-9223372036854775808)) (.add (.mul (.v 9) (.c 256)) (.v 3148))) (.le (.add (.mul (.v 9) (.c 256)) (.v 3148)) (.c 9223372036854775807)))) (
                 .ite (.or (.or (.or (.lt (.add (.mul (.v 8) (.c 256)) (.v 1996)) (.c (-268435456))) (.lt (.c 268435456) (.add (.mul (.v 8) (.c 256)) (.v 1996)))) (.lt (.add (.mul (.v 9) (.c 256)) (.v 3148)) (.c (-268435456)))) (.lt (.c 268435456) (.add (.mul (.v 9) (.c 256)) (.v 3148)))) (
                  .ret [.i (.c 0), .i (.c 0), .i (.c 0), .i (.c 0), .i (.c 0), .i (.c 0), .i (.c 0), .i (.c 9)]) (
                  .ev (.need (.and (.le (.c (-9223372036854775808)) (.add (.v 2) (.v 3))) (.le (.add (.v 2) (.v 3)) (.c 9223372036854775807)))) (
                   .ev (.need (.and (.le (.c (-9223372036854775808)) (.mul (.c 16777215) (.add (.v 2) (.v 3)))) (.le (.mul (.c 16777215) (.add (.v 2) (.v 3))) (.c 9223372036854775807)))) (
                    .ev (.need (.and (.le (.c (-9223372036854775808)) (.mul (.c 2) (.v 3))) (.le (.mul (.c 2) (.v 3)) (.c 9223372036854775807)))) (
                     .ev (.call 16 (.c true) [.i (.mul (.c 16777215) (.add (.v 2) (.v 3))), .i (.mul (.c 2) (.v 3))] [.one (.c (.i .i64))] 5132) (
                      .ret [.i (.add (.mul (.v 8) (.c 256)) (.v 1996)), .i (.add (.mul (.v 9) (.c 256)) (.v 3148)), .i (.min (.max (.v 5132) (.c 0)) (.c 16777215)), .i (.v 4), .i (.v 5), .i (.v 6), .i (.v 7), .i (.c 0)]))))))))))))))))))))
theorem is8 : prune [] (execFn Try.prog cfg8 Try.f8 sg8 400) = tree8 := by kernel_rfl
/-- rastrum.rastrumref11.Map -/
def cfg9 : Cfg := ⟨sigsOf sigs, false, []⟩
def tree9 : Tree :=
  .ev (.call 12 (.c true) [.i (.v 8), .i (.v 9), .i (.v 10), .i (.v 11)] [.one (.c (.b))] 332) (
   .ev (.call 17 (.v 332) [.i (.v 3), .i (.c 1), .i (.c 68719476736)] [.one (.c (.b))] 588) (
    .ev (.call 17 (.and (.v 332) (.v 588)) [.i (.v 0), .i (.c (-68719476736)), .i (.c 68719476736)] [.one (.c (.b))] 908) (
     .ev (.call 17 (.and (.and (.v 332) (.v 588)) (.v 908)) [.i (.v 1), .i (.c (-68719476736)), .i (.c 68719476736)] [.one (.c (.b))] 1228) (
      .ev (.call 17 (.and (.and (.and (.v 332) (.v 588)) (.v 908)) (.v 1228)) [.i (.v 2), .i (.c (-68719476736)), .i (.c 68719476736)] [.one (.c (.b))] 1548) (
       .ev (.call 17 (.and (.and (.and (.and (.v 332) (.v 588)) (.v 908)) (.v 1228)) (.v 1548)) [.i (.v 4), .i (.c 0), .i (.c 255)] [.one (.c (.b))] 2316) (
        .ev (.call 17 (.and (.and (.and (.and (.and (.v 332) (.v 588)) (.v 908)) (.v 1228)) (.v 1548)) (.v 2316)) [.i (.v 5), .i (.c 0), .i (.c 255)] [.one (.c (.b))] 3212) (
         .ev (.call 17 (.and (.and (.and (.and (.and (.and (.v 332) (.v 588)) (.v 908)) (.v 1228)) (.v 1548)) (.v 2316)) (.v 3212)) [.i (.v 6), .i (.c 0), .i (.c 255)] [.one (.c (.b))] 4108) (
          .ev (.call 17 (.and (.and (.and (.and (.and (.and (.and (.v 332) (.v 588)) (.v 908)) (.v 1228)) (.v 1548)) (.v 2316)) (.v 3212)) (.v 4108)) [.i (.v 7), .i (.c 0), .i (.c 255)] [.one (.c (.b))] 5004) (
           .ite (.not (.and (.and (.and (.and (.and (.and (.and (.and (.v 332) (.v 588)) (.v 908)) (.v 1228)) (.v 1548)) (.v 2316)) (.v 3212)) (.v 4108)) (.v 5004))) (
            .ret [.i (.c 0), .i (.c 0), .i (.c 0), .i (.c 0), .i (.c 0), .i (.c 0), .i (.c 0), .i (.c 1)]) (
            .ev (.need (.and (.le (.c (-9223372036854775808)) (.mul (.c 256) (.v 8))) (.le (.mul (.c 256) (.v 8)) (.c 9223372036854775807)))) (
             .ev (.need (.and (.le (.c (-9223372036854775808)) (.mul (.c 128) (.v 10))) (.le (.mul (.c 128) (.v 10)) (.c 9223372036854775807)))) (
              .ev (.need (.and (.le (.c (-9223372036854775808)) (.add (.v 0) (.v 3))) (.le (.add (.v 0) (.v 3)) (.c 9223372036854775807)))) (
               .ev (.need (.and (.le (.c (-9223372036854775808)) (.mul (.mul (.c 128) (.v 10)) (.add (.v 0) (.v 3)))) (.le (.mul (.mul (.c 128) (.v 10)) (.add (.v 0) (.v 3))) (.c 9223372036854775807)))) (
                .ev (.call 18 (.c true) [.i (.mul (.mul (.c 128) (.v 10)) (.add (.v 0) (.v 3))), .i (.v 3)] [.one (.c (.i .i64))] 6540) (
                 .ev (.need (.and (.le (.c (-9223372036854775808)) (.add (.mul (.c 256) (.v 8)) (.v 6540))) (.le (.add (.mul (.c 256) (.v 8)) (.v 6540)) (.c 9223372036854775807)))) (
                  .ev (.need (.and (.le (.c (-9223372036854775808)) (.mul (.c 256) (.v 9))) (.le (.mul (.c 256) (.v 9)) (.c 9223372036854775807)))) (
                   .ev (.need (.and (.le (.c (-9223372036854775808)) (.mul (.c 128) (.v 11))) (.le (.mul (.c 128) (.v 11)) (.c 9223372036854775807)))) (
                    .ev (.need (.and (.le (.c (-9223372036854775808)) (.add (.v 1) (.v 3))) (.le (.add (.v 1) (.v 3)) (.c 9223372036854775807)))) (
                     .ev (.need (.and (.le (.c (-9223372036854775808)) (.mul (.mul (.c 128) (.v 11)) (.add (.v 1) (.v 3)))) (.le (.mul (.mul (.c 128) (.v 11)) (.add (.v 1) (.v 3))) (.c 9223372036854775807)))) (
                      .ev (.call 18 (.c true) [.i (.mul (.mul (.c 128) (.v 11)) (.add (.v 1) (.v 3))), .i (.v 3)] [.one (.c (.i .i64))] 7628) (
                       .ev (.need (.and (.le (.c (-9223372036854775808)) (.add (.mul (.c 256) (.v 9)) (.v 7628))) (.le (.add (.mul (.c 256) (.v 9)) (.v 7628)) (.c 9223372036854775807)))) (
                        .ev (.need (.and (.le (.c (-9223372036854775808)) (.add (.v 2) (.v 3))) (.le (.add (.v 2) (.v 3)) (.c 9223372036854775807)))) (
                         .ev (.need (.and (.le (.c (-9223372036854775808)) (.mul (.c 16777215) (.add (.v 2) (.v 3)))) (.le (.mul (.c 16777215) (.add (.v 2) (.v 3))) (.c 9223372036854775807)))) (
                          .ev (.need (.and (.le (.c (-9223372036854775808)) (.mul (.c 2) (.v 3))) (.le (.mul (.c 2) (.v 3)) (.c 9223372036854775807)))) (
                           .ev (.call 18 (.c true) [.i (.mul (.c 16777215) (.add (.v 2) (.v 3))), .i (.mul (.c 2) (.v 3))] [.one (.c (.i .i64))] 8396) (
                            .ev (.call 17 (.c true) [.i (.add (.mul (.c 256) (.v 8)) (.v 6540)), .i (.c (-268435456)), .i (.c 268435456)] [.one (.c (.b))] 8716) (
                             .ev (.call 17 (.v 8716) [.i (.add (.mul (.c 256) (.v 9)) (.v 7628)), .i (.c (-268435456)), .i (.c 268435456)] [.one (.c (.b))] 8972) (
                              .ite (.or (.not (.v 8716)) (.not (.v 8972))) (
                               .ret [.i (.c 0), .i (.c 0), .i (.c 0), .i (.c 0), .i (.c 0), .i (.c 0), .i (.c 0), .i (.c 9)]) (
                               .ret [.i (.add (.mul (.c 256) (.v 8)) (.v 6540)), .i (.add (.mul (.c 256) (.v 9)) (.v 7628)), .i (.max (.c 0) (.min (.v 8396) (.c 16777215))), .i (.v 4), .i (.v 5), .i (.v 6), .i (.v 7), .i (.c 0)])))))))))))))))))))))))))))))
theorem is9 : prune [] (execFn Try.prog cfg9 Try.f9 sg9 400) = tree9 := by kernel_rfl
/-- rastrum.rastrumlaw11.awake -/
def cfg10 : Cfg := ⟨sigsOf sigs, false, []⟩
def tree10 : Tree :=
  .ev (.call 8 (.c true) [.i (.c 0), .i (.c 0), .i (.c 0), .i (.c 7), .i (.c 0), .i (.c 0), .i (.c 0), .i (.c 0), .i (.c 0), .i (.c 0), .i (.c 10), .i (.c 0)] [.agg [.c (.i .i64), .c (.i .i64), .c (.i .i64), .c (.i .i64), .c (.i .i64), .c (.i .i64), .c (.i .i64)], .one (.c (.i .i64))] 192) (
   .ev (.call 13 (.and (.and (.and (.eq (.v 199) (.c 0)) (.eq (.v 192) (.c 1280))) (.eq (.v 193) (.c 0))) (.eq (.v 194) (.c 8388607))) [.i (.c (-1))] [.one (.c (.i .i64))] 1792) (
    .ret [.b (.and (.and (.and (.and (.eq (.v 199) (.c 0)) (.eq (.v 192) (.c 1280))) (.eq (.v 193) (.c 0))) (.eq (.v 194) (.c 8388607))) (.eq (.v 1792) (.c (-1))))]))
theorem is10 : prune [] (execFn Try.prog cfg10 Try.f10 sg10 400) = tree10 := by kernel_rfl
/-- rastrum.view.Right -/
def cfg11 : Cfg := ⟨sigsOf sigs, false, []⟩
def tree11 : Tree :=
  .ret [.b (.and (.and (.and (.and (.and (.le (.c (-8192)) (.v 0)) (.le (.v 0) (.c 8192))) (.le (.c (-8192)) (.v 1))) (.le (.v 1) (.c 8192))) (.le (.wrap .u64 (.v 2)) (.c 4096))) (.le (.wrap .u64 (.v 3)) (.c 4096)))]
theorem is11 : prune [] (execFn Try.prog cfg11 Try.f11 sg11 400) = tree11 := by kernel_rfl
/-- rastrum.rastrumref11.Right -/
def cfg12 : Cfg := ⟨sigsOf sigs, false, []⟩
def tree12 : Tree :=
  .ev (.call 17 (.c true) [.i (.v 0), .i (.c (-8192)), .i (.c 8192)] [.one (.c (.b))] 260) (
   .ev (.call 17 (.v 260) [.i (.v 1), .i (.c (-8192)), .i (.c 8192)] [.one (.c (.b))] 516) (
    .ev (.call 17 (.and (.v 260) (.v 516)) [.i (.v 2), .i (.c 0), .i (.c 4096)] [.one (.c (.b))] 836) (
     .ev (.call 17 (.and (.and (.v 260) (.v 516)) (.v 836)) [.i (.v 3), .i (.c 0), .i (.c 4096)] [.one (.c (.b))] 1156) (
      .ret [.b (.and (.and (.and (.v 260) (.v 516)) (.v 836)) (.v 1156))]))))
theorem is12 : prune [] (execFn Try.prog cfg12 Try.f12 sg12 400) = tree12 := by kernel_rfl
/-- rastrum.view.Pixel -/
def cfg13 : Cfg := ⟨sigsOf sigs, false, []⟩
def tree13 : Tree :=
  .ret [.i (.ediv (.v 0) 256)]
theorem is13 : prune [] (execFn Try.prog cfg13 Try.f13 sg13 400) = tree13 := by kernel_rfl
/-- rastrum.rastrumref11.Pixel -/
def cfg14 : Cfg := ⟨sigsOf sigs, false, []⟩
def tree14 : Tree :=
  .ev (.need (.and (.le (.c (-9223372036854775808)) (.tdiv (.v 0) (.c 256))) (.le (.tdiv (.v 0) (.c 256)) (.c 9223372036854775807)))) (
   .ite (.lt (.tmod (.v 0) (.c 256)) (.c 0)) (
    .ev (.need (.and (.le (.c (-9223372036854775808)) (.sub (.tdiv (.v 0) (.c 256)) (.c 1))) (.le (.sub (.tdiv (.v 0) (.c 256)) (.c 1)) (.c 9223372036854775807)))) (
     .ret [.i (.sub (.tdiv (.v 0) (.c 256)) (.c 1))])) (
    .ret [.i (.tdiv (.v 0) (.c 256))]))
theorem is14 : prune [] (execFn Try.prog cfg14 Try.f14 sg14 400) = tree14 := by kernel_rfl
/-- rastrum.view.fits -/
def cfg15 : Cfg := ⟨sigsOf sigs, false, []⟩
def tree15 : Tree :=
  .ite (.or (.lt (.v 3) (.c 1)) (.lt (.c 68719476736) (.v 3))) (
   .ret [.b (.c false)]) (
   .ite (.or (.lt (.v 0) (.c (-68719476736))) (.lt (.c 68719476736) (.v 0))) (
    .ret [.b (.c false)]) (
    .ite (.or (.lt (.v 1) (.c (-68719476736))) (.lt (.c 68719476736) (.v 1))) (
     .ret [.b (.c false)]) (
     .ite (.or (.lt (.v 2) (.c (-68719476736))) (.lt (.c 68719476736) (.v 2))) (
      .ret [.b (.c false)]) (
      .ite (.lt (.c 255) (.wrap .u64 (.v 4))) (
       .ret [.b (.c false)]) (
       .ite (.lt (.c 255) (.wrap .u64 (.v 5))) (
        .ret [.b (.c false)]) (
        .ite (.lt (.c 255) (.wrap .u64 (.v 6))) (
         .ret [.b (.c false)]) (
         .ite (.lt (.c 255) (.wrap .u64 (.v 7))) (
          .ret [.b (.c false)]) (
          .ret [.b (.c true)]))))))))
theorem is15 : prune [] (execFn Try.prog cfg15 Try.f15 sg15 400) = tree15 := by kernel_rfl
/-- rastrum.view.floor -/
def cfg16 : Cfg := ⟨sigsOf sigs, false, []⟩
def tree16 : Tree :=
  .ev (.need (.ne0 (.v 1))) (
   .ev (.need (.and (.le (.c (-9223372036854775808)) (.tdiv (.v 0) (.v 1))) (.le (.tdiv (.v 0) (.v 1)) (.c 9223372036854775807)))) (
    .ite (.lt (.tmod (.v 0) (.v 1)) (.c 0)) (
     .ev (.need (.and (.le (.c (-9223372036854775808)) (.sub (.tdiv (.v 0) (.v 1)) (.c 1))) (.le (.sub (.tdiv (.v 0) (.v 1)) (.c 1)) (.c 9223372036854775807)))) (
      .ret [.i (.sub (.tdiv (.v 0) (.v 1)) (.c 1))])) (
     .ret [.i (.tdiv (.v 0) (.v 1))])))
theorem is16 : prune [] (execFn Try.prog cfg16 Try.f16 sg16 400) = tree16 := by kernel_rfl
/-- rastrum.rastrumref11.within -/
def cfg17 : Cfg := ⟨sigsOf sigs, false, []⟩
def tree17 : Tree :=
  .ret [.b (.and (.le (.v 1) (.v 0)) (.le (.v 0) (.v 2)))]
theorem is17 : prune [] (execFn Try.prog cfg17 Try.f17 sg17 400) = tree17 := by kernel_rfl
/-- rastrum.rastrumref11.down -/
def cfg18 : Cfg := ⟨sigsOf sigs, false, [(2, ⟨[], []⟩)]⟩
def tree18 : Tree :=
  .ev (.need (.ne0 (.v 1))) (
   .ev (.need (.and (.le (.c (-9223372036854775808)) (.tdiv (.v 0) (.v 1))) (.le (.tdiv (.v 0) (.v 1)) (.c 9223372036854775807)))) (
    .loop 2 [.i (.tdiv (.v 0) (.v 1))] [.c (.i .i64)] 322 (
     .ev (.need (.and (.le (.c (-9223372036854775808)) (.mul (.v 322) (.v 1))) (.le (.mul (.v 322) (.v 1)) (.c 9223372036854775807)))) (
      .ite (.lt (.v 0) (.mul (.v 322) (.v 1))) (
       .ev (.need (.and (.le (.c (-9223372036854775808)) (.sub (.v 322) (.c 1))) (.le (.sub (.v 322) (.c 1)) (.c 9223372036854775807)))) (
        .again 2 [.i (.sub (.v 322) (.c 1))])) (
       .ret [.i (.v 322)])))))
theorem is18 : prune [] (execFn Try.prog cfg18 Try.f18 sg18 400) = tree18 := by kernel_rfl
end Go.Proofs.Ytmcgdadieklbjaa.Trees

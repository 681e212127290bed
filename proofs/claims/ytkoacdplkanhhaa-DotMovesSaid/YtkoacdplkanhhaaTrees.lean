/- THE FUNCTIONS' TREES, written by the program Gen.lean out of the given translation; each is checked by the kernel. -/
import Derived.Test.YtkoacdplkanhhaaSxG1
import Derived.Test.YtkoacdplkanhhaaChecked
import Derived.KernelRfl
set_option maxRecDepth 100000
set_option linter.unusedVariables false
namespace Go.Proofs.Ytkoacdplkanhhaa.Trees
open Go.Sx
def sg3 : Sig := ⟨[.agg [.c (.i .i64), .c (.i .i64), .c (.i .i64), .c (.i .i64), .c (.i .i64), .c (.i .i64), .c (.i .i64), .c (.i .i64), .c (.i .i64), .c (.i .i64), .c (.i .i64), .c (.i .i64), .c (.i .i64)]], [.one (.c (.b))]⟩
def sg4 : Sig := ⟨[.agg [.c (.i .i64), .c (.i .i64), .c (.i .i64), .c (.i .i64), .c (.i .i64), .c (.i .i64), .c (.i .i64)], .one (.c (.i .i64))], [.one (.c (.b))]⟩
def sg5 : Sig := ⟨[.agg [.c (.i .i64), .c (.i .i64), .c (.i .i64), .c (.i .i64), .c (.i .i64), .c (.i .i64), .c (.i .i64), .c (.i .i64), .c (.i .i64), .c (.i .i64), .c (.i .i64), .c (.i .i64), .c (.i .i64)], .agg [.c (.i .i8), .c (.i .i8)]], [.one (.c (.b))]⟩
def sg6 : Sig := ⟨[.agg [.c (.i .i64), .c (.i .i64), .c (.i .i64), .c (.i .i64), .c (.i .i64), .c (.i .i64), .c (.i .i64)], .one (.c (.i .i64))], [.one (.c (.b))]⟩
def sg7 : Sig := ⟨[.agg [.c (.i .i64), .c (.i .i64), .c (.i .i64), .c (.i .i64)]], [.one (.c (.b))]⟩
def sg8 : Sig := ⟨[], [.one (.c (.b))]⟩
def sg9 : Sig := ⟨[.agg [.c (.i .i64), .c (.i .i64), .c (.i .i64), .c (.i .i64), .c (.i .i64), .c (.i .i64), .c (.i .i64)], .one (.c (.i .i64)), .one (.c (.i .i64))], [.one (.c (.b))]⟩
def sg10 : Sig := ⟨[.agg [.c (.i .i64), .c (.i .i64), .c (.i .i64), .c (.i .i64), .c (.i .i64), .c (.i .i64), .c (.i .i64)], .one (.c (.i .i64)), .one (.c (.i .i64))], [.one (.c (.b))]⟩
def sg11 : Sig := ⟨[.agg [.c (.i .i64), .c (.i .i64), .c (.i .i64), .c (.i .i64), .c (.i .i64), .c (.i .i64), .c (.i .i64)], .one (.c (.i .i64))], [.agg [.c (.i .i64), .c (.i .i64), .c (.i .i64), .c (.i .i64)]]⟩
def sg12 : Sig := ⟨[.agg [.c (.i .i64), .c (.i .i64), .c (.i .i64), .c (.i .i64), .c (.i .i64), .c (.i .i64), .c (.i .i64)], .one (.c (.i .i64))], [.agg [.c (.i .i64), .c (.i .i64), .c (.i .i64), .c (.i .i64)]]⟩
def sg13 : Sig := ⟨[.one (.s 40 [.i .i64, .i .i64, .i .i64, .i .i64, .i .i64, .i .i64, .i .i64, .i .i64]), .one (.s 40 [.i .i64, .i .i64, .i .i64, .i .i64, .i .i64, .i .i64, .i .i64, .i .i64])], [.one (.c (.b))]⟩
def sg14 : Sig := ⟨[.agg [.c (.i .i64), .c (.i .i64), .c (.i .i64), .c (.i .i64), .c (.i .i64), .c (.i .i64), .c (.i .i64)], .one (.c (.i .i64)), .one (.c (.i .i64)), .agg [.c (.i .i64), .c (.i .i64), .c (.i .i64), .c (.i .i64)]], [.one (.s 40 [.i .i64, .i .i64, .i .i64, .i .i64, .i .i64, .i .i64, .i .i64, .i .i64])]⟩
def sg15 : Sig := ⟨[.agg [.c (.i .i64), .c (.i .i64), .c (.i .i64), .c (.i .i64), .c (.i .i64), .c (.i .i64), .c (.i .i64)], .one (.c (.i .i64)), .one (.c (.i .i64)), .agg [.c (.i .i64), .c (.i .i64), .c (.i .i64), .c (.i .i64)]], [.one (.s 40 [.i .i64, .i .i64, .i .i64, .i .i64, .i .i64, .i .i64, .i .i64, .i .i64])]⟩
def sg16 : Sig := ⟨[.agg [.c (.i .i64), .c (.i .i64), .c (.i .i64), .c (.i .i64), .c (.i .i64), .c (.i .i64), .c (.i .i64)], .one (.c (.i .i64))], [.agg [.c (.i .i64), .c (.i .i64), .c (.i .i64), .c (.i .i64)]]⟩
def sg17 : Sig := ⟨[.agg [.c (.i .i64), .c (.i .i64), .c (.i .i64), .c (.i .i64)], .one (.c (.i .i64)), .one (.c (.i .i64))], [.one (.c (.b))]⟩
def sg18 : Sig := ⟨[.agg [.c (.i .i64), .c (.i .i64), .c (.i .i64), .c (.i .i64)], .agg [.c (.i .i64), .c (.i .i64), .c (.i .i64), .c (.i .i64)]], [.agg [.c (.i .i64), .c (.i .i64), .c (.i .i64), .c (.i .i64)]]⟩
def sg19 : Sig := ⟨[.agg [.c (.i .i64), .c (.i .i64), .c (.i .i64), .c (.i .i64)]], [.one (.c (.b))]⟩
def sg20 : Sig := ⟨[.agg [.c (.i .i64), .c (.i .i64), .c (.i .i64), .c (.i .i64)]], [.one (.c (.i .i64))]⟩
def sg21 : Sig := ⟨[.agg [.c (.i .i64), .c (.i .i64), .c (.i .i64), .c (.i .i64), .c (.i .i64), .c (.i .i64), .c (.i .i64)], .agg [.c (.i .i64), .c (.i .i64), .c (.i .i64), .c (.i .i64), .c (.i .i64), .c (.i .i64), .c (.i .i64)], .one (.c (.i .i64)), .agg [.c (.i .i64), .c (.i .i64), .c (.i .i64)]], [.one (.c (.b))]⟩
def sg22 : Sig := ⟨[.agg [.c (.i .i64), .c (.i .i64), .c (.i .i64), .c (.i .i64), .c (.i .i64), .c (.i .i64), .c (.i .i64)]], [.one (.c (.b))]⟩
def sg23 : Sig := ⟨[.one (.c (.i .i64)), .one (.c (.i .i64))], [.one (.c (.i .i64))]⟩
def sg24 : Sig := ⟨[.agg [.c (.i .i64), .c (.i .i64), .c (.i .i64), .c (.i .i64)]], [.one (.c (.b))]⟩
def sg25 : Sig := ⟨[.agg [.c (.i .i64), .c (.i .i64), .c (.i .i64), .c (.i .i64), .c (.i .i64), .c (.i .i64), .c (.i .i64)], .one (.c (.i .i64)), .agg [.c (.i .i64), .c (.i .i64), .c (.i .i64), .c (.i .i64)]], [.one (.s 40 [.i .i64, .i .i64, .i .i64, .i .i64, .i .i64, .i .i64, .i .i64, .i .i64])]⟩
def sg27 : Sig := ⟨[.agg [.c (.i .i64), .c (.i .i64), .c (.i .i64), .c (.i .i64)], .agg [.c (.i .i64), .c (.i .i64), .c (.i .i64), .c (.i .i64)]], [.agg [.c (.i .i64), .c (.i .i64), .c (.i .i64), .c (.i .i64)]]⟩
def sg28 : Sig := ⟨[.one (.c (.i .i64)), .one (.c (.i .i64)), .ptr 2 .i64, .ptr 2 .i64, .ptr 2 .i64], [.agg [.c (.i .i64), .c (.i .i64), .c (.i .i64), .c (.i .i64), .c (.i .i64), .c (.i .i64), .c (.i .i64), .c (.i .i64)]]⟩
def sg29 : Sig := ⟨[.one (.c (.i .i64)), .one (.c (.i .i64))], [.one (.c (.i .i64))]⟩
def sg30 : Sig := ⟨[.agg [.c (.i .i64), .c (.i .i64), .c (.i .i64), .c (.i .i64), .c (.i .i64), .c (.i .i64), .c (.i .i64)], .one (.c (.i .i64)), .one (.c (.i .i64)), .one (.c (.i .i64))], [.one (.c (.i .i64))]⟩
def sg31 : Sig := ⟨[.one (.c (.i .i64)), .one (.c (.i .i64)), .one (.c (.i .i64))], [.one (.c (.i .i64))]⟩
def sg32 : Sig := ⟨[.agg [.c (.i .i64), .c (.i .i64), .c (.i .i64), .c (.i .i64), .c (.i .i64), .c (.i .i64), .c (.i .i64)]], [.one (.c (.b))]⟩
def sg33 : Sig := ⟨[.agg [.c (.i .i64), .c (.i .i64), .c (.i .i64)]], [.one (.c (.b))]⟩
def sg34 : Sig := ⟨[.one (.c (.i .i64)), .one (.c (.i .i64))], [.one (.c (.i .i64))]⟩
def sg35 : Sig := ⟨[.one (.c (.i .i64)), .one (.c (.i .i64)), .ptr 2 .i64, .ptr 2 .i64], [.agg [.c (.i .i64), .c (.i .i64), .c (.i .i64), .c (.i .i64), .c (.i .i64), .c (.i .i64), .c (.i .i64), .c (.i .i64)]]⟩
def sg36 : Sig := ⟨[.agg [.c (.i .i64), .c (.i .i64), .c (.i .i64), .c (.i .i64), .c (.i .i64), .c (.i .i64), .c (.i .i64)], .one (.c (.i .i64)), .one (.c (.i .i64)), .one (.c (.i .i64))], [.one (.c (.i .i64))]⟩
def sg26_28 : Sig := ⟨[.agg [.c (.i .i64), .c (.i .i64), .c (.i .i64), .c (.i .i64)], .fn 28 [(2, .i64), (2, .i64), (2, .i64)]], [.one (.s 40 [.i .i64, .i .i64, .i .i64, .i .i64, .i .i64, .i .i64, .i .i64, .i .i64])]⟩
def sg26_35 : Sig := ⟨[.agg [.c (.i .i64), .c (.i .i64), .c (.i .i64), .c (.i .i64)], .fn 35 [(2, .i64), (2, .i64)]], [.one (.s 40 [.i .i64, .i .i64, .i .i64, .i .i64, .i .i64, .i .i64, .i .i64, .i .i64])]⟩
def sigs : List (FuncId × Sig) := [(3, sg3), (4, sg4), (5, sg5), (6, sg6), (7, sg7), (8, sg8), (9, sg9), (10, sg10), (11, sg11), (12, sg12), (13, sg13), (14, sg14), (15, sg15), (16, sg16), (17, sg17), (18, sg18), (19, sg19), (20, sg20), (21, sg21), (22, sg22), (23, sg23), (24, sg24), (25, sg25), (27, sg27), (28, sg28), (29, sg29), (30, sg30), (31, sg31), (32, sg32), (33, sg33), (34, sg34), (35, sg35), (36, sg36)]
/-- rastrum.rastrumlaw19.DotTells -/
def cfg3 : Cfg := ⟨sigsOf sigs, false, [], []⟩
def tree3 : Tree :=
  .ev (.call 7 (.c true) [.i (.v 9), .i (.v 10), .i (.v 11), .i (.v 12)] [.one (.c (.b))] 269) (
   .ite (.not (.v 269)) (
    .ev (.call 8 (.c true) [] [.one (.c (.b))] 397) (
     .ret [.b (.v 397)])) (
    .ev (.call 8 (.c true) [] [.one (.c (.b))] 397) (
     .ev (.call 9 (.v 397) [.i (.v 0), .i (.v 1), .i (.v 2), .i (.v 3), .i (.v 4), .i (.v 5), .i (.v 6), .i (.v 7), .i (.v 8)] [.one (.c (.b))] 909) (
      .ev (.call 10 (.v 397) [.i (.v 0), .i (.v 1), .i (.v 2), .i (.v 3), .i (.v 4), .i (.v 5), .i (.v 6), .i (.v 7), .i (.v 8)] [.one (.c (.b))] 1357) (
       .ev (.call 11 (.and (.v 397) (.iff (.v 909) (.v 1357))) [.i (.v 0), .i (.v 1), .i (.v 2), .i (.v 3), .i (.v 4), .i (.v 5), .i (.v 6), .i (.v 7)] [.agg [.c (.i .i64), .c (.i .i64), .c (.i .i64), .c (.i .i64)]] 1869) (
        .ev (.call 12 (.and (.v 397) (.iff (.v 909) (.v 1357))) [.i (.v 0), .i (.v 1), .i (.v 2), .i (.v 3), .i (.v 4), .i (.v 5), .i (.v 6), .i (.v 7)] [.agg [.c (.i .i64), .c (.i .i64), .c (.i .i64), .c (.i .i64)]] 2189) (
         .ev (.call 14 (.and (.and (.v 397) (.iff (.v 909) (.v 1357))) (.and (.eq (.v 1869) (.v 2189)) (.and (.eq (.v 1870) (.v 2190)) (.and (.eq (.v 1871) (.v 2191)) (.eq (.v 1872) (.v 2192)))))) [.i (.v 0), .i (.v 1), .i (.v 2), .i (.v 3), .i (.v 4), .i (.v 5), .i (.v 6), .i (.v 7), .i (.v 8), .i (.v 9), .i (.v 10), .i (.v 11), .i (.v 12)] [.one (.s 40 [.i .i64, .i .i64, .i .i64, .i .i64, .i .i64, .i .i64, .i .i64, .i .i64])] 2957) (
          .ev (.call 15 (.and (.and (.v 397) (.iff (.v 909) (.v 1357))) (.and (.eq (.v 1869) (.v 2189)) (.and (.eq (.v 1870) (.v 2190)) (.and (.eq (.v 1871) (.v 2191)) (.eq (.v 1872) (.v 2192)))))) [.i (.v 0), .i (.v 1), .i (.v 2), .i (.v 3), .i (.v 4), .i (.v 5), .i (.v 6), .i (.v 7), .i (.v 8), .i (.v 9), .i (.v 10), .i (.v 11), .i (.v 12)] [.one (.s 40 [.i .i64, .i .i64, .i .i64, .i .i64, .i .i64, .i .i64, .i .i64, .i .i64])] 3533) (
           .ev (.call 13 (.and (.and (.v 397) (.iff (.v 909) (.v 1357))) (.and (.eq (.v 1869) (.v 2189)) (.and (.eq (.v 1870) (.v 2190)) (.and (.eq (.v 1871) (.v 2191)) (.eq (.v 1872) (.v 2192)))))) [.l 2957, .l 3533] [.one (.c (.b))] 3597) (
            .ret [.b (.and (.and (.and (.v 397) (.iff (.v 909) (.v 1357))) (.and (.eq (.v 1869) (.v 2189)) (.and (.eq (.v 1870) (.v 2190)) (.and (.eq (.v 1871) (.v 2191)) (.eq (.v 1872) (.v 2192)))))) (.v 3597))]))))))))))
theorem is3 : prune [] (execFn Try.prog cfg3 Try.f3 sg3 2000) = tree3 := by kernel_rfl
/-- rastrum.rastrumlaw19.DotCounts -/
def cfg4 : Cfg := ⟨sigsOf sigs, false, [(9, ⟨[], []⟩), (15, ⟨[], []⟩)], []⟩
def tree4 : Tree :=
  .ev (.call 10 (.c true) [.i (.v 0), .i (.v 1), .i (.v 2), .i (.v 3), .i (.v 4), .i (.v 5), .i (.v 6), .i (.v 7), .i (.c 0)] [.one (.c (.b))] 264) (
   .ite (.not (.v 264)) (
    .ev (.call 8 (.c true) [] [.one (.c (.b))] 392) (
     .ev (.call 14 (.v 392) [.i (.v 0), .i (.v 1), .i (.v 2), .i (.v 3), .i (.v 4), .i (.v 5), .i (.v 6), .i (.v 7), .i (.c 0), .i (.c 0), .i (.c 0), .i (.c 9), .i (.c 9)] [.one (.s 40 [.i .i64, .i .i64, .i .i64, .i .i64, .i .i64, .i .i64, .i .i64, .i .i64])] 712) (
      .ret [.b (.and (.v 392) (.eq (.len 712) (.c 0)))]))) (
    .ev (.call 16 (.c true) [.i (.v 0), .i (.v 1), .i (.v 2), .i (.v 3), .i (.v 4), .i (.v 5), .i (.v 6), .i (.v 7)] [.agg [.c (.i .i64), .c (.i .i64), .c (.i .i64), .c (.i .i64)]] 520) (
     .ev (.call 14 (.c true) [.i (.v 0), .i (.v 1), .i (.v 2), .i (.v 3), .i (.v 4), .i (.v 5), .i (.v 6), .i (.v 7), .i (.c 0), .i (.v 520), .i (.v 521), .i (.v 522), .i (.v 523)] [.one (.s 40 [.i .i64, .i .i64, .i .i64, .i .i64, .i .i64, .i .i64, .i .i64, .i .i64])] 904) (
      .ev (.call 14 (.c true) [.i (.v 0), .i (.v 1), .i (.v 2), .i (.v 3), .i (.v 4), .i (.v 5), .i (.v 6), .i (.v 7), .i (.c 1), .i (.v 520), .i (.v 521), .i (.v 522), .i (.v 523)] [.one (.s 40 [.i .i64, .i .i64, .i .i64, .i .i64, .i .i64, .i .i64, .i .i64, .i .i64])] 1160) (
       .ev (.call 14 (.c true) [.i (.v 0), .i (.v 1), .i (.v 2), .i (.v 3), .i (.v 4), .i (.v 5), .i (.v 6), .i (.v 7), .i (.c 2), .i (.v 520), .i (.v 521), .i (.v 522), .i (.v 523)] [.one (.s 40 [.i .i64, .i .i64, .i .i64, .i .i64, .i .i64, .i .i64, .i .i64, .i .i64])] 1416) (
        .ev (.call 11 (.c true) [.i (.v 0), .i (.v 1), .i (.v 2), .i (.v 3), .i (.v 4), .i (.v 5), .i (.v 6), .i (.v 7)] [.agg [.c (.i .i64), .c (.i .i64), .c (.i .i64), .c (.i .i64)]] 1800) (
         .ev (.need (.and (.le (.c (-9223372036854775808)) (.mul (.v 7) (.v 7))) (.le (.mul (.v 7) (.v 7)) (.c 9223372036854775807)))) (
          .ev (.need (.or (.not (.not (.or (.or (.not (.eq (.len 904) (.mul (.v 7) (.v 7)))) (.not (.eq (.len 1416) (.mul (.v 7) (.v 7))))) (.eq (.len 1160) (.c 0))))) (.and (.le (.c (-9223372036854775808)) (.add (.v 7) (.c 2))) (.le (.add (.v 7) (.c 2)) (.c 9223372036854775807))))) (
           .ev (.need (.or (.not (.not (.or (.or (.not (.eq (.len 904) (.mul (.v 7) (.v 7)))) (.not (.eq (.len 1416) (.mul (.v 7) (.v 7))))) (.eq (.len 1160) (.c 0))))) (.and (.le (.c (-9223372036854775808)) (.mul (.add (.v 7) (.c 2)) (.add (.v 7) (.c 2)))) (.le (.mul (.add (.v 7) (.c 2)) (.add (.v 7) (.c 2))) (.c 9223372036854775807))))) (
            .ite (.or (.or (.or (.not (.eq (.len 904) (.mul (.v 7) (.v 7)))) (.not (.eq (.len 1416) (.mul (.v 7) (.v 7))))) (.eq (.len 1160) (.c 0))) (.lt (.mul (.add (.v 7) (.c 2)) (.add (.v 7) (.c 2))) (.len 1160))) (
             .ret [.b (.c false)]) (
             .loop 9 [.b (.c false), .i (.c 0)] [.c (.b), .c (.i .i64)] 3912 (
              .ite (.lt (.v 3913) (.len 904)) (
               .ev (.need (.le (.c 0) (.v 3913))) (
                .ev (.call 17 (.c true) [.i (.v 1800), .i (.v 1801), .i (.v 1802), .i (.v 1803), .i (.get 904 (.v 3913) 0), .i (.get 904 (.v 3913) 1)] [.one (.c (.b))] 4874) (
                 .ev (.need (.or (.not (.v 4874)) (.le (.c 0) (.v 3913)))) (
                  .ev (.need (.or (.not (.v 4874)) (.lt (.v 3913) (.len 904)))) (
                   .ev (.need (.or (.not (.v 4874)) (.lt (.v 3913) (.len 1416)))) (
                    .ev (.need (.or (.not (.not (.or (.not (.v 4874)) (.not (.eq (.get 904 (.v 3913) 0) (.get 1416 (.v 3913) 0)))))) (.le (.c 0) (.v 3913)))) (
                     .ev (.need (.or (.not (.not (.or (.not (.v 4874)) (.not (.eq (.get 904 (.v 3913) 0) (.get 1416 (.v 3913) 0)))))) (.lt (.v 3913) (.len 904)))) (
                      .ev (.need (.or (.not (.not (.or (.not (.v 4874)) (.not (.eq (.get 904 (.v 3913) 0) (.get 1416 (.v 3913) 0)))))) (.lt (.v 3913) (.len 1416)))) (
                       .ev (.need (.or (.not (.not (.or (.or (.not (.v 4874)) (.not (.eq (.get 904 (.v 3913) 0) (.get 1416 (.v 3913) 0)))) (.not (.eq (.get 904 (.v 3913) 1) (.get 1416 (.v 3913) 1)))))) (.le (.c 0) (.v 3913)))) (
                        .ev (.need (.or (.not (.not (.or (.or (.not (.v 4874)) (.not (.eq (.get 904 (.v 3913) 0) (.get 1416 (.v 3913) 0)))) (.not (.eq (.get 904 (.v 3913) 1) (.get 1416 (.v 3913) 1)))))) (.lt (.v 3913) (.len 904)))) (
                         .ev (.need (.or (.not (.not (.or (.or (.or (.not (.v 4874)) (.not (.eq (.get 904 (.v 3913) 0) (.get 1416 (.v 3913) 0)))) (.not (.eq (.get 904 (.v 3913) 1) (.get 1416 (.v 3913) 1)))) (.not (.eq (.get 904 (.v 3913) 7) (.c 64)))))) (.le (.c 0) (.v 3913)))) (
                          .ev (.need (.or (.not (.not (.or (.or (.or (.not (.v 4874)) (.not (.eq (.get 904 (.v 3913) 0) (.get 1416 (.v 3913) 0)))) (.not (.eq (.get 904 (.v 3913) 1) (.get 1416 (.v 3913) 1)))) (.not (.eq (.get 904 (.v 3913) 7) (.c 64)))))) (.lt (.v 3913) (.len 1416)))) (
                           .ite (.or (.or (.or (.or (.not (.v 4874)) (.not (.eq (.get 904 (.v 3913) 0) (.get 1416 (.v 3913) 0)))) (.not (.eq (.get 904 (.v 3913) 1) (.get 1416 (.v 3913) 1)))) (.not (.eq (.get 904 (.v 3913) 7) (.c 64)))) (.not (.eq (.get 1416 (.v 3913) 7) (.c 64)))) (
                            .ret [.b (.c false)]) (
                            .ev (.need (.and (.le (.c (-9223372036854775808)) (.add (.v 3913) (.c 1))) (.le (.add (.v 3913) (.c 1)) (.c 9223372036854775807)))) (
                             .again 9 [.b (.v 3912), .i (.add (.v 3913) (.c 1))]))))))))))))))) (
               .ev (.need (.and (.le (.c (-9223372036854775808)) (.sub (.v 1800) (.c 2))) (.le (.sub (.v 1800) (.c 2)) (.c 9223372036854775807)))) (
                .ev (.need (.and (.le (.c (-9223372036854775808)) (.sub (.v 1801) (.c 2))) (.le (.sub (.v 1801) (.c 2)) (.c 9223372036854775807)))) (
                 .ev (.need (.and (.le (.c (-9223372036854775808)) (.add (.v 1802) (.c 2))) (.le (.add (.v 1802) (.c 2)) (.c 9223372036854775807)))) (
                  .ev (.need (.and (.le (.c (-9223372036854775808)) (.add (.v 1803) (.c 2))) (.le (.add (.v 1803) (.c 2)) (.c 9223372036854775807)))) (
                   .loop 15 [.b (.v 3912), .i (.c 0)] [.c (.b), .c (.i .i64)] 5514 (
                    .ite (.lt (.v 5515) (.len 1160)) (
                     .ev (.need (.le (.c 0) (.v 5515))) (
                      .ev (.call 17 (.c true) [.i (.sub (.v 1800) (.c 2)), .i (.sub (.v 1801) (.c 2)), .i (.add (.v 1802) (.c 2)), .i (.add (.v 1803) (.c 2)), .i (.get 1160 (.v 5515) 0), .i (.get 1160 (.v 5515) 1)] [.one (.c (.b))] 6476) (
                       .ev (.need (.or (.not (.v 6476)) (.le (.c 0) (.v 5515)))) (
                        .ev (.need (.or (.not (.v 6476)) (.lt (.v 5515) (.len 1160)))) (
                         .ev (.need (.or (.not (.not (.or (.not (.v 6476)) (.lt (.get 1160 (.v 5515) 7) (.c 1))))) (.le (.c 0) (.v 5515)))) (
                          .ev (.need (.or (.not (.not (.or (.not (.v 6476)) (.lt (.get 1160 (.v 5515) 7) (.c 1))))) (.lt (.v 5515) (.len 1160)))) (
                           .ev (.need (.or (.not (.not (.or (.or (.not (.v 6476)) (.lt (.get 1160 (.v 5515) 7) (.c 1))) (.lt (.c 64) (.get 1160 (.v 5515) 7))))) (.le (.c 0) (.v 5515)))) (
                            .ev (.need (.or (.not (.not (.or (.or (.not (.v 6476)) (.lt (.get 1160 (.v 5515) 7) (.c 1))) (.lt (.c 64) (.get 1160 (.v 5515) 7))))) (.lt (.v 5515) (.len 1160)))) (
                             .ev (.need (.or (.not (.not (.or (.or (.or (.not (.v 6476)) (.lt (.get 1160 (.v 5515) 7) (.c 1))) (.lt (.c 64) (.get 1160 (.v 5515) 7))) (.not (.and (.eq (.get 1160 (.v 5515) 3) (.v 3)) (.and (.eq (.get 1160 (.v 5515) 4) (.v 4)) (.and (.eq (.get 1160 (.v 5515) 5) (.v 5)) (.eq (.get 1160 (.v 5515) 6) (.v 6))))))))) (.le (.c 0) (.v 5515)))) (
                              .ev (.need (.or (.not (.not (.or (.or (.or (.not (.v 6476)) (.lt (.get 1160 (.v 5515) 7) (.c 1))) (.lt (.c 64) (.get 1160 (.v 5515) 7))) (.not (.and (.eq (.get 1160 (.v 5515) 3) (.v 3)) (.and (.eq (.get 1160 (.v 5515) 4) (.v 4)) (.and (.eq (.get 1160 (.v 5515) 5) (.v 5)) (.eq (.get 1160 (.v 5515) 6) (.v 6))))))))) (.lt (.v 5515) (.len 1160)))) (
                               .ite (.or (.or (.or (.or (.not (.v 6476)) (.lt (.get 1160 (.v 5515) 7) (.c 1))) (.lt (.c 64) (.get 1160 (.v 5515) 7))) (.not (.and (.eq (.get 1160 (.v 5515) 3) (.v 3)) (.and (.eq (.get 1160 (.v 5515) 4) (.v 4)) (.and (.eq (.get 1160 (.v 5515) 5) (.v 5)) (.eq (.get 1160 (.v 5515) 6) (.v 6))))))) (.not (.eq (.get 1160 (.v 5515) 2) (.v 2)))) (
                                .ret [.b (.c false)]) (
                                .ev (.need (.and (.le (.c (-9223372036854775808)) (.add (.v 5515) (.c 1))) (.le (.add (.v 5515) (.c 1)) (.c 9223372036854775807)))) (
                                 .again 15 [.b (.v 5514), .i (.add (.v 5515) (.c 1))]))))))))))))) (
                     .ev (.call 8 (.c true) [] [.one (.c (.b))] 5772) (
                      .ret [.b (.v 5772)]))))))))))))))))))))
theorem is4 : prune [] (execFn Try.prog cfg4 Try.f4 sg4 2000) = tree4 := by kernel_rfl
/-- rastrum.rastrumlaw19.DotMoves -/
def cfg5 : Cfg := ⟨sigsOf sigs, true, [(15, ⟨[], []⟩)], []⟩
def tree5 : Tree :=
  .ite (.or (.or (.lt (.v 8) (.c 0)) (.lt (.c 2) (.v 8))) (.lt (.c 20) (.v 7))) (
   .ev (.call 8 (.c true) [] [.one (.c (.b))] 1039) (
    .ret [.b (.v 1039)])) (
   .ev (.call 10 (.c true) [.i (.v 0), .i (.v 1), .i (.v 2), .i (.v 3), .i (.v 4), .i (.v 5), .i (.v 6), .i (.v 7), .i (.c 0)] [.one (.c (.b))] 2959) (
    .ev (.call 10 (.v 2959) [.i (.wrap .i64 (.add (.v 0) (.wrap .i64 (.mul (.c 256) (.wrap .i64 (.v 13)))))), .i (.wrap .i64 (.add (.v 1) (.wrap .i64 (.mul (.c 256) (.wrap .i64 (.v 14)))))), .i (.v 2), .i (.v 3), .i (.v 4), .i (.v 5), .i (.v 6), .i (.v 7), .i (.c 0)] [.one (.c (.b))] 3343) (
     .ite (.or (.not (.v 2959)) (.not (.v 3343))) (
      .ev (.call 8 (.c true) [] [.one (.c (.b))] 3535) (
       .ret [.b (.v 3535)])) (
      .ev (.call 16 (.c true) [.i (.v 0), .i (.v 1), .i (.v 2), .i (.v 3), .i (.v 4), .i (.v 5), .i (.v 6), .i (.v 7)] [.agg [.c (.i .i64), .c (.i .i64), .c (.i .i64), .c (.i .i64)]] 3791) (
       .ev (.call 14 (.c true) [.i (.v 0), .i (.v 1), .i (.v 2), .i (.v 3), .i (.v 4), .i (.v 5), .i (.v 6), .i (.v 7), .i (.v 8), .i (.v 3791), .i (.v 3792), .i (.v 3793), .i (.v 3794)] [.one (.s 40 [.i .i64, .i .i64, .i .i64, .i .i64, .i .i64, .i .i64, .i .i64, .i .i64])] 4431) (
        .ev (.call 14 (.c true) [.i (.wrap .i64 (.add (.v 0) (.wrap .i64 (.mul (.c 256) (.wrap .i64 (.v 13)))))), .i (.wrap .i64 (.add (.v 1) (.wrap .i64 (.mul (.c 256) (.wrap .i64 (.v 14)))))), .i (.v 2), .i (.v 3), .i (.v 4), .i (.v 5), .i (.v 6), .i (.v 7), .i (.v 8), .i (.wrap .i64 (.add (.v 3791) (.wrap .i64 (.v 13)))), .i (.wrap .i64 (.add (.v 3792) (.wrap .i64 (.v 14)))), .i (.wrap .i64 (.add (.v 3793) (.wrap .i64 (.v 13)))), .i (.wrap .i64 (.add (.v 3794) (.wrap .i64 (.v 14))))] [.one (.s 40 [.i .i64, .i .i64, .i .i64, .i .i64, .i .i64, .i .i64, .i .i64, .i .i64])] 5903) (
         .ev (.call 18 (.c true) [.i (.v 3791), .i (.v 3792), .i (.v 3793), .i (.v 3794), .i (.v 9), .i (.v 10), .i (.v 11), .i (.v 12)] [.agg [.c (.i .i64), .c (.i .i64), .c (.i .i64), .c (.i .i64)]] 6671) (
          .ev (.call 14 (.c true) [.i (.v 0), .i (.v 1), .i (.v 2), .i (.v 3), .i (.v 4), .i (.v 5), .i (.v 6), .i (.v 7), .i (.v 8), .i (.v 6671), .i (.v 6672), .i (.v 6673), .i (.v 6674)] [.one (.s 40 [.i .i64, .i .i64, .i .i64, .i .i64, .i .i64, .i .i64, .i .i64, .i .i64])] 6735) (
           .ite (.not (.eq (.len 4431) (.len 5903))) (
            .ret [.b (.c false)]) (
            .loop 15 [.b (.c false), .i (.c 0), .i (.c 0)] [.c (.b), .c (.i .i64), .c (.i .i64)] 7311 (
             .ite (.lt (.v 7313) (.len 4431)) (
              .ev (.need (.le (.c 0) (.v 7313))) (
               .ev (.need (.lt (.v 7313) (.len 5903))) (
                .ite (.not (.and (.eq (.wrap .i64 (.sub (.get 5903 (.v 7313) 0) (.wrap .i64 (.v 13)))) (.get 4431 (.v 7313) 0)) (.and (.eq (.wrap .i64 (.sub (.get 5903 (.v 7313) 1) (.wrap .i64 (.v 14)))) (.get 4431 (.v 7313) 1)) (.and (.eq (.get 5903 (.v 7313) 2) (.get 4431 (.v 7313) 2)) (.and (.eq (.get 5903 (.v 7313) 3) (.get 4431 (.v 7313) 3)) (.and (.eq (.get 5903 (.v 7313) 4) (.get 4431 (.v 7313) 4)) (.and (.eq (.get 5903 (.v 7313) 5) (.get 4431 (.v 7313) 5)) (.and (.eq (.get 5903 (.v 7313) 6) (.get 4431 (.v 7313) 6)) (.eq (.get 5903 (.v 7313) 7) (.get 4431 (.v 7313) 7)))))))))) (
                 .ret [.b (.c false)]) (
                 .ev (.call 17 (.c true) [.i (.v 9), .i (.v 10), .i (.v 11), .i (.v 12), .i (.wrap .i64 (.sub (.get 5903 (.v 7313) 0) (.wrap .i64 (.v 13)))), .i (.wrap .i64 (.sub (.get 5903 (.v 7313) 1) (.wrap .i64 (.v 14))))] [.one (.c (.b))] 9490) (
                  .ite (.v 9490) (
                   .ev (.need (.or (.not (.not (.le (.len 6735) (.v 7312)))) (.le (.c 0) (.v 7312)))) (
                    .ev (.need (.or (.not (.not (.le (.len 6735) (.v 7312)))) (.lt (.v 7312) (.len 6735)))) (
                     .ite (.or (.le (.len 6735) (.v 7312)) (.not (.and (.eq (.get 6735 (.v 7312) 0) (.wrap .i64 (.sub (.get 5903 (.v 7313) 0) (.wrap .i64 (.v 13))))) (.and (.eq (.get 6735 (.v 7312) 1) (.wrap .i64 (.sub (.get 5903 (.v 7313) 1) (.wrap .i64 (.v 14))))) (.and (.eq (.get 6735 (.v 7312) 2) (.get 5903 (.v 7313) 2)) (.and (.eq (.get 6735 (.v 7312) 3) (.get 5903 (.v 7313) 3)) (.and (.eq (.get 6735 (.v 7312) 4) (.get 5903 (.v 7313) 4)) (.and (.eq (.get 6735 (.v 7312) 5) (.get 5903 (.v 7313) 5)) (.and (.eq (.get 6735 (.v 7312) 6) (.get 5903 (.v 7313) 6)) (.eq (.get 6735 (.v 7312) 7) (.get 5903 (.v 7313) 7))))))))))) (
                      .ret [.b (.c false)]) (
                      .again 15 [.b (.v 7311), .i (.wrap .i64 (.add (.v 7312) (.c 1))), .i (.wrap .i64 (.add (.v 7313) (.c 1)))])))) (
                   .again 15 [.b (.v 7311), .i (.v 7312), .i (.wrap .i64 (.add (.v 7313) (.c 1)))])))))) (
              .ev (.call 8 (.c true) [] [.one (.c (.b))] 7570) (
               .ret [.b (.and (.v 7570) (.eq (.v 7312) (.len 6735)))])))))))))))))
theorem is5 : prune [] (execFn Try.prog cfg5 Try.f5 sg5 2000) = tree5 := by kernel_rfl
/-- rastrum.rastrumlaw19.DotSprites -/
def cfg6 : Cfg := ⟨sigsOf sigs, false, [(7, ⟨[], []⟩)], []⟩
def tree6 : Tree :=
  .ev (.call 10 (.c true) [.i (.v 0), .i (.v 1), .i (.v 2), .i (.v 3), .i (.v 4), .i (.v 5), .i (.v 6), .i (.v 7), .i (.c 2)] [.one (.c (.b))] 264) (
   .ite (.not (.v 264)) (
    .ev (.call 8 (.c true) [] [.one (.c (.b))] 392) (
     .ret [.b (.v 392)])) (
    .ev (.call 16 (.c true) [.i (.v 0), .i (.v 1), .i (.v 2), .i (.v 3), .i (.v 4), .i (.v 5), .i (.v 6), .i (.v 7)] [.agg [.c (.i .i64), .c (.i .i64), .c (.i .i64), .c (.i .i64)]] 648) (
     .ev (.call 14 (.c true) [.i (.v 0), .i (.v 1), .i (.v 2), .i (.v 3), .i (.v 4), .i (.v 5), .i (.v 6), .i (.v 7), .i (.c 2), .i (.v 648), .i (.v 649), .i (.v 650), .i (.v 651)] [.one (.s 40 [.i .i64, .i .i64, .i .i64, .i .i64, .i .i64, .i .i64, .i .i64, .i .i64])] 712) (
      .ev (.need (.and (.le (.c (-9223372036854775808)) (.mul (.v 7) (.v 7))) (.le (.mul (.v 7) (.v 7)) (.c 9223372036854775807)))) (
       .ite (.not (.eq (.len 712) (.mul (.v 7) (.v 7)))) (
        .ret [.b (.c false)]) (
        .loop 7 [.b (.c false), .i (.c 0)] [.c (.b), .c (.i .i64)] 1288 (
         .ite (.lt (.v 1289) (.len 712)) (
          .ev (.need (.le (.c 0) (.v 1289))) (
           .ite (.or (.or (.or (.or (.or (.lt (.get 712 (.v 1289) 3) (.c 0)) (.lt (.c 255) (.get 712 (.v 1289) 3))) (.lt (.get 712 (.v 1289) 4) (.c 0))) (.lt (.c 255) (.get 712 (.v 1289) 4))) (.not (.eq (.get 712 (.v 1289) 5) (.v 5)))) (.not (.eq (.get 712 (.v 1289) 6) (.v 6)))) (
            .ret [.b (.c false)]) (
            .ev (.need (.ne0 (.v 7))) (
             .ev (.need (.and (.le (.c (-9223372036854775808)) (.tdiv (.v 1289) (.v 7))) (.le (.tdiv (.v 1289) (.v 7)) (.c 9223372036854775807)))) (
              .ev (.need (.or (.not (.lt (.c 0) (.tmod (.v 1289) (.v 7)))) (.and (.le (.c (-9223372036854775808)) (.sub (.v 1289) (.c 1))) (.le (.sub (.v 1289) (.c 1)) (.c 9223372036854775807))))) (
               .ev (.need (.or (.not (.lt (.c 0) (.tmod (.v 1289) (.v 7)))) (.le (.c 0) (.sub (.v 1289) (.c 1))))) (
                .ev (.need (.or (.not (.lt (.c 0) (.tmod (.v 1289) (.v 7)))) (.lt (.sub (.v 1289) (.c 1)) (.len 712)))) (
                 .ev (.need (.or (.not (.and (.lt (.c 0) (.tmod (.v 1289) (.v 7))) (.not (.lt (.get 712 (.v 1289) 3) (.get 712 (.sub (.v 1289) (.c 1)) 3))))) (.and (.le (.c (-9223372036854775808)) (.sub (.v 1289) (.c 1))) (.le (.sub (.v 1289) (.c 1)) (.c 9223372036854775807))))) (
                  .ev (.need (.or (.not (.and (.lt (.c 0) (.tmod (.v 1289) (.v 7))) (.not (.lt (.get 712 (.v 1289) 3) (.get 712 (.sub (.v 1289) (.c 1)) 3))))) (.le (.c 0) (.sub (.v 1289) (.c 1))))) (
                   .ev (.need (.or (.not (.and (.lt (.c 0) (.tmod (.v 1289) (.v 7))) (.not (.lt (.get 712 (.v 1289) 3) (.get 712 (.sub (.v 1289) (.c 1)) 3))))) (.lt (.sub (.v 1289) (.c 1)) (.len 712)))) (
                    .ev (.need (.or (.not (.and (.lt (.c 0) (.tmod (.v 1289) (.v 7))) (.not (.lt (.get 712 (.v 1289) 3) (.get 712 (.sub (.v 1289) (.c 1)) 3))))) (.and (.le (.c (-9223372036854775808)) (.sub (.get 712 (.v 1289) 3) (.get 712 (.sub (.v 1289) (.c 1)) 3))) (.le (.sub (.get 712 (.v 1289) 3) (.get 712 (.sub (.v 1289) (.c 1)) 3)) (.c 9223372036854775807))))) (
                     .ev (.need (.or (.not (.and (.lt (.c 0) (.tmod (.v 1289) (.v 7))) (.not (.lt (.get 712 (.v 1289) 3) (.get 712 (.sub (.v 1289) (.c 1)) 3))))) (.and (.le (.c (-9223372036854775808)) (.tdiv (.c 256) (.v 7))) (.le (.tdiv (.c 256) (.v 7)) (.c 9223372036854775807))))) (
                      .ev (.need (.or (.not (.and (.lt (.c 0) (.tmod (.v 1289) (.v 7))) (.not (.lt (.get 712 (.v 1289) 3) (.get 712 (.sub (.v 1289) (.c 1)) 3))))) (.and (.le (.c (-9223372036854775808)) (.add (.tdiv (.c 256) (.v 7)) (.c 1))) (.le (.add (.tdiv (.c 256) (.v 7)) (.c 1)) (.c 9223372036854775807))))) (
                       .ev (.need (.or (.not (.and (.lt (.c 0) (.tmod (.v 1289) (.v 7))) (.not (.or (.lt (.get 712 (.v 1289) 3) (.get 712 (.sub (.v 1289) (.c 1)) 3)) (.lt (.add (.tdiv (.c 256) (.v 7)) (.c 1)) (.sub (.get 712 (.v 1289) 3) (.get 712 (.sub (.v 1289) (.c 1)) 3))))))) (.and (.le (.c (-9223372036854775808)) (.sub (.v 1289) (.c 1))) (.le (.sub (.v 1289) (.c 1)) (.c 9223372036854775807))))) (
                        .ev (.need (.or (.not (.and (.lt (.c 0) (.tmod (.v 1289) (.v 7))) (.not (.or (.lt (.get 712 (.v 1289) 3) (.get 712 (.sub (.v 1289) (.c 1)) 3)) (.lt (.add (.tdiv (.c 256) (.v 7)) (.c 1)) (.sub (.get 712 (.v 1289) 3) (.get 712 (.sub (.v 1289) (.c 1)) 3))))))) (.le (.c 0) (.sub (.v 1289) (.c 1))))) (
                         .ev (.need (.or (.not (.and (.lt (.c 0) (.tmod (.v 1289) (.v 7))) (.not (.or (.lt (.get 712 (.v 1289) 3) (.get 712 (.sub (.v 1289) (.c 1)) 3)) (.lt (.add (.tdiv (.c 256) (.v 7)) (.c 1)) (.sub (.get 712 (.v 1289) 3) (.get 712 (.sub (.v 1289) (.c 1)) 3))))))) (.lt (.sub (.v 1289) (.c 1)) (.len 712)))) (
                          .ev (.need (.or (.not (.and (.not (.and (.lt (.c 0) (.tmod (.v 1289) (.v 7))) (.or (.or (.lt (.get 712 (.v 1289) 3) (.get 712 (.sub (.v 1289) (.c 1)) 3)) (.lt (.add (.tdiv (.c 256) (.v 7)) (.c 1)) (.sub (.get 712 (.v 1289) 3) (.get 712 (.sub (.v 1289) (.c 1)) 3)))) (.not (.eq (.get 712 (.v 1289) 4) (.get 712 (.sub (.v 1289) (.c 1)) 4)))))) (.lt (.c 0) (.tdiv (.v 1289) (.v 7))))) (.and (.le (.c (-9223372036854775808)) (.sub (.v 1289) (.v 7))) (.le (.sub (.v 1289) (.v 7)) (.c 9223372036854775807))))) (
                           .ev (.need (.or (.not (.and (.not (.and (.lt (.c 0) (.tmod (.v 1289) (.v 7))) (.or (.or (.lt (.get 712 (.v 1289) 3) (.get 712 (.sub (.v 1289) (.c 1)) 3)) (.lt (.add (.tdiv (.c 256) (.v 7)) (.c 1)) (.sub (.get 712 (.v 1289) 3) (.get 712 (.sub (.v 1289) (.c 1)) 3)))) (.not (.eq (.get 712 (.v 1289) 4) (.get 712 (.sub (.v 1289) (.c 1)) 4)))))) (.lt (.c 0) (.tdiv (.v 1289) (.v 7))))) (.le (.c 0) (.sub (.v 1289) (.v 7))))) (
                            .ev (.need (.or (.not (.and (.not (.and (.lt (.c 0) (.tmod (.v 1289) (.v 7))) (.or (.or (.lt (.get 712 (.v 1289) 3) (.get 712 (.sub (.v 1289) (.c 1)) 3)) (.lt (.add (.tdiv (.c 256) (.v 7)) (.c 1)) (.sub (.get 712 (.v 1289) 3) (.get 712 (.sub (.v 1289) (.c 1)) 3)))) (.not (.eq (.get 712 (.v 1289) 4) (.get 712 (.sub (.v 1289) (.c 1)) 4)))))) (.lt (.c 0) (.tdiv (.v 1289) (.v 7))))) (.lt (.sub (.v 1289) (.v 7)) (.len 712)))) (
                             .ev (.need (.or (.not (.and (.and (.not (.and (.lt (.c 0) (.tmod (.v 1289) (.v 7))) (.or (.or (.lt (.get 712 (.v 1289) 3) (.get 712 (.sub (.v 1289) (.c 1)) 3)) (.lt (.add (.tdiv (.c 256) (.v 7)) (.c 1)) (.sub (.get 712 (.v 1289) 3) (.get 712 (.sub (.v 1289) (.c 1)) 3)))) (.not (.eq (.get 712 (.v 1289) 4) (.get 712 (.sub (.v 1289) (.c 1)) 4)))))) (.lt (.c 0) (.tdiv (.v 1289) (.v 7)))) (.not (.lt (.get 712 (.v 1289) 4) (.get 712 (.sub (.v 1289) (.v 7)) 4))))) (.and (.le (.c (-9223372036854775808)) (.sub (.v 1289) (.v 7))) (.le (.sub (.v 1289) (.v 7)) (.c 9223372036854775807))))) (
                              .ev (.need (.or (.not (.and (.and (.not (.and (.lt (.c 0) (.tmod (.v 1289) (.v 7))) (.or (.or (.lt (.get 712 (.v 1289) 3) (.get 712 (.sub (.v 1289) (.c 1)) 3)) (.lt (.add (.tdiv (.c 256) (.v 7)) (.c 1)) (.sub (.get 712 (.v 1289) 3) (.get 712 (.sub (.v 1289) (.c 1)) 3)))) (.not (.eq (.get 712 (.v 1289) 4) (.get 712 (.sub (.v 1289) (.c 1)) 4)))))) (.lt (.c 0) (.tdiv (.v 1289) (.v 7)))) (.not (.lt (.get 712 (.v 1289) 4) (.get 712 (.sub (.v 1289) (.v 7)) 4))))) (.le (.c 0) (.sub (.v 1289) (.v 7))))) (
                               .ev (.need (.or (.not (.and (.and (.not (.and (.lt (.c 0) (.tmod (.v 1289) (.v 7))) (.or (.or (.lt (.get 712 (.v 1289) 3) (.get 712 (.sub (.v 1289) (.c 1)) 3)) (.lt (.add (.tdiv (.c 256) (.v 7)) (.c 1)) (.sub (.get 712 (.v 1289) 3) (.get 712 (.sub (.v 1289) (.c 1)) 3)))) (.not (.eq (.get 712 (.v 1289) 4) (.get 712 (.sub (.v 1289) (.c 1)) 4)))))) (.lt (.c 0) (.tdiv (.v 1289) (.v 7)))) (.not (.lt (.get 712 (.v 1289) 4) (.get 712 (.sub (.v 1289) (.v 7)) 4))))) (.lt (.sub (.v 1289) (.v 7)) (.len 712)))) (
                                .ite (.or (.and (.lt (.c 0) (.tmod (.v 1289) (.v 7))) (.or (.or (.lt (.get 712 (.v 1289) 3) (.get 712 (.sub (.v 1289) (.c 1)) 3)) (.lt (.add (.tdiv (.c 256) (.v 7)) (.c 1)) (.sub (.get 712 (.v 1289) 3) (.get 712 (.sub (.v 1289) (.c 1)) 3)))) (.not (.eq (.get 712 (.v 1289) 4) (.get 712 (.sub (.v 1289) (.c 1)) 4))))) (.and (.lt (.c 0) (.tdiv (.v 1289) (.v 7))) (.or (.lt (.get 712 (.v 1289) 4) (.get 712 (.sub (.v 1289) (.v 7)) 4)) (.not (.eq (.get 712 (.v 1289) 3) (.get 712 (.sub (.v 1289) (.v 7)) 3)))))) (
                                 .ret [.b (.c false)]) (
                                 .ev (.need (.and (.le (.c (-9223372036854775808)) (.add (.v 1289) (.c 1))) (.le (.add (.v 1289) (.c 1)) (.c 9223372036854775807)))) (
                                  .again 7 [.b (.v 1288), .i (.add (.v 1289) (.c 1))]))))))))))))))))))))))))) (
          .ev (.call 8 (.c true) [] [.one (.c (.b))] 1546) (
           .ret [.b (.v 1546)])))))))))
theorem is6 : prune [] (execFn Try.prog cfg6 Try.f6 sg6 2000) = tree6 := by kernel_rfl
/-- rastrum.rastrumlaw19.small -/
def cfg7 : Cfg := ⟨sigsOf sigs, false, [], []⟩
def tree7 : Tree :=
  .ev (.call 19 (.c true) [.i (.v 0), .i (.v 1), .i (.v 2), .i (.v 3)] [.one (.c (.b))] 196) (
   .ev (.call 20 (.v 196) [.i (.v 0), .i (.v 1), .i (.v 2), .i (.v 3)] [.one (.c (.i .i64))] 452) (
    .ret [.b (.or (.not (.v 196)) (.le (.v 452) (.c 400)))]))
theorem is7 : prune [] (execFn Try.prog cfg7 Try.f7 sg7 2000) = tree7 := by kernel_rfl
/-- rastrum.rastrumlaw19.awake -/
def cfg8 : Cfg := ⟨sigsOf sigs, false, [], []⟩
def tree8 : Tree :=
  .ev (.call 14 (.c true) [.i (.c 128), .i (.c 128), .i (.c 0), .i (.c 0), .i (.c 0), .i (.c 0), .i (.c 0), .i (.c 1), .i (.c 0), .i (.c (-9)), .i (.c (-9)), .i (.c 9), .i (.c 9)] [.one (.s 40 [.i .i64, .i .i64, .i .i64, .i .i64, .i .i64, .i .i64, .i .i64, .i .i64])] 384) (
   .ev (.need (.or (.not (.eq (.len 384) (.c 1))) (.lt (.c 0) (.len 384)))) (
    .ev (.call 11 (.and (.eq (.len 384) (.c 1)) (.and (.eq (.get 384 (.c 0) 0) (.c 0)) (.and (.eq (.get 384 (.c 0) 1) (.c 0)) (.and (.eq (.get 384 (.c 0) 2) (.c 0)) (.and (.eq (.get 384 (.c 0) 3) (.c 0)) (.and (.eq (.get 384 (.c 0) 4) (.c 0)) (.and (.eq (.get 384 (.c 0) 5) (.c 0)) (.and (.eq (.get 384 (.c 0) 6) (.c 0)) (.eq (.get 384 (.c 0) 7) (.c 64)))))))))) [.i (.c 128), .i (.c 128), .i (.c 0), .i (.c 0), .i (.c 0), .i (.c 0), .i (.c 0), .i (.c 2)] [.agg [.c (.i .i64), .c (.i .i64), .c (.i .i64), .c (.i .i64)]] 1280) (
     .ev (.call 9 (.and (.and (.eq (.len 384) (.c 1)) (.and (.eq (.get 384 (.c 0) 0) (.c 0)) (.and (.eq (.get 384 (.c 0) 1) (.c 0)) (.and (.eq (.get 384 (.c 0) 2) (.c 0)) (.and (.eq (.get 384 (.c 0) 3) (.c 0)) (.and (.eq (.get 384 (.c 0) 4) (.c 0)) (.and (.eq (.get 384 (.c 0) 5) (.c 0)) (.and (.eq (.get 384 (.c 0) 6) (.c 0)) (.eq (.get 384 (.c 0) 7) (.c 64)))))))))) (.and (.eq (.v 1280) (.c 0)) (.and (.eq (.v 1281) (.c 0)) (.and (.eq (.v 1282) (.c 2)) (.eq (.v 1283) (.c 2)))))) [.i (.c 128), .i (.c 128), .i (.c 0), .i (.c 0), .i (.c 0), .i (.c 0), .i (.c 0), .i (.c 64), .i (.c 2)] [.one (.c (.b))] 1664) (
      .ret [.b (.and (.and (.and (.eq (.len 384) (.c 1)) (.and (.eq (.get 384 (.c 0) 0) (.c 0)) (.and (.eq (.get 384 (.c 0) 1) (.c 0)) (.and (.eq (.get 384 (.c 0) 2) (.c 0)) (.and (.eq (.get 384 (.c 0) 3) (.c 0)) (.and (.eq (.get 384 (.c 0) 4) (.c 0)) (.and (.eq (.get 384 (.c 0) 5) (.c 0)) (.and (.eq (.get 384 (.c 0) 6) (.c 0)) (.eq (.get 384 (.c 0) 7) (.c 64)))))))))) (.and (.eq (.v 1280) (.c 0)) (.and (.eq (.v 1281) (.c 0)) (.and (.eq (.v 1282) (.c 2)) (.eq (.v 1283) (.c 2)))))) (.v 1664))]))))
theorem is8 : prune [] (execFn Try.prog cfg8 Try.f8 sg8 2000) = tree8 := by kernel_rfl
/-- rastrum.dot.Right -/
def cfg9 : Cfg := ⟨sigsOf sigs, false, [], []⟩
def tree9 : Tree :=
  .ev (.call 21 (.le (.wrap .u64 (.v 8)) (.c 2)) [.i (.v 0), .i (.v 1), .i (.v 2), .i (.v 3), .i (.v 4), .i (.v 5), .i (.v 6), .i (.v 0), .i (.v 1), .i (.v 2), .i (.v 3), .i (.v 4), .i (.v 5), .i (.v 6), .i (.v 7), .i (.c 0), .i (.c 1), .i (.c 0)] [.one (.c (.b))] 649) (
   .ret [.b (.and (.le (.wrap .u64 (.v 8)) (.c 2)) (.v 649))])
theorem is9 : prune [] (execFn Try.prog cfg9 Try.f9 sg9 2000) = tree9 := by kernel_rfl
/-- rastrum.rastrumref19.Right -/
def cfg10 : Cfg := ⟨sigsOf sigs, false, [], []⟩
def tree10 : Tree :=
  .ev (.call 22 (.c true) [.i (.v 0), .i (.v 1), .i (.v 2), .i (.v 3), .i (.v 4), .i (.v 5), .i (.v 6)] [.one (.c (.b))] 201) (
   .ret [.b (.and (.and (.and (.and (.v 201) (.le (.c 1) (.v 7))) (.le (.v 7) (.c 64))) (.le (.c 0) (.v 8))) (.le (.v 8) (.c 2)))])
theorem is10 : prune [] (execFn Try.prog cfg10 Try.f10 sg10 2000) = tree10 := by kernel_rfl
/-- rastrum.dot.Box -/
def cfg11 : Cfg := ⟨sigsOf sigs, false, [], []⟩
def tree11 : Tree :=
  .ev (.call 9 (.c true) [.i (.v 0), .i (.v 1), .i (.v 2), .i (.v 3), .i (.v 4), .i (.v 5), .i (.v 6), .i (.v 7), .i (.c 0)] [.one (.c (.b))] 264) (
   .ite (.not (.v 264)) (
    .ret [.i (.c 0), .i (.c 0), .i (.c 0), .i (.c 0)]) (
    .ev (.need (.and (.le (.c (-9223372036854775808)) (.add (.v 7) (.c 1))) (.le (.add (.v 7) (.c 1)) (.c 9223372036854775807)))) (
     .ev (.need (.and (.le (.c (-9223372036854775808)) (.mul (.emod (.add (.v 7) (.c 1)) 2) (.c 128))) (.le (.mul (.emod (.add (.v 7) (.c 1)) 2) (.c 128)) (.c 9223372036854775807)))) (
      .ev (.need (.and (.le (.c (-9223372036854775808)) (.add (.v 0) (.mul (.emod (.add (.v 7) (.c 1)) 2) (.c 128)))) (.le (.add (.v 0) (.mul (.emod (.add (.v 7) (.c 1)) 2) (.c 128))) (.c 9223372036854775807)))) (
       .ev (.need (.and (.le (.c (-9223372036854775808)) (.sub (.ediv (.add (.v 0) (.mul (.emod (.add (.v 7) (.c 1)) 2) (.c 128))) 256) (.ediv (.v 7) 2))) (.le (.sub (.ediv (.add (.v 0) (.mul (.emod (.add (.v 7) (.c 1)) 2) (.c 128))) 256) (.ediv (.v 7) 2)) (.c 9223372036854775807)))) (
        .ev (.need (.and (.le (.c (-9223372036854775808)) (.add (.v 1) (.mul (.emod (.add (.v 7) (.c 1)) 2) (.c 128)))) (.le (.add (.v 1) (.mul (.emod (.add (.v 7) (.c 1)) 2) (.c 128))) (.c 9223372036854775807)))) (
         .ev (.need (.and (.le (.c (-9223372036854775808)) (.sub (.ediv (.add (.v 1) (.mul (.emod (.add (.v 7) (.c 1)) 2) (.c 128))) 256) (.ediv (.v 7) 2))) (.le (.sub (.ediv (.add (.v 1) (.mul (.emod (.add (.v 7) (.c 1)) 2) (.c 128))) 256) (.ediv (.v 7) 2)) (.c 9223372036854775807)))) (
          .ev (.need (.and (.le (.c (-9223372036854775808)) (.add (.sub (.ediv (.add (.v 0) (.mul (.emod (.add (.v 7) (.c 1)) 2) (.c 128))) 256) (.ediv (.v 7) 2)) (.v 7))) (.le (.add (.sub (.ediv (.add (.v 0) (.mul (.emod (.add (.v 7) (.c 1)) 2) (.c 128))) 256) (.ediv (.v 7) 2)) (.v 7)) (.c 9223372036854775807)))) (
           .ev (.need (.and (.le (.c (-9223372036854775808)) (.add (.sub (.ediv (.add (.v 1) (.mul (.emod (.add (.v 7) (.c 1)) 2) (.c 128))) 256) (.ediv (.v 7) 2)) (.v 7))) (.le (.add (.sub (.ediv (.add (.v 1) (.mul (.emod (.add (.v 7) (.c 1)) 2) (.c 128))) 256) (.ediv (.v 7) 2)) (.v 7)) (.c 9223372036854775807)))) (
            .ret [.i (.sub (.ediv (.add (.v 0) (.mul (.emod (.add (.v 7) (.c 1)) 2) (.c 128))) 256) (.ediv (.v 7) 2)), .i (.sub (.ediv (.add (.v 1) (.mul (.emod (.add (.v 7) (.c 1)) 2) (.c 128))) 256) (.ediv (.v 7) 2)), .i (.add (.sub (.ediv (.add (.v 0) (.mul (.emod (.add (.v 7) (.c 1)) 2) (.c 128))) 256) (.ediv (.v 7) 2)) (.v 7)), .i (.add (.sub (.ediv (.add (.v 1) (.mul (.emod (.add (.v 7) (.c 1)) 2) (.c 128))) 256) (.ediv (.v 7) 2)) (.v 7))]))))))))))
theorem is11 : prune [] (execFn Try.prog cfg11 Try.f11 sg11 2000) = tree11 := by kernel_rfl
/-- rastrum.rastrumref19.Box -/
def cfg12 : Cfg := ⟨sigsOf sigs, false, [], []⟩
def tree12 : Tree :=
  .ev (.call 10 (.c true) [.i (.v 0), .i (.v 1), .i (.v 2), .i (.v 3), .i (.v 4), .i (.v 5), .i (.v 6), .i (.v 7), .i (.c 0)] [.one (.c (.b))] 264) (
   .ite (.not (.v 264)) (
    .ret [.i (.c 0), .i (.c 0), .i (.c 0), .i (.c 0)]) (
    .ev (.call 23 (.c true) [.i (.v 0), .i (.v 7)] [.one (.c (.i .i64))] 584) (
     .ev (.call 23 (.c true) [.i (.v 1), .i (.v 7)] [.one (.c (.i .i64))] 840) (
      .ev (.need (.and (.le (.c (-9223372036854775808)) (.add (.v 584) (.v 7))) (.le (.add (.v 584) (.v 7)) (.c 9223372036854775807)))) (
       .ev (.need (.and (.le (.c (-9223372036854775808)) (.add (.v 840) (.v 7))) (.le (.add (.v 840) (.v 7)) (.c 9223372036854775807)))) (
        .ret [.i (.v 584), .i (.v 840), .i (.add (.v 584) (.v 7)), .i (.add (.v 840) (.v 7))]))))))
theorem is12 : prune [] (execFn Try.prog cfg12 Try.f12 sg12 2000) = tree12 := by kernel_rfl
/-- rastrum.rastrumref17.Same -/
def cfg13 : Cfg := ⟨sigsOf sigs, false, [(4, ⟨[], []⟩)], []⟩
def tree13 : Tree :=
  .ite (.not (.eq (.len 0) (.len 1))) (
   .ret [.b (.c false)]) (
   .loop 4 [.b (.c false), .i (.c 0)] [.c (.b), .c (.i .i64)] 450 (
    .ite (.lt (.v 451) (.len 0)) (
     .ev (.need (.le (.c 0) (.v 451))) (
      .ev (.need (.lt (.v 451) (.len 1))) (
       .ite (.not (.and (.eq (.get 0 (.v 451) 0) (.get 1 (.v 451) 0)) (.and (.eq (.get 0 (.v 451) 1) (.get 1 (.v 451) 1)) (.and (.eq (.get 0 (.v 451) 2) (.get 1 (.v 451) 2)) (.and (.eq (.get 0 (.v 451) 3) (.get 1 (.v 451) 3)) (.and (.eq (.get 0 (.v 451) 4) (.get 1 (.v 451) 4)) (.and (.eq (.get 0 (.v 451) 5) (.get 1 (.v 451) 5)) (.and (.eq (.get 0 (.v 451) 6) (.get 1 (.v 451) 6)) (.eq (.get 0 (.v 451) 7) (.get 1 (.v 451) 7)))))))))) (
        .ret [.b (.c false)]) (
        .ev (.need (.and (.le (.c (-9223372036854775808)) (.add (.v 451) (.c 1))) (.le (.add (.v 451) (.c 1)) (.c 9223372036854775807)))) (
         .again 4 [.b (.v 450), .i (.add (.v 451) (.c 1))]))))) (
     .ret [.b (.c true)])))
theorem is13 : prune [] (execFn Try.prog cfg13 Try.f13 sg13 2000) = tree13 := by kernel_rfl
/-- rastrum.dot.Point -/
def cfg14 : Cfg := ⟨sigsOf ([(26, sg26_28)] ++ sigs), false, [], []⟩
def tree14 : Tree :=
  .ev (.call 9 (.c true) [.i (.v 0), .i (.v 1), .i (.v 2), .i (.v 3), .i (.v 4), .i (.v 5), .i (.v 6), .i (.v 7), .i (.v 8)] [.one (.c (.b))] 525) (
   .ev (.call 24 (.v 525) [.i (.v 9), .i (.v 10), .i (.v 11), .i (.v 12)] [.one (.c (.b))] 781) (
    .ite (.or (.not (.v 525)) (.not (.v 781))) (
     .ret [.nil]) (
     .ite (.eq (.v 8) (.c 1)) (
      .ev (.call 25 (.c true) [.i (.v 0), .i (.v 1), .i (.v 2), .i (.v 3), .i (.v 4), .i (.v 5), .i (.v 6), .i (.v 7), .i (.v 9), .i (.v 10), .i (.v 11), .i (.v 12)] [.one (.s 40 [.i .i64, .i .i64, .i .i64, .i .i64, .i .i64, .i .i64, .i .i64, .i .i64])] 1293) (
       .ret [.l 1293])) (
      .ev (.call 11 (.c true) [.i (.v 0), .i (.v 1), .i (.v 2), .i (.v 3), .i (.v 4), .i (.v 5), .i (.v 6), .i (.v 7)] [.agg [.c (.i .i64), .c (.i .i64), .c (.i .i64), .c (.i .i64)]] 1229) (
       .ev (.call 27 (.c true) [.i (.v 1229), .i (.v 1230), .i (.v 1231), .i (.v 1232), .i (.v 9), .i (.v 10), .i (.v 11), .i (.v 12)] [.agg [.c (.i .i64), .c (.i .i64), .c (.i .i64), .c (.i .i64)]] 1357) (
        .ev (.call 26 (.c true) [.i (.v 1357), .i (.v 1358), .i (.v 1359), .i (.v 1360), .rows [(.v 0), (.v 1), (.v 2), (.v 3), (.v 4), (.v 5), (.v 6)], .rows [(.v 8)], .rows [(.v 7)]] [.one (.s 40 [.i .i64, .i .i64, .i .i64, .i .i64, .i .i64, .i .i64, .i .i64, .i .i64])] 1485) (
         .ret [.l 1485])))))))
theorem is14 : prune [] (execFn Try.prog cfg14 Try.f14 sg14 2000) = tree14 := by kernel_rfl
/-- rastrum.rastrumref19.Point -/
def cfg15 : Cfg := ⟨sigsOf sigs, false, [(6, ⟨[], [(9, 40, [.i .i64, .i .i64, .i .i64, .i .i64, .i .i64, .i .i64, .i .i64, .i .i64])]⟩), (9, ⟨[], [(9, 40, [.i .i64, .i .i64, .i .i64, .i .i64, .i .i64, .i .i64, .i .i64, .i .i64])]⟩)], []⟩
def tree15 : Tree :=
  .ev (.call 10 (.c true) [.i (.v 0), .i (.v 1), .i (.v 2), .i (.v 3), .i (.v 4), .i (.v 5), .i (.v 6), .i (.v 7), .i (.v 8)] [.one (.c (.b))] 397) (
   .ev (.call 19 (.v 397) [.i (.v 9), .i (.v 10), .i (.v 11), .i (.v 12)] [.one (.c (.b))] 653) (
    .ite (.or (.not (.v 397)) (.not (.v 653))) (
     .ret [.nil]) (
     .ev (.call 12 (.c true) [.i (.v 0), .i (.v 1), .i (.v 2), .i (.v 3), .i (.v 4), .i (.v 5), .i (.v 6), .i (.v 7)] [.agg [.c (.i .i64), .c (.i .i64), .c (.i .i64), .c (.i .i64)]] 1037) (
      .loop 6 [.nil, .i (.v 10)] [.s 40 [.i .i64, .i .i64, .i .i64, .i .i64, .i .i64, .i .i64, .i .i64, .i .i64], .c (.i .i64)] 1421 (
       .ite (.lt (.v 1422) (.v 12)) (
        .loop 9 [.l 1421, .i (.v 9)] [.s 40 [.i .i64, .i .i64, .i .i64, .i .i64, .i .i64, .i .i64, .i .i64, .i .i64], .c (.i .i64)] 1871 (
         .ite (.lt (.v 1872) (.v 11)) (
          .ite (.eq (.v 8) (.c 1)) (
           .ev (.call 30 (.c true) [.i (.v 0), .i (.v 1), .i (.v 2), .i (.v 3), .i (.v 4), .i (.v 5), .i (.v 6), .i (.v 7), .i (.v 1872), .i (.v 1422)] [.one (.c (.i .i64))] 3089) (
            .ite (.eq (.v 8) (.c 2)) (
             .ev (.need (.and (.le (.c (-9223372036854775808)) (.mul (.c 256) (.v 1872))) (.le (.mul (.c 256) (.v 1872)) (.c 9223372036854775807)))) (
              .ev (.need (.and (.le (.c (-9223372036854775808)) (.add (.mul (.c 256) (.v 1872)) (.c 128))) (.le (.add (.mul (.c 256) (.v 1872)) (.c 128)) (.c 9223372036854775807)))) (
               .ev (.need (.and (.le (.c (-9223372036854775808)) (.mul (.c 256) (.v 1422))) (.le (.mul (.c 256) (.v 1422)) (.c 9223372036854775807)))) (
                .ev (.need (.and (.le (.c (-9223372036854775808)) (.add (.mul (.c 256) (.v 1422)) (.c 128))) (.le (.add (.mul (.c 256) (.v 1422)) (.c 128)) (.c 9223372036854775807)))) (
                 .ev (.call 31 (.c true) [.i (.add (.mul (.c 256) (.v 1872)) (.c 128)), .i (.v 0), .i (.v 7)] [.one (.c (.i .i64))] 3793) (
                  .ev (.call 31 (.c true) [.i (.add (.mul (.c 256) (.v 1422)) (.c 128)), .i (.v 1), .i (.v 7)] [.one (.c (.i .i64))] 4241) (
                   .ite (.lt (.c 0) (.v 3089)) (
                    .ev (.letl 5009 (.lit [[(.v 1872), (.v 1422), (.v 2), (.v 3793), (.v 4241), (.v 5), (.v 6), (.v 3089)]])) (
                     .ev (.need (.le (.add (.len 1871) (.len 5009)) (.c 2199023255552))) (
                      .ev (.letl 5073 (.app 1871 5009)) (
                       .ev (.need (.and (.le (.c (-9223372036854775808)) (.add (.v 1872) (.c 1))) (.le (.add (.v 1872) (.c 1)) (.c 9223372036854775807)))) (
                        .again 9 [.l 5073, .i (.add (.v 1872) (.c 1))]))))) (
                    .ev (.need (.and (.le (.c (-9223372036854775808)) (.add (.v 1872) (.c 1))) (.le (.add (.v 1872) (.c 1)) (.c 9223372036854775807)))) (
                     .again 9 [.l 1871, .i (.add (.v 1872) (.c 1))]))))))))) (
             .ite (.lt (.c 0) (.v 3089)) (
              .ev (.letl 3729 (.lit [[(.v 1872), (.v 1422), (.v 2), (.v 3), (.v 4), (.v 5), (.v 6), (.v 3089)]])) (
               .ev (.need (.le (.add (.len 1871) (.len 3729)) (.c 2199023255552))) (
                .ev (.letl 3793 (.app 1871 3729)) (
                 .ev (.need (.and (.le (.c (-9223372036854775808)) (.add (.v 1872) (.c 1))) (.le (.add (.v 1872) (.c 1)) (.c 9223372036854775807)))) (
                  .again 9 [.l 3793, .i (.add (.v 1872) (.c 1))]))))) (
              .ev (.need (.and (.le (.c (-9223372036854775808)) (.add (.v 1872) (.c 1))) (.le (.add (.v 1872) (.c 1)) (.c 9223372036854775807)))) (
               .again 9 [.l 1871, .i (.add (.v 1872) (.c 1))]))))) (
           .ev (.call 17 (.c true) [.i (.v 1037), .i (.v 1038), .i (.v 1039), .i (.v 1040), .i (.v 1872), .i (.v 1422)] [.one (.c (.b))] 3025) (
            .ite (.not (.v 3025)) (
             .ite (.eq (.v 8) (.c 2)) (
              .ev (.need (.and (.le (.c (-9223372036854775808)) (.mul (.c 256) (.v 1872))) (.le (.mul (.c 256) (.v 1872)) (.c 9223372036854775807)))) (
               .ev (.need (.and (.le (.c (-9223372036854775808)) (.add (.mul (.c 256) (.v 1872)) (.c 128))) (.le (.add (.mul (.c 256) (.v 1872)) (.c 128)) (.c 9223372036854775807)))) (
                .ev (.need (.and (.le (.c (-9223372036854775808)) (.mul (.c 256) (.v 1422))) (.le (.mul (.c 256) (.v 1422)) (.c 9223372036854775807)))) (
                 .ev (.need (.and (.le (.c (-9223372036854775808)) (.add (.mul (.c 256) (.v 1422)) (.c 128))) (.le (.add (.mul (.c 256) (.v 1422)) (.c 128)) (.c 9223372036854775807)))) (
                  .ev (.call 31 (.c true) [.i (.add (.mul (.c 256) (.v 1872)) (.c 128)), .i (.v 0), .i (.v 7)] [.one (.c (.i .i64))] 3793) (
                   .ev (.call 31 (.c true) [.i (.add (.mul (.c 256) (.v 1422)) (.c 128)), .i (.v 1), .i (.v 7)] [.one (.c (.i .i64))] 4241) (
                    .ev (.need (.and (.le (.c (-9223372036854775808)) (.add (.v 1872) (.c 1))) (.le (.add (.v 1872) (.c 1)) (.c 9223372036854775807)))) (
                     .again 9 [.l 1871, .i (.add (.v 1872) (.c 1))])))))))) (
              .ev (.need (.and (.le (.c (-9223372036854775808)) (.add (.v 1872) (.c 1))) (.le (.add (.v 1872) (.c 1)) (.c 9223372036854775807)))) (
               .again 9 [.l 1871, .i (.add (.v 1872) (.c 1))]))) (
             .ite (.eq (.v 8) (.c 2)) (
              .ev (.need (.and (.le (.c (-9223372036854775808)) (.mul (.c 256) (.v 1872))) (.le (.mul (.c 256) (.v 1872)) (.c 9223372036854775807)))) (
               .ev (.need (.and (.le (.c (-9223372036854775808)) (.add (.mul (.c 256) (.v 1872)) (.c 128))) (.le (.add (.mul (.c 256) (.v 1872)) (.c 128)) (.c 9223372036854775807)))) (
                .ev (.need (.and (.le (.c (-9223372036854775808)) (.mul (.c 256) (.v 1422))) (.le (.mul (.c 256) (.v 1422)) (.c 9223372036854775807)))) (
                 .ev (.need (.and (.le (.c (-9223372036854775808)) (.add (.mul (.c 256) (.v 1422)) (.c 128))) (.le (.add (.mul (.c 256) (.v 1422)) (.c 128)) (.c 9223372036854775807)))) (
                  .ev (.call 31 (.c true) [.i (.add (.mul (.c 256) (.v 1872)) (.c 128)), .i (.v 0), .i (.v 7)] [.one (.c (.i .i64))] 3665) (
                   .ev (.call 31 (.c true) [.i (.add (.mul (.c 256) (.v 1422)) (.c 128)), .i (.v 1), .i (.v 7)] [.one (.c (.i .i64))] 4113) (
                    .ev (.letl 4881 (.lit [[(.v 1872), (.v 1422), (.v 2), (.v 3665), (.v 4113), (.v 5), (.v 6), (.c 64)]])) (
                     .ev (.need (.le (.add (.len 1871) (.len 4881)) (.c 2199023255552))) (
                      .ev (.letl 4945 (.app 1871 4881)) (
                       .ev (.need (.and (.le (.c (-9223372036854775808)) (.add (.v 1872) (.c 1))) (.le (.add (.v 1872) (.c 1)) (.c 9223372036854775807)))) (
                        .again 9 [.l 4945, .i (.add (.v 1872) (.c 1))]))))))))))) (
              .ev (.letl 3601 (.lit [[(.v 1872), (.v 1422), (.v 2), (.v 3), (.v 4), (.v 5), (.v 6), (.c 64)]])) (
               .ev (.need (.le (.add (.len 1871) (.len 3601)) (.c 2199023255552))) (
                .ev (.letl 3665 (.app 1871 3601)) (
                 .ev (.need (.and (.le (.c (-9223372036854775808)) (.add (.v 1872) (.c 1))) (.le (.add (.v 1872) (.c 1)) (.c 9223372036854775807)))) (
                  .again 9 [.l 3665, .i (.add (.v 1872) (.c 1))]))))))))) (
          .ev (.need (.and (.le (.c (-9223372036854775808)) (.add (.v 1422) (.c 1))) (.le (.add (.v 1422) (.c 1)) (.c 9223372036854775807)))) (
           .again 6 [.l 1871, .i (.add (.v 1422) (.c 1))])))) (
        .ret [.l 1421]))))))
theorem is15 : prune [] (execFn Try.prog cfg15 Try.f15 sg15 2000) = tree15 := by kernel_rfl
/-- rastrum.rastrumlaw19.whole -/
def cfg16 : Cfg := ⟨sigsOf sigs, false, [], []⟩
def tree16 : Tree :=
  .ev (.need (.and (.le (.c (-9223372036854775808)) (.tdiv (.v 0) (.c 256))) (.le (.tdiv (.v 0) (.c 256)) (.c 9223372036854775807)))) (
   .ev (.need (.and (.le (.c (-9223372036854775808)) (.tdiv (.v 1) (.c 256))) (.le (.tdiv (.v 1) (.c 256)) (.c 9223372036854775807)))) (
    .ev (.need (.and (.le (.c (-9223372036854775808)) (.sub (.tdiv (.v 0) (.c 256)) (.v 7))) (.le (.sub (.tdiv (.v 0) (.c 256)) (.v 7)) (.c 9223372036854775807)))) (
     .ev (.need (.and (.le (.c (-9223372036854775808)) (.sub (.sub (.tdiv (.v 0) (.c 256)) (.v 7)) (.c 2))) (.le (.sub (.sub (.tdiv (.v 0) (.c 256)) (.v 7)) (.c 2)) (.c 9223372036854775807)))) (
      .ev (.need (.and (.le (.c (-9223372036854775808)) (.sub (.tdiv (.v 1) (.c 256)) (.v 7))) (.le (.sub (.tdiv (.v 1) (.c 256)) (.v 7)) (.c 9223372036854775807)))) (
       .ev (.need (.and (.le (.c (-9223372036854775808)) (.sub (.sub (.tdiv (.v 1) (.c 256)) (.v 7)) (.c 2))) (.le (.sub (.sub (.tdiv (.v 1) (.c 256)) (.v 7)) (.c 2)) (.c 9223372036854775807)))) (
        .ev (.need (.and (.le (.c (-9223372036854775808)) (.add (.tdiv (.v 0) (.c 256)) (.v 7))) (.le (.add (.tdiv (.v 0) (.c 256)) (.v 7)) (.c 9223372036854775807)))) (
         .ev (.need (.and (.le (.c (-9223372036854775808)) (.add (.add (.tdiv (.v 0) (.c 256)) (.v 7)) (.c 3))) (.le (.add (.add (.tdiv (.v 0) (.c 256)) (.v 7)) (.c 3)) (.c 9223372036854775807)))) (
          .ev (.need (.and (.le (.c (-9223372036854775808)) (.add (.tdiv (.v 1) (.c 256)) (.v 7))) (.le (.add (.tdiv (.v 1) (.c 256)) (.v 7)) (.c 9223372036854775807)))) (
           .ev (.need (.and (.le (.c (-9223372036854775808)) (.add (.add (.tdiv (.v 1) (.c 256)) (.v 7)) (.c 3))) (.le (.add (.add (.tdiv (.v 1) (.c 256)) (.v 7)) (.c 3)) (.c 9223372036854775807)))) (
            .ret [.i (.sub (.sub (.tdiv (.v 0) (.c 256)) (.v 7)) (.c 2)), .i (.sub (.sub (.tdiv (.v 1) (.c 256)) (.v 7)) (.c 2)), .i (.add (.add (.tdiv (.v 0) (.c 256)) (.v 7)) (.c 3)), .i (.add (.add (.tdiv (.v 1) (.c 256)) (.v 7)) (.c 3))]))))))))))
theorem is16 : prune [] (execFn Try.prog cfg16 Try.f16 sg16 2000) = tree16 := by kernel_rfl
/-- rastrum.rastrumref12.Has -/
def cfg17 : Cfg := ⟨sigsOf sigs, false, [], []⟩
def tree17 : Tree :=
  .ev (.call 19 (.c true) [.i (.v 0), .i (.v 1), .i (.v 2), .i (.v 3)] [.one (.c (.b))] 198) (
   .ret [.b (.and (.and (.and (.and (.v 198) (.le (.v 0) (.v 4))) (.lt (.v 4) (.v 2))) (.le (.v 1) (.v 5))) (.lt (.v 5) (.v 3)))])
theorem is17 : prune [] (execFn Try.prog cfg17 Try.f17 sg17 2000) = tree17 := by kernel_rfl
/-- rastrum.rastrumref12.And -/
def cfg18 : Cfg := ⟨sigsOf sigs, false, [], []⟩
def tree18 : Tree :=
  .ev (.call 19 (.c true) [.i (.v 0), .i (.v 1), .i (.v 2), .i (.v 3)] [.one (.c (.b))] 264) (
   .ev (.call 19 (.v 264) [.i (.v 4), .i (.v 5), .i (.v 6), .i (.v 7)] [.one (.c (.b))] 520) (
    .ite (.or (.not (.v 264)) (.not (.v 520))) (
     .ret [.i (.c 0), .i (.c 0), .i (.c 0), .i (.c 0)]) (
     .ev (.call 19 (.c true) [.i (.max (.v 0) (.v 4)), .i (.max (.v 1) (.v 5)), .i (.min (.v 2) (.v 6)), .i (.min (.v 3) (.v 7))] [.one (.c (.b))] 2248) (
      .ite (.not (.v 2248)) (
       .ret [.i (.c 0), .i (.c 0), .i (.c 0), .i (.c 0)]) (
       .ret [.i (.max (.v 0) (.v 4)), .i (.max (.v 1) (.v 5)), .i (.min (.v 2) (.v 6)), .i (.min (.v 3) (.v 7))])))))
theorem is18 : prune [] (execFn Try.prog cfg18 Try.f18 sg18 2000) = tree18 := by kernel_rfl
/-- rastrum.rastrumref12.Right -/
def cfg19 : Cfg := ⟨sigsOf sigs, false, [], []⟩
def tree19 : Tree :=
  .ite (.or (.lt (.v 0) (.c (-4194304))) (.lt (.c 4194304) (.v 0))) (
   .ret [.b (.c false)]) (
   .ite (.or (.lt (.v 2) (.c (-4194304))) (.lt (.c 4194304) (.v 2))) (
    .ret [.b (.c false)]) (
    .ite (.or (.lt (.v 1) (.c (-4194304))) (.lt (.c 4194304) (.v 1))) (
     .ret [.b (.c false)]) (
     .ite (.or (.lt (.v 3) (.c (-4194304))) (.lt (.c 4194304) (.v 3))) (
      .ret [.b (.c false)]) (
      .ret [.b (.and (.lt (.v 0) (.v 2)) (.lt (.v 1) (.v 3)))]))))
theorem is19 : prune [] (execFn Try.prog cfg19 Try.f19 sg19 2000) = tree19 := by kernel_rfl
/-- rastrum.rastrumref12.Area -/
def cfg20 : Cfg := ⟨sigsOf sigs, false, [], []⟩
def tree20 : Tree :=
  .ev (.call 19 (.c true) [.i (.v 0), .i (.v 1), .i (.v 2), .i (.v 3)] [.one (.c (.b))] 196) (
   .ite (.not (.v 196)) (
    .ret [.i (.c 0)]) (
    .ev (.need (.and (.le (.c (-9223372036854775808)) (.sub (.v 2) (.v 0))) (.le (.sub (.v 2) (.v 0)) (.c 9223372036854775807)))) (
     .ev (.need (.and (.le (.c (-9223372036854775808)) (.sub (.v 3) (.v 1))) (.le (.sub (.v 3) (.v 1)) (.c 9223372036854775807)))) (
      .ev (.need (.and (.le (.c (-9223372036854775808)) (.mul (.sub (.v 2) (.v 0)) (.sub (.v 3) (.v 1)))) (.le (.mul (.sub (.v 2) (.v 0)) (.sub (.v 3) (.v 1))) (.c 9223372036854775807)))) (
       .ret [.i (.mul (.sub (.v 2) (.v 0)) (.sub (.v 3) (.v 1)))])))))
theorem is20 : prune [] (execFn Try.prog cfg20 Try.f20 sg20 2000) = tree20 := by kernel_rfl
/-- rastrum.wide.Right -/
def cfg21 : Cfg := ⟨sigsOf sigs, false, [], []⟩
def tree21 : Tree :=
  .ev (.call 32 (.c true) [.i (.v 0), .i (.v 1), .i (.v 2), .i (.v 3), .i (.v 4), .i (.v 5), .i (.v 6)] [.one (.c (.b))] 338) (
   .ev (.call 32 (.v 338) [.i (.v 7), .i (.v 8), .i (.v 9), .i (.v 10), .i (.v 11), .i (.v 12), .i (.v 13)] [.one (.c (.b))] 530) (
    .ev (.call 33 (.and (.and (.and (.v 338) (.v 530)) (.le (.c 1) (.v 14))) (.le (.v 14) (.c 64))) [.i (.v 15), .i (.v 16), .i (.v 17)] [.one (.c (.b))] 1298) (
     .ret [.b (.and (.and (.and (.and (.v 338) (.v 530)) (.le (.c 1) (.v 14))) (.le (.v 14) (.c 64))) (.v 1298))])))
theorem is21 : prune [] (execFn Try.prog cfg21 Try.f21 sg21 2000) = tree21 := by kernel_rfl
/-- rastrum.rastrumref17.May -/
def cfg22 : Cfg := ⟨sigsOf sigs, false, [], []⟩
def tree22 : Tree :=
  .ite (.or (.lt (.v 3) (.c 0)) (.lt (.c 255) (.v 3))) (
   .ret [.b (.c false)]) (
   .ite (.or (.lt (.v 4) (.c 0)) (.lt (.c 255) (.v 4))) (
    .ret [.b (.c false)]) (
    .ite (.or (.lt (.v 5) (.c 0)) (.lt (.c 255) (.v 5))) (
     .ret [.b (.c false)]) (
     .ite (.or (.lt (.v 6) (.c 0)) (.lt (.c 255) (.v 6))) (
      .ret [.b (.c false)]) (
      .ret [.b (.and (.and (.and (.and (.and (.le (.c (-268435456)) (.v 0)) (.le (.v 0) (.c 268435456))) (.le (.c (-268435456)) (.v 1))) (.le (.v 1) (.c 268435456))) (.le (.c 0) (.v 2))) (.le (.v 2) (.c 16777215)))]))))
theorem is22 : prune [] (execFn Try.prog cfg22 Try.f22 sg22 2000) = tree22 := by kernel_rfl
/-- rastrum.rastrumref19.first -/
def cfg23 : Cfg := ⟨sigsOf sigs, false, [], []⟩
def tree23 : Tree :=
  .ite (.eq (.tmod (.v 1) (.c 2)) (.c 1)) (
   .ev (.call 34 (.c true) [.i (.v 0), .i (.c 256)] [.one (.c (.i .i64))] 322) (
    .ev (.need (.and (.le (.c (-9223372036854775808)) (.sub (.v 1) (.c 1))) (.le (.sub (.v 1) (.c 1)) (.c 9223372036854775807)))) (
     .ev (.need (.and (.le (.c (-9223372036854775808)) (.tdiv (.sub (.v 1) (.c 1)) (.c 2))) (.le (.tdiv (.sub (.v 1) (.c 1)) (.c 2)) (.c 9223372036854775807)))) (
      .ev (.need (.and (.le (.c (-9223372036854775808)) (.sub (.v 322) (.tdiv (.sub (.v 1) (.c 1)) (.c 2)))) (.le (.sub (.v 322) (.tdiv (.sub (.v 1) (.c 1)) (.c 2))) (.c 9223372036854775807)))) (
       .ret [.i (.sub (.v 322) (.tdiv (.sub (.v 1) (.c 1)) (.c 2)))]))))) (
   .ev (.need (.and (.le (.c (-9223372036854775808)) (.add (.v 0) (.c 128))) (.le (.add (.v 0) (.c 128)) (.c 9223372036854775807)))) (
    .ev (.call 34 (.c true) [.i (.add (.v 0) (.c 128)), .i (.c 256)] [.one (.c (.i .i64))] 386) (
     .ev (.need (.and (.le (.c (-9223372036854775808)) (.tdiv (.v 1) (.c 2))) (.le (.tdiv (.v 1) (.c 2)) (.c 9223372036854775807)))) (
      .ev (.need (.and (.le (.c (-9223372036854775808)) (.sub (.v 386) (.tdiv (.v 1) (.c 2)))) (.le (.sub (.v 386) (.tdiv (.v 1) (.c 2))) (.c 9223372036854775807)))) (
       .ret [.i (.sub (.v 386) (.tdiv (.v 1) (.c 2)))])))))
theorem is23 : prune [] (execFn Try.prog cfg23 Try.f23 sg23 2000) = tree23 := by kernel_rfl
/-- rastrum.rect.Right -/
def cfg24 : Cfg := ⟨sigsOf sigs, false, [], []⟩
def tree24 : Tree :=
  .ite (.or (.lt (.v 0) (.c (-4194304))) (.lt (.c 4194304) (.v 0))) (
   .ret [.b (.c false)]) (
   .ite (.or (.lt (.v 2) (.c (-4194304))) (.lt (.c 4194304) (.v 2))) (
    .ret [.b (.c false)]) (
    .ite (.or (.lt (.v 1) (.c (-4194304))) (.lt (.c 4194304) (.v 1))) (
     .ret [.b (.c false)]) (
     .ite (.or (.lt (.v 3) (.c (-4194304))) (.lt (.c 4194304) (.v 3))) (
      .ret [.b (.c false)]) (
      .ret [.b (.and (.lt (.v 0) (.v 2)) (.lt (.v 1) (.v 3)))]))))
theorem is24 : prune [] (execFn Try.prog cfg24 Try.f24 sg24 2000) = tree24 := by kernel_rfl
/-- rastrum.dot.round -/
def cfg25 : Cfg := ⟨sigsOf ([(26, sg26_35)] ++ sigs), false, [], []⟩
def tree25 : Tree :=
  .ev (.need (.and (.le (.c (-9223372036854775808)) (.mul (.v 7) (.c 128))) (.le (.mul (.v 7) (.c 128)) (.c 9223372036854775807)))) (
   .ev (.need (.and (.le (.c (-9223372036854775808)) (.sub (.v 0) (.mul (.v 7) (.c 128)))) (.le (.sub (.v 0) (.mul (.v 7) (.c 128))) (.c 9223372036854775807)))) (
    .ev (.need (.and (.le (.c (-9223372036854775808)) (.sub (.ediv (.sub (.v 0) (.mul (.v 7) (.c 128))) 256) (.c 1))) (.le (.sub (.ediv (.sub (.v 0) (.mul (.v 7) (.c 128))) 256) (.c 1)) (.c 9223372036854775807)))) (
     .ev (.need (.and (.le (.c (-9223372036854775808)) (.sub (.v 1) (.mul (.v 7) (.c 128)))) (.le (.sub (.v 1) (.mul (.v 7) (.c 128))) (.c 9223372036854775807)))) (
      .ev (.need (.and (.le (.c (-9223372036854775808)) (.sub (.ediv (.sub (.v 1) (.mul (.v 7) (.c 128))) 256) (.c 1))) (.le (.sub (.ediv (.sub (.v 1) (.mul (.v 7) (.c 128))) 256) (.c 1)) (.c 9223372036854775807)))) (
       .ev (.need (.and (.le (.c (-9223372036854775808)) (.add (.v 0) (.mul (.v 7) (.c 128)))) (.le (.add (.v 0) (.mul (.v 7) (.c 128))) (.c 9223372036854775807)))) (
        .ev (.need (.and (.le (.c (-9223372036854775808)) (.add (.ediv (.add (.v 0) (.mul (.v 7) (.c 128))) 256) (.c 2))) (.le (.add (.ediv (.add (.v 0) (.mul (.v 7) (.c 128))) 256) (.c 2)) (.c 9223372036854775807)))) (
         .ev (.need (.and (.le (.c (-9223372036854775808)) (.add (.v 1) (.mul (.v 7) (.c 128)))) (.le (.add (.v 1) (.mul (.v 7) (.c 128))) (.c 9223372036854775807)))) (
          .ev (.need (.and (.le (.c (-9223372036854775808)) (.add (.ediv (.add (.v 1) (.mul (.v 7) (.c 128))) 256) (.c 2))) (.le (.add (.ediv (.add (.v 1) (.mul (.v 7) (.c 128))) 256) (.c 2)) (.c 9223372036854775807)))) (
           .ev (.call 27 (.c true) [.i (.sub (.ediv (.sub (.v 0) (.mul (.v 7) (.c 128))) 256) (.c 1)), .i (.sub (.ediv (.sub (.v 1) (.mul (.v 7) (.c 128))) 256) (.c 1)), .i (.add (.ediv (.add (.v 0) (.mul (.v 7) (.c 128))) 256) (.c 2)), .i (.add (.ediv (.add (.v 1) (.mul (.v 7) (.c 128))) 256) (.c 2)), .i (.v 8), .i (.v 9), .i (.v 10), .i (.v 11)] [.agg [.c (.i .i64), .c (.i .i64), .c (.i .i64), .c (.i .i64)]] 2316) (
            .ev (.call 26 (.c true) [.i (.v 2316), .i (.v 2317), .i (.v 2318), .i (.v 2319), .rows [(.v 0), (.v 1), (.v 2), (.v 3), (.v 4), (.v 5), (.v 6)], .rows [(.mul (.v 7) (.c 128))]] [.one (.s 40 [.i .i64, .i .i64, .i .i64, .i .i64, .i .i64, .i .i64, .i .i64, .i .i64])] 2444) (
             .ret [.l 2444])))))))))))
theorem is25 : prune [] (execFn Try.prog cfg25 Try.f25 sg25 2000) = tree25 := by kernel_rfl
/-- rastrum.rect.And -/
def cfg27 : Cfg := ⟨sigsOf sigs, false, [], []⟩
def tree27 : Tree :=
  .ev (.call 24 (.c true) [.i (.v 0), .i (.v 1), .i (.v 2), .i (.v 3)] [.one (.c (.b))] 264) (
   .ev (.call 24 (.v 264) [.i (.v 4), .i (.v 5), .i (.v 6), .i (.v 7)] [.one (.c (.b))] 520) (
    .ite (.or (.not (.v 264)) (.not (.v 520))) (
     .ret [.i (.c 0), .i (.c 0), .i (.c 0), .i (.c 0)]) (
     .ev (.call 24 (.c true) [.i (.max (.v 0) (.v 4)), .i (.max (.v 1) (.v 5)), .i (.min (.v 2) (.v 6)), .i (.min (.v 3) (.v 7))] [.one (.c (.b))] 2248) (
      .ite (.not (.v 2248)) (
       .ret [.i (.c 0), .i (.c 0), .i (.c 0), .i (.c 0)]) (
       .ret [.i (.max (.v 0) (.v 4)), .i (.max (.v 1) (.v 5)), .i (.min (.v 2) (.v 6)), .i (.min (.v 3) (.v 7))])))))
theorem is27 : prune [] (execFn Try.prog cfg27 Try.f27 sg27 2000) = tree27 := by kernel_rfl
/-- rastrum.dot.Point$1 -/
def cfg28 : Cfg := ⟨sigsOf sigs, false, [], []⟩
def tree28 : Tree :=
  .ev (.need (.lt (.c 0) (.len 2))) (
   .ev (.need (.lt (.c 2) (.len 2))) (
    .ev (.need (.le (.c 7) (.len 2))) (
     .ev (.need (.lt (.c 0) (.len 3))) (
      .ite (.eq (.get 3 (.c 0) 0) (.c 2)) (
       .ev (.need (.and (.le (.c (-9223372036854775808)) (.mul (.v 0) (.c 256))) (.le (.mul (.v 0) (.c 256)) (.c 9223372036854775807)))) (
        .ev (.need (.and (.le (.c (-9223372036854775808)) (.add (.mul (.v 0) (.c 256)) (.c 128))) (.le (.add (.mul (.v 0) (.c 256)) (.c 128)) (.c 9223372036854775807)))) (
         .ev (.need (.and (.le (.c (-9223372036854775808)) (.sub (.add (.mul (.v 0) (.c 256)) (.c 128)) (.get 2 (.c 0) 0))) (.le (.sub (.add (.mul (.v 0) (.c 256)) (.c 128)) (.get 2 (.c 0) 0)) (.c 9223372036854775807)))) (
          .ev (.need (.lt (.c 0) (.len 4))) (
           .ev (.need (.and (.le (.c (-9223372036854775808)) (.mul (.get 4 (.c 0) 0) (.c 128))) (.le (.mul (.get 4 (.c 0) 0) (.c 128)) (.c 9223372036854775807)))) (
            .ev (.need (.and (.le (.c (-9223372036854775808)) (.add (.sub (.add (.mul (.v 0) (.c 256)) (.c 128)) (.get 2 (.c 0) 0)) (.mul (.get 4 (.c 0) 0) (.c 128)))) (.le (.add (.sub (.add (.mul (.v 0) (.c 256)) (.c 128)) (.get 2 (.c 0) 0)) (.mul (.get 4 (.c 0) 0) (.c 128))) (.c 9223372036854775807)))) (
             .ev (.call 29 (.c true) [.i (.add (.sub (.add (.mul (.v 0) (.c 256)) (.c 128)) (.get 2 (.c 0) 0)) (.mul (.get 4 (.c 0) 0) (.c 128))), .i (.get 4 (.c 0) 0)] [.one (.c (.i .i64))] 1413) (
              .ev (.need (.and (.le (.c (-9223372036854775808)) (.mul (.v 1) (.c 256))) (.le (.mul (.v 1) (.c 256)) (.c 9223372036854775807)))) (
               .ev (.need (.and (.le (.c (-9223372036854775808)) (.add (.mul (.v 1) (.c 256)) (.c 128))) (.le (.add (.mul (.v 1) (.c 256)) (.c 128)) (.c 9223372036854775807)))) (
                .ev (.need (.lt (.c 0) (.len 2))) (
                 .ev (.need (.lt (.c 1) (.len 2))) (
                  .ev (.need (.and (.le (.c (-9223372036854775808)) (.sub (.add (.mul (.v 1) (.c 256)) (.c 128)) (.get 2 (.c 1) 0))) (.le (.sub (.add (.mul (.v 1) (.c 256)) (.c 128)) (.get 2 (.c 1) 0)) (.c 9223372036854775807)))) (
                   .ev (.need (.lt (.c 0) (.len 4))) (
                    .ev (.need (.and (.le (.c (-9223372036854775808)) (.mul (.get 4 (.c 0) 0) (.c 128))) (.le (.mul (.get 4 (.c 0) 0) (.c 128)) (.c 9223372036854775807)))) (
                     .ev (.need (.and (.le (.c (-9223372036854775808)) (.add (.sub (.add (.mul (.v 1) (.c 256)) (.c 128)) (.get 2 (.c 1) 0)) (.mul (.get 4 (.c 0) 0) (.c 128)))) (.le (.add (.sub (.add (.mul (.v 1) (.c 256)) (.c 128)) (.get 2 (.c 1) 0)) (.mul (.get 4 (.c 0) 0) (.c 128))) (.c 9223372036854775807)))) (
                      .ev (.call 29 (.c true) [.i (.add (.sub (.add (.mul (.v 1) (.c 256)) (.c 128)) (.get 2 (.c 1) 0)) (.mul (.get 4 (.c 0) 0) (.c 128))), .i (.get 4 (.c 0) 0)] [.one (.c (.i .i64))] 2437) (
                       .ret [.i (.v 0), .i (.v 1), .i (.get 2 (.c 2) 0), .i (.min (.max (.v 1413) (.c 0)) (.c 255)), .i (.min (.max (.v 2437) (.c 0)) (.c 255)), .i (.get 2 (.c 5) 0), .i (.get 2 (.c 6) 0), .i (.c 64)]))))))))))))))))) (
       .ret [.i (.v 0), .i (.v 1), .i (.get 2 (.c 2) 0), .i (.get 2 (.c 3) 0), .i (.get 2 (.c 4) 0), .i (.get 2 (.c 5) 0), .i (.get 2 (.c 6) 0), .i (.c 64)])))))
theorem is28 : prune [] (execFn Try.prog cfg28 Try.f28 sg28 2000) = tree28 := by kernel_rfl
/-- rastrum.dot.floor -/
def cfg29 : Cfg := ⟨sigsOf sigs, false, [], []⟩
def tree29 : Tree :=
  .ev (.need (.ne0 (.v 1))) (
   .ite (.lt (.tmod (.v 0) (.v 1)) (.c 0)) (
    .ev (.need (.and (.le (.c (-9223372036854775808)) (.tdiv (.v 0) (.v 1))) (.le (.tdiv (.v 0) (.v 1)) (.c 9223372036854775807)))) (
     .ev (.need (.and (.le (.c (-9223372036854775808)) (.sub (.tdiv (.v 0) (.v 1)) (.c 1))) (.le (.sub (.tdiv (.v 0) (.v 1)) (.c 1)) (.c 9223372036854775807)))) (
      .ret [.i (.sub (.tdiv (.v 0) (.v 1)) (.c 1))]))) (
    .ev (.need (.and (.le (.c (-9223372036854775808)) (.tdiv (.v 0) (.v 1))) (.le (.tdiv (.v 0) (.v 1)) (.c 9223372036854775807)))) (
     .ret [.i (.tdiv (.v 0) (.v 1))])))
theorem is29 : prune [] (execFn Try.prog cfg29 Try.f29 sg29 2000) = tree29 := by kernel_rfl
/-- rastrum.rastrumref19.Cover -/
def cfg30 : Cfg := ⟨sigsOf sigs, false, [(3, ⟨[], []⟩), (6, ⟨[], []⟩)], []⟩
def tree30 : Tree :=
  .loop 3 [.i (.c 0), .i (.c 0)] [.c (.i .i64), .c (.i .i64)] 266 (
   .ite (.lt (.v 267) (.c 8)) (
    .loop 6 [.i (.v 266), .i (.c 0)] [.c (.i .i64), .c (.i .i64)] 460 (
     .ite (.lt (.v 461) (.c 8)) (
      .ev (.need (.and (.le (.c (-9223372036854775808)) (.mul (.c 256) (.v 8))) (.le (.mul (.c 256) (.v 8)) (.c 9223372036854775807)))) (
       .ev (.need (.and (.le (.c (-9223372036854775808)) (.mul (.c 32) (.v 267))) (.le (.mul (.c 32) (.v 267)) (.c 9223372036854775807)))) (
        .ev (.need (.and (.le (.c (-9223372036854775808)) (.add (.mul (.c 256) (.v 8)) (.mul (.c 32) (.v 267)))) (.le (.add (.mul (.c 256) (.v 8)) (.mul (.c 32) (.v 267))) (.c 9223372036854775807)))) (
         .ev (.need (.and (.le (.c (-9223372036854775808)) (.add (.add (.mul (.c 256) (.v 8)) (.mul (.c 32) (.v 267))) (.c 16))) (.le (.add (.add (.mul (.c 256) (.v 8)) (.mul (.c 32) (.v 267))) (.c 16)) (.c 9223372036854775807)))) (
          .ev (.need (.and (.le (.c (-9223372036854775808)) (.sub (.add (.add (.mul (.c 256) (.v 8)) (.mul (.c 32) (.v 267))) (.c 16)) (.v 0))) (.le (.sub (.add (.add (.mul (.c 256) (.v 8)) (.mul (.c 32) (.v 267))) (.c 16)) (.v 0)) (.c 9223372036854775807)))) (
           .ev (.need (.and (.le (.c (-9223372036854775808)) (.mul (.c 256) (.v 9))) (.le (.mul (.c 256) (.v 9)) (.c 9223372036854775807)))) (
            .ev (.need (.and (.le (.c (-9223372036854775808)) (.mul (.c 32) (.v 461))) (.le (.mul (.c 32) (.v 461)) (.c 9223372036854775807)))) (
             .ev (.need (.and (.le (.c (-9223372036854775808)) (.add (.mul (.c 256) (.v 9)) (.mul (.c 32) (.v 461)))) (.le (.add (.mul (.c 256) (.v 9)) (.mul (.c 32) (.v 461))) (.c 9223372036854775807)))) (
              .ev (.need (.and (.le (.c (-9223372036854775808)) (.add (.add (.mul (.c 256) (.v 9)) (.mul (.c 32) (.v 461))) (.c 16))) (.le (.add (.add (.mul (.c 256) (.v 9)) (.mul (.c 32) (.v 461))) (.c 16)) (.c 9223372036854775807)))) (
               .ev (.need (.and (.le (.c (-9223372036854775808)) (.sub (.add (.add (.mul (.c 256) (.v 9)) (.mul (.c 32) (.v 461))) (.c 16)) (.v 1))) (.le (.sub (.add (.add (.mul (.c 256) (.v 9)) (.mul (.c 32) (.v 461))) (.c 16)) (.v 1)) (.c 9223372036854775807)))) (
                .ev (.need (.and (.le (.c (-9223372036854775808)) (.mul (.sub (.add (.add (.mul (.c 256) (.v 8)) (.mul (.c 32) (.v 267))) (.c 16)) (.v 0)) (.sub (.add (.add (.mul (.c 256) (.v 8)) (.mul (.c 32) (.v 267))) (.c 16)) (.v 0)))) (.le (.mul (.sub (.add (.add (.mul (.c 256) (.v 8)) (.mul (.c 32) (.v 267))) (.c 16)) (.v 0)) (.sub (.add (.add (.mul (.c 256) (.v 8)) (.mul (.c 32) (.v 267))) (.c 16)) (.v 0))) (.c 9223372036854775807)))) (
                 .ev (.need (.and (.le (.c (-9223372036854775808)) (.mul (.sub (.add (.add (.mul (.c 256) (.v 9)) (.mul (.c 32) (.v 461))) (.c 16)) (.v 1)) (.sub (.add (.add (.mul (.c 256) (.v 9)) (.mul (.c 32) (.v 461))) (.c 16)) (.v 1)))) (.le (.mul (.sub (.add (.add (.mul (.c 256) (.v 9)) (.mul (.c 32) (.v 461))) (.c 16)) (.v 1)) (.sub (.add (.add (.mul (.c 256) (.v 9)) (.mul (.c 32) (.v 461))) (.c 16)) (.v 1))) (.c 9223372036854775807)))) (
                  .ev (.need (.and (.le (.c (-9223372036854775808)) (.add (.mul (.sub (.add (.add (.mul (.c 256) (.v 8)) (.mul (.c 32) (.v 267))) (.c 16)) (.v 0)) (.sub (.add (.add (.mul (.c 256) (.v 8)) (.mul (.c 32) (.v 267))) (.c 16)) (.v 0))) (.mul (.sub (.add (.add (.mul (.c 256) (.v 9)) (.mul (.c 32) (.v 461))) (.c 16)) (.v 1)) (.sub (.add (.add (.mul (.c 256) (.v 9)) (.mul (.c 32) (.v 461))) (.c 16)) (.v 1))))) (.le (.add (.mul (.sub (.add (.add (.mul (.c 256) (.v 8)) (.mul (.c 32) (.v 267))) (.c 16)) (.v 0)) (.sub (.add (.add (.mul (.c 256) (.v 8)) (.mul (.c 32) (.v 267))) (.c 16)) (.v 0))) (.mul (.sub (.add (.add (.mul (.c 256) (.v 9)) (.mul (.c 32) (.v 461))) (.c 16)) (.v 1)) (.sub (.add (.add (.mul (.c 256) (.v 9)) (.mul (.c 32) (.v 461))) (.c 16)) (.v 1)))) (.c 9223372036854775807)))) (
                   .ev (.need (.and (.le (.c (-9223372036854775808)) (.mul (.c 128) (.v 7))) (.le (.mul (.c 128) (.v 7)) (.c 9223372036854775807)))) (
                    .ev (.need (.and (.le (.c (-9223372036854775808)) (.mul (.mul (.c 128) (.v 7)) (.c 128))) (.le (.mul (.mul (.c 128) (.v 7)) (.c 128)) (.c 9223372036854775807)))) (
                     .ev (.need (.and (.le (.c (-9223372036854775808)) (.mul (.mul (.mul (.c 128) (.v 7)) (.c 128)) (.v 7))) (.le (.mul (.mul (.mul (.c 128) (.v 7)) (.c 128)) (.v 7)) (.c 9223372036854775807)))) (
                      .ite (.lt (.add (.mul (.sub (.add (.add (.mul (.c 256) (.v 8)) (.mul (.c 32) (.v 267))) (.c 16)) (.v 0)) (.sub (.add (.add (.mul (.c 256) (.v 8)) (.mul (.c 32) (.v 267))) (.c 16)) (.v 0))) (.mul (.sub (.add (.add (.mul (.c 256) (.v 9)) (.mul (.c 32) (.v 461))) (.c 16)) (.v 1)) (.sub (.add (.add (.mul (.c 256) (.v 9)) (.mul (.c 32) (.v 461))) (.c 16)) (.v 1)))) (.mul (.mul (.mul (.c 128) (.v 7)) (.c 128)) (.v 7))) (
                       .ev (.need (.and (.le (.c (-9223372036854775808)) (.add (.v 460) (.c 1))) (.le (.add (.v 460) (.c 1)) (.c 9223372036854775807)))) (
                        .ev (.need (.and (.le (.c (-9223372036854775808)) (.add (.v 461) (.c 1))) (.le (.add (.v 461) (.c 1)) (.c 9223372036854775807)))) (
                         .again 6 [.i (.add (.v 460) (.c 1)), .i (.add (.v 461) (.c 1))]))) (
                       .ev (.need (.and (.le (.c (-9223372036854775808)) (.add (.v 461) (.c 1))) (.le (.add (.v 461) (.c 1)) (.c 9223372036854775807)))) (
                        .again 6 [.i (.v 460), .i (.add (.v 461) (.c 1))]))))))))))))))))))) (
      .ev (.need (.and (.le (.c (-9223372036854775808)) (.add (.v 267) (.c 1))) (.le (.add (.v 267) (.c 1)) (.c 9223372036854775807)))) (
       .again 3 [.i (.v 460), .i (.add (.v 267) (.c 1))])))) (
    .ret [.i (.v 266)]))
theorem is30 : prune [] (execFn Try.prog cfg30 Try.f30 sg30 2000) = tree30 := by kernel_rfl
/-- rastrum.rastrumref19.part -/
def cfg31 : Cfg := ⟨sigsOf sigs, false, [], []⟩
def tree31 : Tree :=
  .ev (.need (.and (.le (.c (-9223372036854775808)) (.mul (.c 128) (.v 2))) (.le (.mul (.c 128) (.v 2)) (.c 9223372036854775807)))) (
   .ev (.need (.and (.le (.c (-9223372036854775808)) (.sub (.v 1) (.mul (.c 128) (.v 2)))) (.le (.sub (.v 1) (.mul (.c 128) (.v 2))) (.c 9223372036854775807)))) (
    .ev (.need (.and (.le (.c (-9223372036854775808)) (.sub (.v 0) (.sub (.v 1) (.mul (.c 128) (.v 2))))) (.le (.sub (.v 0) (.sub (.v 1) (.mul (.c 128) (.v 2)))) (.c 9223372036854775807)))) (
     .ev (.call 34 (.c true) [.i (.sub (.v 0) (.sub (.v 1) (.mul (.c 128) (.v 2)))), .i (.v 2)] [.one (.c (.i .i64))] 515) (
      .ret [.i (.max (.c 0) (.min (.v 515) (.c 255)))]))))
theorem is31 : prune [] (execFn Try.prog cfg31 Try.f31 sg31 2000) = tree31 := by kernel_rfl
/-- rastrum.wide.fits -/
def cfg32 : Cfg := ⟨sigsOf sigs, true, [], []⟩
def tree32 : Tree :=
  .ite (.lt (.c 255) (.wrap .u64 (.v 3))) (
   .ret [.b (.c false)]) (
   .ite (.lt (.c 255) (.wrap .u64 (.v 4))) (
    .ret [.b (.c false)]) (
    .ite (.lt (.c 255) (.wrap .u64 (.v 5))) (
     .ret [.b (.c false)]) (
     .ite (.lt (.c 255) (.wrap .u64 (.v 6))) (
      .ret [.b (.c false)]) (
      .ret [.b (.and (.and (.and (.and (.le (.max (.v 0) (.wrap .i64 (.sub (.c 0) (.v 0)))) (.c 268435456)) (.le (.max (.v 1) (.wrap .i64 (.sub (.c 0) (.v 1)))) (.c 268435456))) (.le (.c (-268435456)) (.v 0))) (.le (.c (-268435456)) (.v 1))) (.le (.wrap .u64 (.v 2)) (.c 16777215)))]))))
theorem is32 : prune [] (execFn Try.prog cfg32 Try.f32 sg32 2000) = tree32 := by kernel_rfl
/-- rastrum.dash.Right -/
def cfg33 : Cfg := ⟨sigsOf sigs, false, [], []⟩
def tree33 : Tree :=
  .ret [.b (.and (.and (.and (.lt (.wrap .u64 (.v 0)) (.c 65536)) (.le (.c 1) (.v 1))) (.le (.v 1) (.c 256))) (.le (.wrap .u64 (.v 2)) (.c 1099511627776)))]
theorem is33 : prune [] (execFn Try.prog cfg33 Try.f33 sg33 2000) = tree33 := by kernel_rfl
/-- rastrum.rastrumref19.down -/
def cfg34 : Cfg := ⟨sigsOf sigs, false, [], []⟩
def tree34 : Tree :=
  .ev (.need (.ne0 (.v 1))) (
   .ev (.need (.and (.le (.c (-9223372036854775808)) (.tdiv (.v 0) (.v 1))) (.le (.tdiv (.v 0) (.v 1)) (.c 9223372036854775807)))) (
    .ite (.lt (.tmod (.v 0) (.v 1)) (.c 0)) (
     .ev (.need (.and (.le (.c (-9223372036854775808)) (.sub (.tdiv (.v 0) (.v 1)) (.c 1))) (.le (.sub (.tdiv (.v 0) (.v 1)) (.c 1)) (.c 9223372036854775807)))) (
      .ret [.i (.sub (.tdiv (.v 0) (.v 1)) (.c 1))])) (
     .ret [.i (.tdiv (.v 0) (.v 1))])))
theorem is34 : prune [] (execFn Try.prog cfg34 Try.f34 sg34 2000) = tree34 := by kernel_rfl
/-- rastrum.dot.round$1 -/
def cfg35 : Cfg := ⟨sigsOf sigs, false, [], []⟩
def tree35 : Tree :=
  .ev (.need (.lt (.c 0) (.len 2))) (
   .ev (.need (.lt (.c 2) (.len 2))) (
    .ev (.need (.le (.c 7) (.len 2))) (
     .ev (.need (.lt (.c 0) (.len 3))) (
      .ev (.need (.and (.le (.c (-9223372036854775808)) (.mul (.get 3 (.c 0) 0) (.get 3 (.c 0) 0))) (.le (.mul (.get 3 (.c 0) 0) (.get 3 (.c 0) 0)) (.c 9223372036854775807)))) (
       .ev (.call 36 (.c true) [.i (.get 2 (.c 0) 0), .i (.get 2 (.c 1) 0), .i (.get 2 (.c 2) 0), .i (.get 2 (.c 3) 0), .i (.get 2 (.c 4) 0), .i (.get 2 (.c 5) 0), .i (.get 2 (.c 6) 0), .i (.v 0), .i (.v 1), .i (.mul (.get 3 (.c 0) 0) (.get 3 (.c 0) 0))] [.one (.c (.i .i64))] 836) (
        .ret [.i (.v 0), .i (.v 1), .i (.get 2 (.c 2) 0), .i (.get 2 (.c 3) 0), .i (.get 2 (.c 4) 0), .i (.get 2 (.c 5) 0), .i (.get 2 (.c 6) 0), .i (.v 836)]))))))
theorem is35 : prune [] (execFn Try.prog cfg35 Try.f35 sg35 2000) = tree35 := by kernel_rfl
/-- rastrum.dot.samples -/
def cfg36 : Cfg := ⟨sigsOf sigs, false, [(3, ⟨[], []⟩), (8, ⟨[], []⟩)], []⟩
def tree36 : Tree :=
  .loop 3 [.i (.c 0), .i (.c 0)] [.c (.i .i64), .c (.i .i64)] 266 (
   .ite (.lt (.v 267) (.c 8)) (
    .ev (.need (.and (.le (.c (-9223372036854775808)) (.mul (.v 8) (.c 256))) (.le (.mul (.v 8) (.c 256)) (.c 9223372036854775807)))) (
     .ev (.need (.and (.le (.c (-9223372036854775808)) (.mul (.v 267) (.c 32))) (.le (.mul (.v 267) (.c 32)) (.c 9223372036854775807)))) (
      .ev (.need (.and (.le (.c (-9223372036854775808)) (.add (.mul (.v 8) (.c 256)) (.mul (.v 267) (.c 32)))) (.le (.add (.mul (.v 8) (.c 256)) (.mul (.v 267) (.c 32))) (.c 9223372036854775807)))) (
       .ev (.need (.and (.le (.c (-9223372036854775808)) (.add (.add (.mul (.v 8) (.c 256)) (.mul (.v 267) (.c 32))) (.c 16))) (.le (.add (.add (.mul (.v 8) (.c 256)) (.mul (.v 267) (.c 32))) (.c 16)) (.c 9223372036854775807)))) (
        .ev (.need (.and (.le (.c (-9223372036854775808)) (.sub (.add (.add (.mul (.v 8) (.c 256)) (.mul (.v 267) (.c 32))) (.c 16)) (.v 1))) (.le (.sub (.add (.add (.mul (.v 8) (.c 256)) (.mul (.v 267) (.c 32))) (.c 16)) (.v 1)) (.c 9223372036854775807)))) (
         .ev (.need (.and (.le (.c (-9223372036854775808)) (.mul (.sub (.add (.add (.mul (.v 8) (.c 256)) (.mul (.v 267) (.c 32))) (.c 16)) (.v 1)) (.sub (.add (.add (.mul (.v 8) (.c 256)) (.mul (.v 267) (.c 32))) (.c 16)) (.v 1)))) (.le (.mul (.sub (.add (.add (.mul (.v 8) (.c 256)) (.mul (.v 267) (.c 32))) (.c 16)) (.v 1)) (.sub (.add (.add (.mul (.v 8) (.c 256)) (.mul (.v 267) (.c 32))) (.c 16)) (.v 1))) (.c 9223372036854775807)))) (
          .ev (.need (.and (.le (.c (-9223372036854775808)) (.sub (.v 9) (.mul (.sub (.add (.add (.mul (.v 8) (.c 256)) (.mul (.v 267) (.c 32))) (.c 16)) (.v 1)) (.sub (.add (.add (.mul (.v 8) (.c 256)) (.mul (.v 267) (.c 32))) (.c 16)) (.v 1))))) (.le (.sub (.v 9) (.mul (.sub (.add (.add (.mul (.v 8) (.c 256)) (.mul (.v 267) (.c 32))) (.c 16)) (.v 1)) (.sub (.add (.add (.mul (.v 8) (.c 256)) (.mul (.v 267) (.c 32))) (.c 16)) (.v 1)))) (.c 9223372036854775807)))) (
           .loop 8 [.i (.v 266), .i (.c 0)] [.c (.i .i64), .c (.i .i64)] 1548 (
            .ite (.lt (.v 1549) (.c 8)) (
             .ev (.need (.and (.le (.c (-9223372036854775808)) (.mul (.v 7) (.c 256))) (.le (.mul (.v 7) (.c 256)) (.c 9223372036854775807)))) (
              .ev (.need (.and (.le (.c (-9223372036854775808)) (.mul (.v 1549) (.c 32))) (.le (.mul (.v 1549) (.c 32)) (.c 9223372036854775807)))) (
               .ev (.need (.and (.le (.c (-9223372036854775808)) (.add (.mul (.v 7) (.c 256)) (.mul (.v 1549) (.c 32)))) (.le (.add (.mul (.v 7) (.c 256)) (.mul (.v 1549) (.c 32))) (.c 9223372036854775807)))) (
                .ev (.need (.and (.le (.c (-9223372036854775808)) (.add (.add (.mul (.v 7) (.c 256)) (.mul (.v 1549) (.c 32))) (.c 16))) (.le (.add (.add (.mul (.v 7) (.c 256)) (.mul (.v 1549) (.c 32))) (.c 16)) (.c 9223372036854775807)))) (
                 .ev (.need (.and (.le (.c (-9223372036854775808)) (.sub (.add (.add (.mul (.v 7) (.c 256)) (.mul (.v 1549) (.c 32))) (.c 16)) (.v 0))) (.le (.sub (.add (.add (.mul (.v 7) (.c 256)) (.mul (.v 1549) (.c 32))) (.c 16)) (.v 0)) (.c 9223372036854775807)))) (
                  .ev (.need (.and (.le (.c (-9223372036854775808)) (.mul (.sub (.add (.add (.mul (.v 7) (.c 256)) (.mul (.v 1549) (.c 32))) (.c 16)) (.v 0)) (.sub (.add (.add (.mul (.v 7) (.c 256)) (.mul (.v 1549) (.c 32))) (.c 16)) (.v 0)))) (.le (.mul (.sub (.add (.add (.mul (.v 7) (.c 256)) (.mul (.v 1549) (.c 32))) (.c 16)) (.v 0)) (.sub (.add (.add (.mul (.v 7) (.c 256)) (.mul (.v 1549) (.c 32))) (.c 16)) (.v 0))) (.c 9223372036854775807)))) (
                   .ite (.lt (.mul (.sub (.add (.add (.mul (.v 7) (.c 256)) (.mul (.v 1549) (.c 32))) (.c 16)) (.v 0)) (.sub (.add (.add (.mul (.v 7) (.c 256)) (.mul (.v 1549) (.c 32))) (.c 16)) (.v 0))) (.sub (.v 9) (.mul (.sub (.add (.add (.mul (.v 8) (.c 256)) (.mul (.v 267) (.c 32))) (.c 16)) (.v 1)) (.sub (.add (.add (.mul (.v 8) (.c 256)) (.mul (.v 267) (.c 32))) (.c 16)) (.v 1))))) (
                    .ev (.need (.and (.le (.c (-9223372036854775808)) (.add (.v 1548) (.c 1))) (.le (.add (.v 1548) (.c 1)) (.c 9223372036854775807)))) (
                     .ev (.need (.and (.le (.c (-9223372036854775808)) (.add (.v 1549) (.c 1))) (.le (.add (.v 1549) (.c 1)) (.c 9223372036854775807)))) (
                      .again 8 [.i (.add (.v 1548) (.c 1)), .i (.add (.v 1549) (.c 1))]))) (
                    .ev (.need (.and (.le (.c (-9223372036854775808)) (.add (.v 1549) (.c 1))) (.le (.add (.v 1549) (.c 1)) (.c 9223372036854775807)))) (
                     .again 8 [.i (.v 1548), .i (.add (.v 1549) (.c 1))]))))))))) (
             .ev (.need (.and (.le (.c (-9223372036854775808)) (.add (.v 267) (.c 1))) (.le (.add (.v 267) (.c 1)) (.c 9223372036854775807)))) (
              .again 3 [.i (.v 1548), .i (.add (.v 267) (.c 1))]))))))))))) (
    .ret [.i (.v 266)]))
theorem is36 : prune [] (execFn Try.prog cfg36 Try.f36 sg36 2000) = tree36 := by kernel_rfl
/-- rastrum.dot.all -/
def cfg26_28 : Cfg := ⟨sigsOf sigs, false, [(3, ⟨[], [(5, 40, [.i .i64, .i .i64, .i .i64, .i .i64, .i .i64, .i .i64, .i .i64, .i .i64])]⟩), (6, ⟨[], [(5, 40, [.i .i64, .i .i64, .i .i64, .i .i64, .i .i64, .i .i64, .i .i64, .i .i64])]⟩)], []⟩
def tree26_28 : Tree :=
  .loop 3 [.nil, .i (.v 1)] [.s 40 [.i .i64, .i .i64, .i .i64, .i .i64, .i .i64, .i .i64, .i .i64, .i .i64], .c (.i .i64)] 391 (
   .ite (.lt (.v 392) (.v 3)) (
    .loop 6 [.l 391, .i (.v 0)] [.s 40 [.i .i64, .i .i64, .i .i64, .i .i64, .i .i64, .i .i64, .i .i64, .i .i64], .c (.i .i64)] 841 (
     .ite (.lt (.v 842) (.v 2)) (
      .ev (.call 28 (.c true) [.i (.v 842), .i (.v 392), .l 4, .l 5, .l 6] [.agg [.c (.i .i64), .c (.i .i64), .c (.i .i64), .c (.i .i64), .c (.i .i64), .c (.i .i64), .c (.i .i64), .c (.i .i64)]] 1291) (
       .ite (.lt (.c 0) (.v 1298)) (
        .ev (.letl 1803 (.lit [[(.v 1291), (.v 1292), (.v 1293), (.v 1294), (.v 1295), (.v 1296), (.v 1297), (.v 1298)]])) (
         .ev (.need (.le (.add (.len 841) (.len 1803)) (.c 2199023255552))) (
          .ev (.letl 1867 (.app 841 1803)) (
           .ev (.need (.and (.le (.c (-9223372036854775808)) (.add (.v 842) (.c 1))) (.le (.add (.v 842) (.c 1)) (.c 9223372036854775807)))) (
            .again 6 [.l 1867, .i (.add (.v 842) (.c 1))]))))) (
        .ev (.need (.and (.le (.c (-9223372036854775808)) (.add (.v 842) (.c 1))) (.le (.add (.v 842) (.c 1)) (.c 9223372036854775807)))) (
         .again 6 [.l 841, .i (.add (.v 842) (.c 1))])))) (
      .ev (.need (.and (.le (.c (-9223372036854775808)) (.add (.v 392) (.c 1))) (.le (.add (.v 392) (.c 1)) (.c 9223372036854775807)))) (
       .again 3 [.l 841, .i (.add (.v 392) (.c 1))])))) (
    .ret [.l 391]))
theorem is26_28 : prune [] (execFn Try.prog cfg26_28 Try.f26 sg26_28 2000) = tree26_28 := by kernel_rfl
/-- rastrum.dot.all -/
def cfg26_35 : Cfg := ⟨sigsOf sigs, false, [(3, ⟨[], [(5, 40, [.i .i64, .i .i64, .i .i64, .i .i64, .i .i64, .i .i64, .i .i64, .i .i64])]⟩), (6, ⟨[], [(5, 40, [.i .i64, .i .i64, .i .i64, .i .i64, .i .i64, .i .i64, .i .i64, .i .i64])]⟩)], []⟩
def tree26_35 : Tree :=
  .loop 3 [.nil, .i (.v 1)] [.s 40 [.i .i64, .i .i64, .i .i64, .i .i64, .i .i64, .i .i64, .i .i64, .i .i64], .c (.i .i64)] 390 (
   .ite (.lt (.v 391) (.v 3)) (
    .loop 6 [.l 390, .i (.v 0)] [.s 40 [.i .i64, .i .i64, .i .i64, .i .i64, .i .i64, .i .i64, .i .i64, .i .i64], .c (.i .i64)] 840 (
     .ite (.lt (.v 841) (.v 2)) (
      .ev (.call 35 (.c true) [.i (.v 841), .i (.v 391), .l 4, .l 5] [.agg [.c (.i .i64), .c (.i .i64), .c (.i .i64), .c (.i .i64), .c (.i .i64), .c (.i .i64), .c (.i .i64), .c (.i .i64)]] 1290) (
       .ite (.lt (.c 0) (.v 1297)) (
        .ev (.letl 1802 (.lit [[(.v 1290), (.v 1291), (.v 1292), (.v 1293), (.v 1294), (.v 1295), (.v 1296), (.v 1297)]])) (
         .ev (.need (.le (.add (.len 840) (.len 1802)) (.c 2199023255552))) (
          .ev (.letl 1866 (.app 840 1802)) (
           .ev (.need (.and (.le (.c (-9223372036854775808)) (.add (.v 841) (.c 1))) (.le (.add (.v 841) (.c 1)) (.c 9223372036854775807)))) (
            .again 6 [.l 1866, .i (.add (.v 841) (.c 1))]))))) (
        .ev (.need (.and (.le (.c (-9223372036854775808)) (.add (.v 841) (.c 1))) (.le (.add (.v 841) (.c 1)) (.c 9223372036854775807)))) (
         .again 6 [.l 840, .i (.add (.v 841) (.c 1))])))) (
      .ev (.need (.and (.le (.c (-9223372036854775808)) (.add (.v 391) (.c 1))) (.le (.add (.v 391) (.c 1)) (.c 9223372036854775807)))) (
       .again 3 [.l 840, .i (.add (.v 391) (.c 1))])))) (
    .ret [.l 390]))
theorem is26_35 : prune [] (execFn Try.prog cfg26_35 Try.f26 sg26_35 2000) = tree26_35 := by kernel_rfl
end Go.Proofs.Ytkoacdplkanhhaa.Trees

/- THE FUNCTIONS' TREES, written by the program Gen.lean out of the given translation; each is checked by the kernel. -/
import Derived.Test.YtokmmjhnhmealaaSxG1
import Derived.Test.YtokmmjhnhmealaaChecked
import Derived.KernelRfl
set_option maxRecDepth 100000
set_option linter.unusedVariables false
namespace Go.Proofs.Ytokmmjhnhmealaa.Trees
open Go.Sx
def sg3 : Sig := ⟨[.agg [.c (.i .i64), .c (.i .i64)]], [.one (.c (.b))]⟩
def sg4 : Sig := ⟨[.agg [.c (.i .i64), .c (.i .i64), .c (.i .u16), .c (.i .i16), .c (.b)]], [.one (.c (.b))]⟩
def sg5 : Sig := ⟨[.agg [.c (.i .i64), .c (.i .i64)], .agg [.c (.i .i64), .c (.i .i64)], .agg [.c (.i .i64), .c (.i .i64)]], [.one (.c (.b))]⟩
def sg6 : Sig := ⟨[.agg [.c (.i .i64), .c (.i .i64)], .agg [.c (.i .i64), .c (.i .i64)], .agg [.c (.i .i64), .c (.i .i64)]], [.one (.c (.b))]⟩
def sg7 : Sig := ⟨[.agg [.c (.i .i64), .c (.i .i64), .c (.i .i16), .c (.i .i16), .c (.i .u8), .c (.i .u8), .c (.i .i16), .c (.i .i16)]], [.one (.c (.b))]⟩
def sg8 : Sig := ⟨[.agg [.c (.i .i64), .c (.i .i64)]], [.one (.c (.b))]⟩
def sg9 : Sig := ⟨[], [.one (.c (.b))]⟩
def sg10 : Sig := ⟨[.agg [.c (.i .i64), .c (.i .i64)]], [.one (.c (.i .i64)), .one (.c (.i .i64)), .one (.c (.b))]⟩
def sg11 : Sig := ⟨[.agg [.c (.i .i64), .c (.i .i64)]], [.one (.c (.i .i64)), .one (.c (.i .i64)), .one (.c (.b))]⟩
def sg12 : Sig := ⟨[.agg [.c (.i .i64), .c (.i .i64)], .agg [.c (.i .i64), .c (.i .i64)], .one (.c (.i .i64)), .one (.c (.i .i64))], [.one (.c (.b))]⟩
def sg13 : Sig := ⟨[.one (.c (.i .i64)), .one (.c (.i .i64))], [.one (.c (.b))]⟩
def sg14 : Sig := ⟨[.agg [.c (.i .i64), .c (.i .i64)], .agg [.c (.i .i64), .c (.i .i64)], .one (.c (.i .i64)), .one (.c (.i .i64))], [.one (.c (.b))]⟩
def sg15 : Sig := ⟨[.agg [.c (.i .i64), .c (.i .i64)], .agg [.c (.i .i64), .c (.i .i64)], .one (.c (.i .i64)), .one (.c (.i .i64))], [.one (.c (.b))]⟩
def sg16 : Sig := ⟨[.agg [.c (.i .i64), .c (.i .i64)], .agg [.c (.i .i64), .c (.i .i64)], .one (.c (.i .i64)), .one (.c (.i .i64))], [.one (.c (.b))]⟩
def sg17 : Sig := ⟨[.agg [.c (.i .i64), .c (.i .i64)], .one (.c (.i .i64)), .one (.c (.i .i64))], [.one (.c (.b))]⟩
def sg18 : Sig := ⟨[.agg [.c (.i .i64), .c (.i .i64)], .one (.c (.i .i64)), .one (.c (.i .i64))], [.one (.c (.b))]⟩
def sg19 : Sig := ⟨[.agg [.c (.i .i64), .c (.i .i64)], .agg [.c (.i .i64), .c (.i .i64)], .one (.c (.i .i64))], [.one (.c (.i .i64))]⟩
def sg20 : Sig := ⟨[.one (.c (.i .i64)), .one (.c (.i .i64))], [.one (.c (.i .i64))]⟩
def sg21 : Sig := ⟨[.agg [.c (.i .i64), .c (.i .i64), .c (.i .i64)]], [.one (.c (.i .i64))]⟩
def sg22 : Sig := ⟨[.one (.c (.i .i64))], [.one (.c (.i .i64))]⟩
def sigs : List (FuncId × Sig) := [(3, sg3), (4, sg4), (5, sg5), (6, sg6), (7, sg7), (8, sg8), (9, sg9), (10, sg10), (11, sg11), (12, sg12), (13, sg13), (14, sg14), (15, sg15), (16, sg16), (17, sg17), (18, sg18), (19, sg19), (20, sg20), (21, sg21), (22, sg22)]
/-- rastrum.rastrumlaw13.DiamondIns -/
def cfg3 : Cfg := ⟨sigsOf sigs, false, []⟩
def tree3 : Tree :=
  .ev (.call 8 (.c true) [.i (.v 0), .i (.v 1)] [.one (.c (.b))] 194) (
   .ite (.not (.v 194)) (
    .ev (.call 9 (.c true) [] [.one (.c (.b))] 322) (
     .ret [.b (.v 322)])) (
    .ev (.call 10 (.c true) [.i (.v 0), .i (.v 1)] [.one (.c (.i .i64)), .one (.c (.i .i64)), .one (.c (.b))] 386) (
     .ev (.call 11 (.c true) [.i (.v 0), .i (.v 1)] [.one (.c (.i .i64)), .one (.c (.i .i64)), .one (.c (.b))] 962) (
      .ev (.call 9 (.c true) [] [.one (.c (.b))] 1474) (
       .ret [.b (.and (.and (.and (.v 1474) (.eq (.v 386) (.v 962))) (.eq (.v 387) (.v 963))) (.iff (.v 388) (.v 964)))])))))
theorem is3 : prune [] (execFn Try.prog cfg3 Try.f3 sg3 400) = tree3 := by kernel_rfl
/-- rastrum.rastrumlaw13.DiamondColumns -/
def cfg4 : Cfg := ⟨sigsOf sigs, false, [(12, ⟨[], []⟩)]⟩
def tree4 : Tree :=
  .ite (.or (.or (.or (.lt (.v 0) (.c (-1048576))) (.lt (.c 1048576) (.v 0))) (.lt (.v 1) (.c (-1048576)))) (.lt (.c 1048576) (.v 1))) (
   .ev (.call 9 (.c true) [] [.one (.c (.b))] 2117) (
    .ret [.b (.v 2117)])) (
   .ev (.need (.and (.le (.c (-9223372036854775808)) (.add (.v 0) (.c 513))) (.le (.add (.v 0) (.c 513)) (.c 9223372036854775807)))) (
    .ev (.need (.and (.le (.c (-9223372036854775808)) (.tmod (.v 2) (.c 2048))) (.le (.tmod (.v 2) (.c 2048)) (.c 9223372036854775807)))) (
     .ev (.need (.and (.le (.c (-9223372036854775808)) (.add (.add (.v 0) (.c 513)) (.tmod (.v 2) (.c 2048)))) (.le (.add (.add (.v 0) (.c 513)) (.tmod (.v 2) (.c 2048))) (.c 9223372036854775807)))) (
      .ev (.need (.and (.le (.c (-9223372036854775808)) (.v 3)) (.le (.v 3) (.c 9223372036854775807)))) (
       .ev (.need (.and (.le (.c (-9223372036854775808)) (.add (.c 514) (.tmod (.v 2) (.c 2048)))) (.le (.add (.c 514) (.tmod (.v 2) (.c 2048))) (.c 9223372036854775807)))) (
        .ev (.need (.ne0 (.add (.c 514) (.tmod (.v 2) (.c 2048))))) (
         .ev (.need (.and (.le (.c (-9223372036854775808)) (.add (.v 1) (.tmod (.v 3) (.add (.c 514) (.tmod (.v 2) (.c 2048)))))) (.le (.add (.v 1) (.tmod (.v 3) (.add (.c 514) (.tmod (.v 2) (.c 2048))))) (.c 9223372036854775807)))) (
          .ite (.v 4) (
           .ev (.need (.and (.le (.c (-9223372036854775808)) (.add (.v 0) (.c 256))) (.le (.add (.v 0) (.c 256)) (.c 9223372036854775807)))) (
            .ev (.need (.and (.le (.c (-9223372036854775808)) (.sub (.ediv (.min (.v 1) (.add (.v 1) (.tmod (.v 3) (.add (.c 514) (.tmod (.v 2) (.c 2048)))))) 256) (.c 1))) (.le (.sub (.ediv (.min (.v 1) (.add (.v 1) (.tmod (.v 3) (.add (.c 514) (.tmod (.v 2) (.c 2048)))))) 256) (.c 1)) (.c 9223372036854775807)))) (
             .ev (.need (.and (.le (.c (-9223372036854775808)) (.add (.ediv (.max (.v 1) (.add (.v 1) (.tmod (.v 3) (.add (.c 514) (.tmod (.v 2) (.c 2048)))))) 256) (.c 1))) (.le (.add (.ediv (.max (.v 1) (.add (.v 1) (.tmod (.v 3) (.add (.c 514) (.tmod (.v 2) (.c 2048)))))) 256) (.c 1)) (.c 9223372036854775807)))) (
              .loop 12 [.i (.c 0), .i (.sub (.ediv (.min (.v 1) (.add (.v 1) (.tmod (.v 3) (.add (.c 514) (.tmod (.v 2) (.c 2048)))))) 256) (.c 1))] [.c (.i .i64), .c (.i .i64)] 6149 (
               .ev (.need (.or (.not (.le (.v 6150) (.add (.ediv (.max (.v 1) (.add (.v 1) (.tmod (.v 3) (.add (.c 514) (.tmod (.v 2) (.c 2048)))))) 256) (.c 1)))) (.and (.le (.c (-9223372036854775808)) (.add (.sub (.ediv (.min (.v 1) (.add (.v 1) (.tmod (.v 3) (.add (.c 514) (.tmod (.v 2) (.c 2048)))))) 256) (.c 1)) (.c 20))) (.le (.add (.sub (.ediv (.min (.v 1) (.add (.v 1) (.tmod (.v 3) (.add (.c 514) (.tmod (.v 2) (.c 2048)))))) 256) (.c 1)) (.c 20)) (.c 9223372036854775807))))) (
                .ite (.and (.le (.v 6150) (.add (.ediv (.max (.v 1) (.add (.v 1) (.tmod (.v 3) (.add (.c 514) (.tmod (.v 2) (.c 2048)))))) 256) (.c 1))) (.lt (.v 6150) (.add (.sub (.ediv (.min (.v 1) (.add (.v 1) (.tmod (.v 3) (.add (.c 514) (.tmod (.v 2) (.c 2048)))))) 256) (.c 1)) (.c 20)))) (
                 .ev (.call 12 (.not (.v 4)) [.i (.v 1), .i (.v 0), .i (.add (.v 1) (.tmod (.v 3) (.add (.c 514) (.tmod (.v 2) (.c 2048))))), .i (.add (.add (.v 0) (.c 513)) (.tmod (.v 2) (.c 2048))), .i (.ediv (.add (.v 0) (.c 256)) 256), .i (.v 6150)] [.one (.c (.b))] 7175) (
                  .ev (.call 12 (.and (.not (.and (.not (.v 4)) (.v 7175))) (.v 4)) [.i (.v 1), .i (.v 0), .i (.add (.v 1) (.tmod (.v 3) (.add (.c 514) (.tmod (.v 2) (.c 2048))))), .i (.add (.add (.v 0) (.c 513)) (.tmod (.v 2) (.c 2048))), .i (.v 6150), .i (.ediv (.add (.v 0) (.c 256)) 256)] [.one (.c (.b))] 7751) (
                   .ite (.or (.and (.not (.v 4)) (.v 7175)) (.and (.v 4) (.v 7751))) (
                    .ev (.need (.and (.le (.c (-9223372036854775808)) (.add (.v 6149) (.c 1))) (.le (.add (.v 6149) (.c 1)) (.c 9223372036854775807)))) (
                     .ev (.need (.and (.le (.c (-9223372036854775808)) (.add (.v 6150) (.c 1))) (.le (.add (.v 6150) (.c 1)) (.c 9223372036854775807)))) (
                      .again 12 [.i (.add (.v 6149) (.c 1)), .i (.add (.v 6150) (.c 1))]))) (
                    .ev (.need (.and (.le (.c (-9223372036854775808)) (.add (.v 6150) (.c 1))) (.le (.add (.v 6150) (.c 1)) (.c 9223372036854775807)))) (
                     .again 12 [.i (.v 6149), .i (.add (.v 6150) (.c 1))]))))) (
                 .ev (.call 9 (.c true) [] [.one (.c (.b))] 6727) (
                  .ret [.b (.and (.v 6727) (.eq (.v 6149) (.c 1)))])))))))) (
           .ev (.need (.and (.le (.c (-9223372036854775808)) (.add (.v 0) (.c 256))) (.le (.add (.v 0) (.c 256)) (.c 9223372036854775807)))) (
            .ev (.need (.and (.le (.c (-9223372036854775808)) (.sub (.ediv (.min (.v 1) (.add (.v 1) (.tmod (.v 3) (.add (.c 514) (.tmod (.v 2) (.c 2048)))))) 256) (.c 1))) (.le (.sub (.ediv (.min (.v 1) (.add (.v 1) (.tmod (.v 3) (.add (.c 514) (.tmod (.v 2) (.c 2048)))))) 256) (.c 1)) (.c 9223372036854775807)))) (
             .ev (.need (.and (.le (.c (-9223372036854775808)) (.add (.ediv (.max (.v 1) (.add (.v 1) (.tmod (.v 3) (.add (.c 514) (.tmod (.v 2) (.c 2048)))))) 256) (.c 1))) (.le (.add (.ediv (.max (.v 1) (.add (.v 1) (.tmod (.v 3) (.add (.c 514) (.tmod (.v 2) (.c 2048)))))) 256) (.c 1)) (.c 9223372036854775807)))) (
              .loop 12 [.i (.c 0), .i (.sub (.ediv (.min (.v 1) (.add (.v 1) (.tmod (.v 3) (.add (.c 514) (.tmod (.v 2) (.c 2048)))))) 256) (.c 1))] [.c (.i .i64), .c (.i .i64)] 5381 (
               .ev (.need (.or (.not (.le (.v 5382) (.add (.ediv (.max (.v 1) (.add (.v 1) (.tmod (.v 3) (.add (.c 514) (.tmod (.v 2) (.c 2048)))))) 256) (.c 1)))) (.and (.le (.c (-9223372036854775808)) (.add (.sub (.ediv (.min (.v 1) (.add (.v 1) (.tmod (.v 3) (.add (.c 514) (.tmod (.v 2) (.c 2048)))))) 256) (.c 1)) (.c 20))) (.le (.add (.sub (.ediv (.min (.v 1) (.add (.v 1) (.tmod (.v 3) (.add (.c 514) (.tmod (.v 2) (.c 2048)))))) 256) (.c 1)) (.c 20)) (.c 9223372036854775807))))) (
                .ite (.and (.le (.v 5382) (.add (.ediv (.max (.v 1) (.add (.v 1) (.tmod (.v 3) (.add (.c 514) (.tmod (.v 2) (.c 2048)))))) 256) (.c 1))) (.lt (.v 5382) (.add (.sub (.ediv (.min (.v 1) (.add (.v 1) (.tmod (.v 3) (.add (.c 514) (.tmod (.v 2) (.c 2048)))))) 256) (.c 1)) (.c 20)))) (
                 .ev (.call 12 (.not (.v 4)) [.i (.v 0), .i (.v 1), .i (.add (.add (.v 0) (.c 513)) (.tmod (.v 2) (.c 2048))), .i (.add (.v 1) (.tmod (.v 3) (.add (.c 514) (.tmod (.v 2) (.c 2048))))), .i (.ediv (.add (.v 0) (.c 256)) 256), .i (.v 5382)] [.one (.c (.b))] 6407) (
                  .ev (.call 12 (.and (.not (.and (.not (.v 4)) (.v 6407))) (.v 4)) [.i (.v 0), .i (.v 1), .i (.add (.add (.v 0) (.c 513)) (.tmod (.v 2) (.c 2048))), .i (.add (.v 1) (.tmod (.v 3) (.add (.c 514) (.tmod (.v 2) (.c 2048))))), .i (.v 5382), .i (.ediv (.add (.v 0) (.c 256)) 256)] [.one (.c (.b))] 6983) (
                   .ite (.or (.and (.not (.v 4)) (.v 6407)) (.and (.v 4) (.v 6983))) (
                    .ev (.need (.and (.le (.c (-9223372036854775808)) (.add (.v 5381) (.c 1))) (.le (.add (.v 5381) (.c 1)) (.c 9223372036854775807)))) (
                     .ev (.need (.and (.le (.c (-9223372036854775808)) (.add (.v 5382) (.c 1))) (.le (.add (.v 5382) (.c 1)) (.c 9223372036854775807)))) (
                      .again 12 [.i (.add (.v 5381) (.c 1)), .i (.add (.v 5382) (.c 1))]))) (
                    .ev (.need (.and (.le (.c (-9223372036854775808)) (.add (.v 5382) (.c 1))) (.le (.add (.v 5382) (.c 1)) (.c 9223372036854775807)))) (
                     .again 12 [.i (.v 5381), .i (.add (.v 5382) (.c 1))]))))) (
                 .ev (.call 9 (.c true) [] [.one (.c (.b))] 5959) (
                  .ret [.b (.and (.v 5959) (.eq (.v 5381) (.c 1)))]))))))))))))))))
theorem is4 : prune [] (execFn Try.prog cfg4 Try.f4 sg4 400) = tree4 := by kernel_rfl
/-- rastrum.rastrumlaw13.DiamondMeets -/
def cfg5 : Cfg := ⟨sigsOf sigs, false, []⟩
def tree5 : Tree :=
  .ev (.call 8 (.c true) [.i (.v 0), .i (.v 1)] [.one (.c (.b))] 326) (
   .ev (.call 8 (.v 326) [.i (.v 2), .i (.v 3)] [.one (.c (.b))] 582) (
    .ev (.call 13 (.not (.or (.not (.v 326)) (.not (.v 582)))) [.i (.v 4), .i (.v 5)] [.one (.c (.b))] 1094) (
     .ite (.or (.or (.not (.v 326)) (.not (.v 582))) (.not (.v 1094))) (
      .ev (.call 9 (.c true) [] [.one (.c (.b))] 1286) (
       .ret [.b (.v 1286)])) (
      .ev (.call 9 (.c true) [] [.one (.c (.b))] 1286) (
       .ev (.call 12 (.v 1286) [.i (.v 0), .i (.v 1), .i (.v 2), .i (.v 3), .i (.v 4), .i (.v 5)] [.one (.c (.b))] 1798) (
        .ev (.call 14 (.v 1286) [.i (.v 0), .i (.v 1), .i (.v 2), .i (.v 3), .i (.v 4), .i (.v 5)] [.one (.c (.b))] 2246) (
         .ev (.call 15 (.and (.v 1286) (.iff (.v 1798) (.v 2246))) [.i (.v 0), .i (.v 1), .i (.v 2), .i (.v 3), .i (.v 4), .i (.v 5)] [.one (.c (.b))] 2886) (
          .ev (.call 16 (.and (.v 1286) (.iff (.v 1798) (.v 2246))) [.i (.v 0), .i (.v 1), .i (.v 2), .i (.v 3), .i (.v 4), .i (.v 5)] [.one (.c (.b))] 3334) (
           .ret [.b (.and (.and (.v 1286) (.iff (.v 1798) (.v 2246))) (.iff (.v 2886) (.v 3334)))])))))))))
theorem is5 : prune [] (execFn Try.prog cfg5 Try.f5 sg5 400) = tree5 := by kernel_rfl
/-- rastrum.rastrumlaw13.DiamondTurned -/
def cfg6 : Cfg := ⟨sigsOf sigs, false, []⟩
def tree6 : Tree :=
  .ev (.call 8 (.c true) [.i (.v 0), .i (.v 1)] [.one (.c (.b))] 326) (
   .ev (.call 8 (.v 326) [.i (.v 2), .i (.v 3)] [.one (.c (.b))] 582) (
    .ev (.call 13 (.not (.or (.not (.v 326)) (.not (.v 582)))) [.i (.v 4), .i (.v 5)] [.one (.c (.b))] 1094) (
     .ite (.or (.or (.not (.v 326)) (.not (.v 582))) (.not (.v 1094))) (
      .ev (.call 9 (.c true) [] [.one (.c (.b))] 1286) (
       .ret [.b (.v 1286)])) (
      .ev (.call 10 (.c true) [.i (.v 0), .i (.v 1)] [.one (.c (.i .i64)), .one (.c (.i .i64)), .one (.c (.b))] 1350) (
       .ev (.call 9 (.c true) [] [.one (.c (.b))] 1862) (
        .ev (.call 12 (.v 1862) [.i (.v 0), .i (.v 1), .i (.v 2), .i (.v 3), .i (.v 4), .i (.v 5)] [.one (.c (.b))] 2374) (
         .ev (.call 12 (.v 1862) [.i (.v 2), .i (.v 3), .i (.v 0), .i (.v 1), .i (.v 4), .i (.v 5)] [.one (.c (.b))] 2822) (
          .ev (.call 13 (.and (.and (.v 1862) (.iff (.v 2374) (.v 2822))) (.v 1352)) [.i (.v 1350), .i (.v 1351)] [.one (.c (.b))] 3398) (
           .ev (.call 12 (.and (.and (.v 1862) (.iff (.v 2374) (.v 2822))) (.not (.or (.not (.v 1352)) (.not (.v 3398))))) [.i (.v 0), .i (.v 1), .i (.v 2), .i (.v 3), .i (.v 1350), .i (.v 1351)] [.one (.c (.b))] 3910) (
            .ev (.call 15 (.and (.and (.v 1862) (.iff (.v 2374) (.v 2822))) (.or (.or (.not (.v 1352)) (.not (.v 3398))) (.v 3910))) [.i (.v 0), .i (.v 1), .i (.v 0), .i (.v 1), .i (.v 4), .i (.v 5)] [.one (.c (.b))] 4550) (
             .ret [.b (.and (.and (.and (.v 1862) (.iff (.v 2374) (.v 2822))) (.or (.or (.not (.v 1352)) (.not (.v 3398))) (.v 3910))) (.not (.v 4550)))])))))))))))
theorem is6 : prune [] (execFn Try.prog cfg6 Try.f6 sg6 400) = tree6 := by kernel_rfl
/-- rastrum.rastrumlaw13.DiamondParts -/
def cfg7 : Cfg := ⟨sigsOf sigs, false, []⟩
def tree7 : Tree :=
  .ite (.or (.or (.or (.lt (.v 0) (.c (-1048576))) (.lt (.c 1048576) (.v 0))) (.lt (.v 1) (.c (-1048576)))) (.lt (.c 1048576) (.v 1))) (
   .ev (.call 9 (.c true) [] [.one (.c (.b))] 2312) (
    .ret [.b (.v 2312)])) (
   .ev (.need (.and (.le (.c (-9223372036854775808)) (.tmod (.v 4) (.c 16))) (.le (.tmod (.v 4) (.c 16)) (.c 9223372036854775807)))) (
    .ev (.need (.and (.le (.c (-9223372036854775808)) (.tmod (.v 5) (.c 16))) (.le (.tmod (.v 5) (.c 16)) (.c 9223372036854775807)))) (
     .ev (.need (.and (.le (.c (-9223372036854775808)) (.v 2)) (.le (.v 2) (.c 9223372036854775807)))) (
      .ev (.need (.and (.le (.c (-9223372036854775808)) (.mul (.tmod (.v 4) (.c 16)) (.v 2))) (.le (.mul (.tmod (.v 4) (.c 16)) (.v 2)) (.c 9223372036854775807)))) (
       .ev (.need (.and (.le (.c (-9223372036854775808)) (.add (.v 0) (.mul (.tmod (.v 4) (.c 16)) (.v 2)))) (.le (.add (.v 0) (.mul (.tmod (.v 4) (.c 16)) (.v 2))) (.c 9223372036854775807)))) (
        .ev (.need (.and (.le (.c (-9223372036854775808)) (.v 3)) (.le (.v 3) (.c 9223372036854775807)))) (
         .ev (.need (.and (.le (.c (-9223372036854775808)) (.mul (.tmod (.v 4) (.c 16)) (.v 3))) (.le (.mul (.tmod (.v 4) (.c 16)) (.v 3)) (.c 9223372036854775807)))) (
          .ev (.need (.and (.le (.c (-9223372036854775808)) (.add (.v 1) (.mul (.tmod (.v 4) (.c 16)) (.v 3)))) (.le (.add (.v 1) (.mul (.tmod (.v 4) (.c 16)) (.v 3))) (.c 9223372036854775807)))) (
           .ev (.need (.and (.le (.c (-9223372036854775808)) (.mul (.tmod (.v 5) (.c 16)) (.v 2))) (.le (.mul (.tmod (.v 5) (.c 16)) (.v 2)) (.c 9223372036854775807)))) (
            .ev (.need (.and (.le (.c (-9223372036854775808)) (.add (.add (.v 0) (.mul (.tmod (.v 4) (.c 16)) (.v 2))) (.mul (.tmod (.v 5) (.c 16)) (.v 2)))) (.le (.add (.add (.v 0) (.mul (.tmod (.v 4) (.c 16)) (.v 2))) (.mul (.tmod (.v 5) (.c 16)) (.v 2))) (.c 9223372036854775807)))) (
             .ev (.need (.and (.le (.c (-9223372036854775808)) (.mul (.tmod (.v 5) (.c 16)) (.v 3))) (.le (.mul (.tmod (.v 5) (.c 16)) (.v 3)) (.c 9223372036854775807)))) (
              .ev (.need (.and (.le (.c (-9223372036854775808)) (.add (.add (.v 1) (.mul (.tmod (.v 4) (.c 16)) (.v 3))) (.mul (.tmod (.v 5) (.c 16)) (.v 3)))) (.le (.add (.add (.v 1) (.mul (.tmod (.v 4) (.c 16)) (.v 3))) (.mul (.tmod (.v 5) (.c 16)) (.v 3))) (.c 9223372036854775807)))) (
               .ev (.need (.and (.le (.c (-9223372036854775808)) (.v 6)) (.le (.v 6) (.c 9223372036854775807)))) (
                .ev (.need (.and (.le (.c (-9223372036854775808)) (.v 7)) (.le (.v 7) (.c 9223372036854775807)))) (
                 .ev (.call 12 (.c true) [.i (.v 0), .i (.v 1), .i (.add (.add (.v 0) (.mul (.tmod (.v 4) (.c 16)) (.v 2))) (.mul (.tmod (.v 5) (.c 16)) (.v 2))), .i (.add (.add (.v 1) (.mul (.tmod (.v 4) (.c 16)) (.v 3))) (.mul (.tmod (.v 5) (.c 16)) (.v 3))), .i (.v 6), .i (.v 7)] [.one (.c (.b))] 6152) (
                  .ev (.call 10 (.c true) [.i (.add (.add (.v 0) (.mul (.tmod (.v 4) (.c 16)) (.v 2))) (.mul (.tmod (.v 5) (.c 16)) (.v 2))), .i (.add (.add (.v 1) (.mul (.tmod (.v 4) (.c 16)) (.v 3))) (.mul (.tmod (.v 5) (.c 16)) (.v 3)))] [.one (.c (.i .i64)), .one (.c (.i .i64)), .one (.c (.b))] 6344) (
                   .ev (.call 9 (.c true) [] [.one (.c (.b))] 6856) (
                    .ev (.call 12 (.v 6856) [.i (.v 0), .i (.v 1), .i (.add (.v 0) (.mul (.tmod (.v 4) (.c 16)) (.v 2))), .i (.add (.v 1) (.mul (.tmod (.v 4) (.c 16)) (.v 3))), .i (.v 6), .i (.v 7)] [.one (.c (.b))] 7304) (
                     .ev (.call 12 (.and (.v 6856) (.not (.v 7304))) [.i (.add (.v 0) (.mul (.tmod (.v 4) (.c 16)) (.v 2))), .i (.add (.v 1) (.mul (.tmod (.v 4) (.c 16)) (.v 3))), .i (.add (.add (.v 0) (.mul (.tmod (.v 4) (.c 16)) (.v 2))) (.mul (.tmod (.v 5) (.c 16)) (.v 2))), .i (.add (.add (.v 1) (.mul (.tmod (.v 4) (.c 16)) (.v 3))) (.mul (.tmod (.v 5) (.c 16)) (.v 3))), .i (.v 6), .i (.v 7)] [.one (.c (.b))] 7688) (
                      .ev (.call 15 (.and (.v 6856) (.iff (.v 6152) (.or (.v 7304) (.v 7688)))) [.i (.v 0), .i (.v 1), .i (.add (.add (.v 0) (.mul (.tmod (.v 4) (.c 16)) (.v 2))) (.mul (.tmod (.v 5) (.c 16)) (.v 2))), .i (.add (.add (.v 1) (.mul (.tmod (.v 4) (.c 16)) (.v 3))) (.mul (.tmod (.v 5) (.c 16)) (.v 3))), .i (.v 6), .i (.v 7)] [.one (.c (.b))] 8264) (
                       .ret [.b (.and (.and (.v 6856) (.iff (.v 6152) (.or (.v 7304) (.v 7688)))) (.iff (.v 8264) (.and (.v 6152) (.not (.and (.and (.v 6346) (.eq (.v 6344) (.v 6))) (.eq (.v 6345) (.v 7)))))))])))))))))))))))))))))
theorem is7 : prune [] (execFn Try.prog cfg7 Try.f7 sg7 400) = tree7 := by kernel_rfl
/-- rastrum.rastrumlaw13.may -/
def cfg8 : Cfg := ⟨sigsOf sigs, false, []⟩
def tree8 : Tree :=
  .ret [.b (.and (.and (.and (.le (.c (-536870912)) (.v 0)) (.le (.v 0) (.c 536870912))) (.le (.c (-536870912)) (.v 1))) (.le (.v 1) (.c 536870912)))]
theorem is8 : prune [] (execFn Try.prog cfg8 Try.f8 sg8 400) = tree8 := by kernel_rfl
/-- rastrum.rastrumlaw13.awake -/
def cfg9 : Cfg := ⟨sigsOf sigs, false, []⟩
def tree9 : Tree :=
  .ev (.call 10 (.c true) [.i (.c 256), .i (.c 128)] [.one (.c (.i .i64)), .one (.c (.i .i64)), .one (.c (.b))] 128) (
   .ev (.call 10 (.c true) [.i (.c 0), .i (.c 128)] [.one (.c (.i .i64)), .one (.c (.i .i64)), .one (.c (.b))] 704) (
    .ev (.call 12 (.and (.and (.and (.and (.and (.v 130) (.v 706)) (.eq (.v 128) (.c 0))) (.eq (.v 129) (.c 0))) (.eq (.v 704) (.c (-1)))) (.eq (.v 705) (.c 0))) [.i (.c 0), .i (.c 128), .i (.c 999), .i (.c 128), .i (.c 2), .i (.c 0)] [.one (.c (.b))] 2688) (
     .ev (.call 12 (.and (.and (.and (.and (.and (.and (.v 130) (.v 706)) (.eq (.v 128) (.c 0))) (.eq (.v 129) (.c 0))) (.eq (.v 704) (.c (-1)))) (.eq (.v 705) (.c 0))) (.v 2688)) [.i (.c 0), .i (.c 128), .i (.c 999), .i (.c 128), .i (.c 2), .i (.c 1)] [.one (.c (.b))] 3008) (
      .ret [.b (.and (.and (.and (.and (.and (.and (.and (.v 130) (.v 706)) (.eq (.v 128) (.c 0))) (.eq (.v 129) (.c 0))) (.eq (.v 704) (.c (-1)))) (.eq (.v 705) (.c 0))) (.v 2688)) (.not (.v 3008)))]))))
theorem is9 : prune [] (execFn Try.prog cfg9 Try.f9 sg9 400) = tree9 := by kernel_rfl
/-- rastrum.diamond.In -/
def cfg10 : Cfg := ⟨sigsOf sigs, false, []⟩
def tree10 : Tree :=
  .ev (.need (.and (.le (.c (-9223372036854775808)) (.sub (.emod (.v 0) 256) (.c 128))) (.le (.sub (.emod (.v 0) 256) (.c 128)) (.c 9223372036854775807)))) (
   .ev (.need (.and (.le (.c (-9223372036854775808)) (.sub (.emod (.v 1) 256) (.c 128))) (.le (.sub (.emod (.v 1) 256) (.c 128)) (.c 9223372036854775807)))) (
    .ite (.and (.eq (.sub (.emod (.v 0) 256) (.c 128)) (.c (-128))) (.eq (.sub (.emod (.v 1) 256) (.c 128)) (.c 0))) (
     .ev (.need (.and (.le (.c (-9223372036854775808)) (.sub (.ediv (.v 0) 256) (.c 1))) (.le (.sub (.ediv (.v 0) 256) (.c 1)) (.c 9223372036854775807)))) (
      .ret [.i (.sub (.ediv (.v 0) 256) (.c 1)), .i (.ediv (.v 1) 256), .b (.c true)])) (
     .ev (.need (.and (.le (.c (-9223372036854775808)) (.sub (.c 0) (.sub (.emod (.v 0) 256) (.c 128)))) (.le (.sub (.c 0) (.sub (.emod (.v 0) 256) (.c 128))) (.c 9223372036854775807)))) (
      .ev (.need (.and (.le (.c (-9223372036854775808)) (.sub (.c 0) (.sub (.emod (.v 1) 256) (.c 128)))) (.le (.sub (.c 0) (.sub (.emod (.v 1) 256) (.c 128))) (.c 9223372036854775807)))) (
       .ev (.need (.and (.le (.c (-9223372036854775808)) (.add (.max (.sub (.emod (.v 0) 256) (.c 128)) (.sub (.c 0) (.sub (.emod (.v 0) 256) (.c 128)))) (.max (.sub (.emod (.v 1) 256) (.c 128)) (.sub (.c 0) (.sub (.emod (.v 1) 256) (.c 128)))))) (.le (.add (.max (.sub (.emod (.v 0) 256) (.c 128)) (.sub (.c 0) (.sub (.emod (.v 0) 256) (.c 128)))) (.max (.sub (.emod (.v 1) 256) (.c 128)) (.sub (.c 0) (.sub (.emod (.v 1) 256) (.c 128))))) (.c 9223372036854775807)))) (
        .ite (.or (.lt (.add (.max (.sub (.emod (.v 0) 256) (.c 128)) (.sub (.c 0) (.sub (.emod (.v 0) 256) (.c 128)))) (.max (.sub (.emod (.v 1) 256) (.c 128)) (.sub (.c 0) (.sub (.emod (.v 1) 256) (.c 128))))) (.c 128)) (.and (.eq (.add (.max (.sub (.emod (.v 0) 256) (.c 128)) (.sub (.c 0) (.sub (.emod (.v 0) 256) (.c 128)))) (.max (.sub (.emod (.v 1) 256) (.c 128)) (.sub (.c 0) (.sub (.emod (.v 1) 256) (.c 128))))) (.c 128)) (.lt (.c 0) (.sub (.emod (.v 0) 256) (.c 128))))) (
         .ret [.i (.ediv (.v 0) 256), .i (.ediv (.v 1) 256), .b (.c true)]) (
         .ret [.i (.c 0), .i (.c 0), .b (.c false)])))))))
theorem is10 : prune [] (execFn Try.prog cfg10 Try.f10 sg10 400) = tree10 := by kernel_rfl
/-- rastrum.rastrumref13.In -/
def cfg11 : Cfg := ⟨sigsOf sigs, false, [(2, ⟨[], []⟩), (5, ⟨[], []⟩)]⟩
def tree11 : Tree :=
  .ev (.need (.and (.le (.c (-9223372036854775808)) (.tdiv (.v 0) (.c 256))) (.le (.tdiv (.v 0) (.c 256)) (.c 9223372036854775807)))) (
   .ev (.need (.and (.le (.c (-9223372036854775808)) (.sub (.tdiv (.v 0) (.c 256)) (.c 2))) (.le (.sub (.tdiv (.v 0) (.c 256)) (.c 2)) (.c 9223372036854775807)))) (
    .loop 2 [.i (.c 0), .i (.c 0), .b (.c false), .i (.sub (.tdiv (.v 0) (.c 256)) (.c 2))] [.c (.i .i64), .c (.i .i64), .c (.b), .c (.i .i64)] 578 (
     .ev (.need (.and (.le (.c (-9223372036854775808)) (.tdiv (.v 0) (.c 256))) (.le (.tdiv (.v 0) (.c 256)) (.c 9223372036854775807)))) (
      .ev (.need (.and (.le (.c (-9223372036854775808)) (.add (.tdiv (.v 0) (.c 256)) (.c 2))) (.le (.add (.tdiv (.v 0) (.c 256)) (.c 2)) (.c 9223372036854775807)))) (
       .ite (.le (.v 581) (.add (.tdiv (.v 0) (.c 256)) (.c 2))) (
        .ev (.need (.and (.le (.c (-9223372036854775808)) (.tdiv (.v 1) (.c 256))) (.le (.tdiv (.v 1) (.c 256)) (.c 9223372036854775807)))) (
         .ev (.need (.and (.le (.c (-9223372036854775808)) (.sub (.tdiv (.v 1) (.c 256)) (.c 2))) (.le (.sub (.tdiv (.v 1) (.c 256)) (.c 2)) (.c 9223372036854775807)))) (
          .loop 5 [.i (.v 578), .i (.v 579), .b (.v 580), .i (.sub (.tdiv (.v 1) (.c 256)) (.c 2))] [.c (.i .i64), .c (.i .i64), .c (.b), .c (.i .i64)] 1286 (
           .ev (.need (.and (.le (.c (-9223372036854775808)) (.tdiv (.v 1) (.c 256))) (.le (.tdiv (.v 1) (.c 256)) (.c 9223372036854775807)))) (
            .ev (.need (.and (.le (.c (-9223372036854775808)) (.add (.tdiv (.v 1) (.c 256)) (.c 2))) (.le (.add (.tdiv (.v 1) (.c 256)) (.c 2)) (.c 9223372036854775807)))) (
             .ite (.le (.v 1289) (.add (.tdiv (.v 1) (.c 256)) (.c 2))) (
              .ev (.call 17 (.c true) [.i (.v 0), .i (.v 1), .i (.v 581), .i (.v 1289)] [.one (.c (.b))] 1866) (
               .ite (.v 1866) (
                .ret [.i (.v 581), .i (.v 1289), .b (.c true)]) (
                .ev (.need (.and (.le (.c (-9223372036854775808)) (.add (.v 1289) (.c 1))) (.le (.add (.v 1289) (.c 1)) (.c 9223372036854775807)))) (
                 .again 5 [.i (.v 1286), .i (.v 1287), .b (.v 1288), .i (.add (.v 1289) (.c 1))])))) (
              .ev (.need (.and (.le (.c (-9223372036854775808)) (.add (.v 581) (.c 1))) (.le (.add (.v 581) (.c 1)) (.c 9223372036854775807)))) (
               .again 2 [.i (.v 1286), .i (.v 1287), .b (.v 1288), .i (.add (.v 581) (.c 1))])))))))) (
        .ret [.i (.c 0), .i (.c 0), .b (.c false)]))))))
theorem is11 : prune [] (execFn Try.prog cfg11 Try.f11 sg11 400) = tree11 := by kernel_rfl
/-- rastrum.diamond.Meets -/
def cfg12 : Cfg := ⟨sigsOf sigs, false, []⟩
def tree12 : Tree :=
  .ev (.call 18 (.c true) [.i (.v 0), .i (.v 1), .i (.v 4), .i (.v 5)] [.one (.c (.b))] 390) (
   .ev (.call 18 (.not (.v 390)) [.i (.v 2), .i (.v 3), .i (.v 4), .i (.v 5)] [.one (.c (.b))] 710) (
    .ite (.or (.v 390) (.v 710)) (
     .ret [.b (.c true)]) (
     .ev (.need (.and (.le (.c (-9223372036854775808)) (.sub (.v 2) (.v 0))) (.le (.sub (.v 2) (.v 0)) (.c 9223372036854775807)))) (
      .ev (.need (.and (.le (.c (-9223372036854775808)) (.sub (.v 3) (.v 1))) (.le (.sub (.v 3) (.v 1)) (.c 9223372036854775807)))) (
       .ev (.need (.and (.le (.c (-9223372036854775808)) (.sub (.c 0) (.sub (.v 2) (.v 0)))) (.le (.sub (.c 0) (.sub (.v 2) (.v 0))) (.c 9223372036854775807)))) (
        .ev (.need (.and (.le (.c (-9223372036854775808)) (.sub (.c 0) (.sub (.v 3) (.v 1)))) (.le (.sub (.c 0) (.sub (.v 3) (.v 1))) (.c 9223372036854775807)))) (
         .ite (.le (.max (.sub (.v 3) (.v 1)) (.sub (.c 0) (.sub (.v 3) (.v 1)))) (.max (.sub (.v 2) (.v 0)) (.sub (.c 0) (.sub (.v 2) (.v 0))))) (
          .ev (.need (.and (.le (.c (-9223372036854775808)) (.mul (.c 256) (.v 4))) (.le (.mul (.c 256) (.v 4)) (.c 9223372036854775807)))) (
           .ev (.need (.and (.le (.c (-9223372036854775808)) (.add (.mul (.c 256) (.v 4)) (.c 128))) (.le (.add (.mul (.c 256) (.v 4)) (.c 128)) (.c 9223372036854775807)))) (
            .ev (.call 19 (.and (.le (.min (.v 0) (.v 2)) (.add (.mul (.c 256) (.v 4)) (.c 128))) (.lt (.add (.mul (.c 256) (.v 4)) (.c 128)) (.max (.v 0) (.v 2)))) [.i (.v 0), .i (.v 1), .i (.v 2), .i (.v 3), .i (.v 4)] [.one (.c (.i .i64))] 3718) (
             .ret [.b (.and (.and (.le (.min (.v 0) (.v 2)) (.add (.mul (.c 256) (.v 4)) (.c 128))) (.lt (.add (.mul (.c 256) (.v 4)) (.c 128)) (.max (.v 0) (.v 2)))) (.eq (.v 3718) (.v 5)))])))) (
          .ev (.need (.and (.le (.c (-9223372036854775808)) (.mul (.c 256) (.v 5))) (.le (.mul (.c 256) (.v 5)) (.c 9223372036854775807)))) (
           .ev (.need (.and (.le (.c (-9223372036854775808)) (.add (.mul (.c 256) (.v 5)) (.c 128))) (.le (.add (.mul (.c 256) (.v 5)) (.c 128)) (.c 9223372036854775807)))) (
            .ite (.or (.lt (.add (.mul (.c 256) (.v 5)) (.c 128)) (.min (.v 1) (.v 3))) (.le (.max (.v 1) (.v 3)) (.add (.mul (.c 256) (.v 5)) (.c 128)))) (
             .ret [.b (.c false)]) (
             .ite (.lt (.sub (.v 3) (.v 1)) (.c 0)) (
              .ev (.need (.and (.le (.c (-9223372036854775808)) (.mul (.v 0) (.sub (.c 0) (.sub (.v 3) (.v 1))))) (.le (.mul (.v 0) (.sub (.c 0) (.sub (.v 3) (.v 1)))) (.c 9223372036854775807)))) (
               .ev (.need (.and (.le (.c (-9223372036854775808)) (.sub (.add (.mul (.c 256) (.v 5)) (.c 128)) (.v 1))) (.le (.sub (.add (.mul (.c 256) (.v 5)) (.c 128)) (.v 1)) (.c 9223372036854775807)))) (
                .ev (.need (.and (.le (.c (-9223372036854775808)) (.mul (.sub (.c 0) (.sub (.v 2) (.v 0))) (.sub (.add (.mul (.c 256) (.v 5)) (.c 128)) (.v 1)))) (.le (.mul (.sub (.c 0) (.sub (.v 2) (.v 0))) (.sub (.add (.mul (.c 256) (.v 5)) (.c 128)) (.v 1))) (.c 9223372036854775807)))) (
                 .ev (.need (.and (.le (.c (-9223372036854775808)) (.add (.mul (.v 0) (.sub (.c 0) (.sub (.v 3) (.v 1)))) (.mul (.sub (.c 0) (.sub (.v 2) (.v 0))) (.sub (.add (.mul (.c 256) (.v 5)) (.c 128)) (.v 1))))) (.le (.add (.mul (.v 0) (.sub (.c 0) (.sub (.v 3) (.v 1)))) (.mul (.sub (.c 0) (.sub (.v 2) (.v 0))) (.sub (.add (.mul (.c 256) (.v 5)) (.c 128)) (.v 1)))) (.c 9223372036854775807)))) (
                  .ev (.need (.and (.le (.c (-9223372036854775808)) (.sub (.add (.mul (.v 0) (.sub (.c 0) (.sub (.v 3) (.v 1)))) (.mul (.sub (.c 0) (.sub (.v 2) (.v 0))) (.sub (.add (.mul (.c 256) (.v 5)) (.c 128)) (.v 1)))) (.c 1))) (.le (.sub (.add (.mul (.v 0) (.sub (.c 0) (.sub (.v 3) (.v 1)))) (.mul (.sub (.c 0) (.sub (.v 2) (.v 0))) (.sub (.add (.mul (.c 256) (.v 5)) (.c 128)) (.v 1)))) (.c 1)) (.c 9223372036854775807)))) (
                   .ev (.need (.and (.le (.c (-9223372036854775808)) (.mul (.c 256) (.sub (.c 0) (.sub (.v 3) (.v 1))))) (.le (.mul (.c 256) (.sub (.c 0) (.sub (.v 3) (.v 1)))) (.c 9223372036854775807)))) (
                    .ev (.call 20 (.c true) [.i (.sub (.add (.mul (.v 0) (.sub (.c 0) (.sub (.v 3) (.v 1)))) (.mul (.sub (.c 0) (.sub (.v 2) (.v 0))) (.sub (.add (.mul (.c 256) (.v 5)) (.c 128)) (.v 1)))) (.c 1)), .i (.mul (.c 256) (.sub (.c 0) (.sub (.v 3) (.v 1))))] [.one (.c (.i .i64))] 4870) (
                     .ret [.b (.eq (.v 4870) (.v 4))])))))))) (
              .ev (.need (.and (.le (.c (-9223372036854775808)) (.mul (.v 0) (.sub (.v 3) (.v 1)))) (.le (.mul (.v 0) (.sub (.v 3) (.v 1))) (.c 9223372036854775807)))) (
               .ev (.need (.and (.le (.c (-9223372036854775808)) (.sub (.add (.mul (.c 256) (.v 5)) (.c 128)) (.v 1))) (.le (.sub (.add (.mul (.c 256) (.v 5)) (.c 128)) (.v 1)) (.c 9223372036854775807)))) (
                .ev (.need (.and (.le (.c (-9223372036854775808)) (.mul (.sub (.v 2) (.v 0)) (.sub (.add (.mul (.c 256) (.v 5)) (.c 128)) (.v 1)))) (.le (.mul (.sub (.v 2) (.v 0)) (.sub (.add (.mul (.c 256) (.v 5)) (.c 128)) (.v 1))) (.c 9223372036854775807)))) (
                 .ev (.need (.and (.le (.c (-9223372036854775808)) (.add (.mul (.v 0) (.sub (.v 3) (.v 1))) (.mul (.sub (.v 2) (.v 0)) (.sub (.add (.mul (.c 256) (.v 5)) (.c 128)) (.v 1))))) (.le (.add (.mul (.v 0) (.sub (.v 3) (.v 1))) (.mul (.sub (.v 2) (.v 0)) (.sub (.add (.mul (.c 256) (.v 5)) (.c 128)) (.v 1)))) (.c 9223372036854775807)))) (
                  .ev (.need (.and (.le (.c (-9223372036854775808)) (.sub (.add (.mul (.v 0) (.sub (.v 3) (.v 1))) (.mul (.sub (.v 2) (.v 0)) (.sub (.add (.mul (.c 256) (.v 5)) (.c 128)) (.v 1)))) (.c 1))) (.le (.sub (.add (.mul (.v 0) (.sub (.v 3) (.v 1))) (.mul (.sub (.v 2) (.v 0)) (.sub (.add (.mul (.c 256) (.v 5)) (.c 128)) (.v 1)))) (.c 1)) (.c 9223372036854775807)))) (
                   .ev (.need (.and (.le (.c (-9223372036854775808)) (.mul (.c 256) (.sub (.v 3) (.v 1)))) (.le (.mul (.c 256) (.sub (.v 3) (.v 1))) (.c 9223372036854775807)))) (
                    .ev (.call 20 (.c true) [.i (.sub (.add (.mul (.v 0) (.sub (.v 3) (.v 1))) (.mul (.sub (.v 2) (.v 0)) (.sub (.add (.mul (.c 256) (.v 5)) (.c 128)) (.v 1)))) (.c 1)), .i (.mul (.c 256) (.sub (.v 3) (.v 1)))] [.one (.c (.i .i64))] 4486) (
                     .ret [.b (.eq (.v 4486) (.v 4))])))))))))))))))))))
theorem is12 : prune [] (execFn Try.prog cfg12 Try.f12 sg12 400) = tree12 := by kernel_rfl
/-- rastrum.rastrumlaw13.near -/
def cfg13 : Cfg := ⟨sigsOf sigs, false, []⟩
def tree13 : Tree :=
  .ret [.b (.and (.and (.and (.le (.c (-4194304)) (.v 0)) (.le (.v 0) (.c 4194304))) (.le (.c (-4194304)) (.v 1))) (.le (.v 1) (.c 4194304)))]
theorem is13 : prune [] (execFn Try.prog cfg13 Try.f13 sg13 400) = tree13 := by kernel_rfl
/-- rastrum.rastrumref13.Meets -/
def cfg14 : Cfg := ⟨sigsOf sigs, false, []⟩
def tree14 : Tree :=
  .ev (.need (.and (.le (.c (-9223372036854775808)) (.mul (.c 256) (.v 4))) (.le (.mul (.c 256) (.v 4)) (.c 9223372036854775807)))) (
   .ev (.need (.and (.le (.c (-9223372036854775808)) (.sub (.v 0) (.mul (.c 256) (.v 4)))) (.le (.sub (.v 0) (.mul (.c 256) (.v 4))) (.c 9223372036854775807)))) (
    .ev (.need (.and (.le (.c (-9223372036854775808)) (.sub (.sub (.v 0) (.mul (.c 256) (.v 4))) (.c 128))) (.le (.sub (.sub (.v 0) (.mul (.c 256) (.v 4))) (.c 128)) (.c 9223372036854775807)))) (
     .ev (.need (.and (.le (.c (-9223372036854775808)) (.mul (.c 256) (.v 5))) (.le (.mul (.c 256) (.v 5)) (.c 9223372036854775807)))) (
      .ev (.need (.and (.le (.c (-9223372036854775808)) (.sub (.v 1) (.mul (.c 256) (.v 5)))) (.le (.sub (.v 1) (.mul (.c 256) (.v 5))) (.c 9223372036854775807)))) (
       .ev (.need (.and (.le (.c (-9223372036854775808)) (.sub (.sub (.v 1) (.mul (.c 256) (.v 5))) (.c 128))) (.le (.sub (.sub (.v 1) (.mul (.c 256) (.v 5))) (.c 128)) (.c 9223372036854775807)))) (
        .ev (.need (.and (.le (.c (-9223372036854775808)) (.sub (.v 2) (.mul (.c 256) (.v 4)))) (.le (.sub (.v 2) (.mul (.c 256) (.v 4))) (.c 9223372036854775807)))) (
         .ev (.need (.and (.le (.c (-9223372036854775808)) (.sub (.sub (.v 2) (.mul (.c 256) (.v 4))) (.c 128))) (.le (.sub (.sub (.v 2) (.mul (.c 256) (.v 4))) (.c 128)) (.c 9223372036854775807)))) (
          .ev (.need (.and (.le (.c (-9223372036854775808)) (.sub (.v 3) (.mul (.c 256) (.v 5)))) (.le (.sub (.v 3) (.mul (.c 256) (.v 5))) (.c 9223372036854775807)))) (
           .ev (.need (.and (.le (.c (-9223372036854775808)) (.sub (.sub (.v 3) (.mul (.c 256) (.v 5))) (.c 128))) (.le (.sub (.sub (.v 3) (.mul (.c 256) (.v 5))) (.c 128)) (.c 9223372036854775807)))) (
            .ev (.need (.and (.le (.c (-9223372036854775808)) (.add (.sub (.sub (.v 0) (.mul (.c 256) (.v 4))) (.c 128)) (.sub (.sub (.v 1) (.mul (.c 256) (.v 5))) (.c 128)))) (.le (.add (.sub (.sub (.v 0) (.mul (.c 256) (.v 4))) (.c 128)) (.sub (.sub (.v 1) (.mul (.c 256) (.v 5))) (.c 128))) (.c 9223372036854775807)))) (
             .ev (.need (.and (.le (.c (-9223372036854775808)) (.add (.sub (.sub (.v 2) (.mul (.c 256) (.v 4))) (.c 128)) (.sub (.sub (.v 3) (.mul (.c 256) (.v 5))) (.c 128)))) (.le (.add (.sub (.sub (.v 2) (.mul (.c 256) (.v 4))) (.c 128)) (.sub (.sub (.v 3) (.mul (.c 256) (.v 5))) (.c 128))) (.c 9223372036854775807)))) (
              .ev (.need (.and (.le (.c (-9223372036854775808)) (.sub (.min (.add (.sub (.sub (.v 0) (.mul (.c 256) (.v 4))) (.c 128)) (.sub (.sub (.v 1) (.mul (.c 256) (.v 5))) (.c 128))) (.add (.sub (.sub (.v 2) (.mul (.c 256) (.v 4))) (.c 128)) (.sub (.sub (.v 3) (.mul (.c 256) (.v 5))) (.c 128)))) (.c 128))) (.le (.sub (.min (.add (.sub (.sub (.v 0) (.mul (.c 256) (.v 4))) (.c 128)) (.sub (.sub (.v 1) (.mul (.c 256) (.v 5))) (.c 128))) (.add (.sub (.sub (.v 2) (.mul (.c 256) (.v 4))) (.c 128)) (.sub (.sub (.v 3) (.mul (.c 256) (.v 5))) (.c 128)))) (.c 128)) (.c 9223372036854775807)))) (
               .ev (.call 21 (.c true) [.i (.sub (.min (.add (.sub (.sub (.v 0) (.mul (.c 256) (.v 4))) (.c 128)) (.sub (.sub (.v 1) (.mul (.c 256) (.v 5))) (.c 128))) (.add (.sub (.sub (.v 2) (.mul (.c 256) (.v 4))) (.c 128)) (.sub (.sub (.v 3) (.mul (.c 256) (.v 5))) (.c 128)))) (.c 128)), .i (.c (-1)), .i (.c (-1))] [.one (.c (.i .i64))] 2950) (
                .ev (.need (.or (.not (.not (.le (.c 0) (.v 2950)))) (.and (.le (.c (-9223372036854775808)) (.add (.sub (.sub (.v 0) (.mul (.c 256) (.v 4))) (.c 128)) (.sub (.sub (.v 1) (.mul (.c 256) (.v 5))) (.c 128)))) (.le (.add (.sub (.sub (.v 0) (.mul (.c 256) (.v 4))) (.c 128)) (.sub (.sub (.v 1) (.mul (.c 256) (.v 5))) (.c 128))) (.c 9223372036854775807))))) (
                 .ev (.need (.or (.not (.not (.le (.c 0) (.v 2950)))) (.and (.le (.c (-9223372036854775808)) (.add (.sub (.sub (.v 2) (.mul (.c 256) (.v 4))) (.c 128)) (.sub (.sub (.v 3) (.mul (.c 256) (.v 5))) (.c 128)))) (.le (.add (.sub (.sub (.v 2) (.mul (.c 256) (.v 4))) (.c 128)) (.sub (.sub (.v 3) (.mul (.c 256) (.v 5))) (.c 128))) (.c 9223372036854775807))))) (
                  .ev (.need (.or (.not (.not (.le (.c 0) (.v 2950)))) (.and (.le (.c (-9223372036854775808)) (.add (.max (.add (.sub (.sub (.v 0) (.mul (.c 256) (.v 4))) (.c 128)) (.sub (.sub (.v 1) (.mul (.c 256) (.v 5))) (.c 128))) (.add (.sub (.sub (.v 2) (.mul (.c 256) (.v 4))) (.c 128)) (.sub (.sub (.v 3) (.mul (.c 256) (.v 5))) (.c 128)))) (.c 128))) (.le (.add (.max (.add (.sub (.sub (.v 0) (.mul (.c 256) (.v 4))) (.c 128)) (.sub (.sub (.v 1) (.mul (.c 256) (.v 5))) (.c 128))) (.add (.sub (.sub (.v 2) (.mul (.c 256) (.v 4))) (.c 128)) (.sub (.sub (.v 3) (.mul (.c 256) (.v 5))) (.c 128)))) (.c 128)) (.c 9223372036854775807))))) (
                   .ev (.call 21 (.not (.le (.c 0) (.v 2950))) [.i (.add (.max (.add (.sub (.sub (.v 0) (.mul (.c 256) (.v 4))) (.c 128)) (.sub (.sub (.v 1) (.mul (.c 256) (.v 5))) (.c 128))) (.add (.sub (.sub (.v 2) (.mul (.c 256) (.v 4))) (.c 128)) (.sub (.sub (.v 3) (.mul (.c 256) (.v 5))) (.c 128)))) (.c 128)), .i (.c (-1)), .i (.c (-1))] [.one (.c (.i .i64))] 3974) (
                    .ite (.or (.le (.c 0) (.v 2950)) (.le (.v 3974) (.c 0))) (
                     .ret [.b (.c false)]) (
                     .ev (.need (.and (.le (.c (-9223372036854775808)) (.sub (.sub (.sub (.v 0) (.mul (.c 256) (.v 4))) (.c 128)) (.sub (.sub (.v 1) (.mul (.c 256) (.v 5))) (.c 128)))) (.le (.sub (.sub (.sub (.v 0) (.mul (.c 256) (.v 4))) (.c 128)) (.sub (.sub (.v 1) (.mul (.c 256) (.v 5))) (.c 128))) (.c 9223372036854775807)))) (
                      .ev (.need (.and (.le (.c (-9223372036854775808)) (.sub (.sub (.sub (.v 2) (.mul (.c 256) (.v 4))) (.c 128)) (.sub (.sub (.v 3) (.mul (.c 256) (.v 5))) (.c 128)))) (.le (.sub (.sub (.sub (.v 2) (.mul (.c 256) (.v 4))) (.c 128)) (.sub (.sub (.v 3) (.mul (.c 256) (.v 5))) (.c 128))) (.c 9223372036854775807)))) (
                       .ev (.need (.and (.le (.c (-9223372036854775808)) (.sub (.min (.sub (.sub (.sub (.v 0) (.mul (.c 256) (.v 4))) (.c 128)) (.sub (.sub (.v 1) (.mul (.c 256) (.v 5))) (.c 128))) (.sub (.sub (.sub (.v 2) (.mul (.c 256) (.v 4))) (.c 128)) (.sub (.sub (.v 3) (.mul (.c 256) (.v 5))) (.c 128)))) (.c 128))) (.le (.sub (.min (.sub (.sub (.sub (.v 0) (.mul (.c 256) (.v 4))) (.c 128)) (.sub (.sub (.v 1) (.mul (.c 256) (.v 5))) (.c 128))) (.sub (.sub (.sub (.v 2) (.mul (.c 256) (.v 4))) (.c 128)) (.sub (.sub (.v 3) (.mul (.c 256) (.v 5))) (.c 128)))) (.c 128)) (.c 9223372036854775807)))) (
                        .ev (.call 21 (.c true) [.i (.sub (.min (.sub (.sub (.sub (.v 0) (.mul (.c 256) (.v 4))) (.c 128)) (.sub (.sub (.v 1) (.mul (.c 256) (.v 5))) (.c 128))) (.sub (.sub (.sub (.v 2) (.mul (.c 256) (.v 4))) (.c 128)) (.sub (.sub (.v 3) (.mul (.c 256) (.v 5))) (.c 128)))) (.c 128)), .i (.c (-1)), .i (.c 1)] [.one (.c (.i .i64))] 4998) (
                         .ev (.need (.or (.not (.not (.le (.c 0) (.v 4998)))) (.and (.le (.c (-9223372036854775808)) (.sub (.sub (.sub (.v 0) (.mul (.c 256) (.v 4))) (.c 128)) (.sub (.sub (.v 1) (.mul (.c 256) (.v 5))) (.c 128)))) (.le (.sub (.sub (.sub (.v 0) (.mul (.c 256) (.v 4))) (.c 128)) (.sub (.sub (.v 1) (.mul (.c 256) (.v 5))) (.c 128))) (.c 9223372036854775807))))) (
                          .ev (.need (.or (.not (.not (.le (.c 0) (.v 4998)))) (.and (.le (.c (-9223372036854775808)) (.sub (.sub (.sub (.v 2) (.mul (.c 256) (.v 4))) (.c 128)) (.sub (.sub (.v 3) (.mul (.c 256) (.v 5))) (.c 128)))) (.le (.sub (.sub (.sub (.v 2) (.mul (.c 256) (.v 4))) (.c 128)) (.sub (.sub (.v 3) (.mul (.c 256) (.v 5))) (.c 128))) (.c 9223372036854775807))))) (
                           .ev (.need (.or (.not (.not (.le (.c 0) (.v 4998)))) (.and (.le (.c (-9223372036854775808)) (.add (.max (.sub (.sub (.sub (.v 0) (.mul (.c 256) (.v 4))) (.c 128)) (.sub (.sub (.v 1) (.mul (.c 256) (.v 5))) (.c 128))) (.sub (.sub (.sub (.v 2) (.mul (.c 256) (.v 4))) (.c 128)) (.sub (.sub (.v 3) (.mul (.c 256) (.v 5))) (.c 128)))) (.c 128))) (.le (.add (.max (.sub (.sub (.sub (.v 0) (.mul (.c 256) (.v 4))) (.c 128)) (.sub (.sub (.v 1) (.mul (.c 256) (.v 5))) (.c 128))) (.sub (.sub (.sub (.v 2) (.mul (.c 256) (.v 4))) (.c 128)) (.sub (.sub (.v 3) (.mul (.c 256) (.v 5))) (.c 128)))) (.c 128)) (.c 9223372036854775807))))) (
                            .ev (.call 21 (.not (.le (.c 0) (.v 4998))) [.i (.add (.max (.sub (.sub (.sub (.v 0) (.mul (.c 256) (.v 4))) (.c 128)) (.sub (.sub (.v 1) (.mul (.c 256) (.v 5))) (.c 128))) (.sub (.sub (.sub (.v 2) (.mul (.c 256) (.v 4))) (.c 128)) (.sub (.sub (.v 3) (.mul (.c 256) (.v 5))) (.c 128)))) (.c 128)), .i (.c (-1)), .i (.c 1)] [.one (.c (.i .i64))] 6022) (
                             .ite (.or (.le (.c 0) (.v 4998)) (.le (.v 6022) (.c 0))) (
                              .ret [.b (.c false)]) (
                              .ite (.and (.eq (.v 0) (.v 2)) (.eq (.v 1) (.v 3))) (
                               .ret [.b (.c true)]) (
                               .ev (.need (.and (.le (.c (-9223372036854775808)) (.sub (.sub (.sub (.v 2) (.mul (.c 256) (.v 4))) (.c 128)) (.sub (.sub (.v 0) (.mul (.c 256) (.v 4))) (.c 128)))) (.le (.sub (.sub (.sub (.v 2) (.mul (.c 256) (.v 4))) (.c 128)) (.sub (.sub (.v 0) (.mul (.c 256) (.v 4))) (.c 128))) (.c 9223372036854775807)))) (
                                .ev (.need (.and (.le (.c (-9223372036854775808)) (.sub (.sub (.sub (.v 3) (.mul (.c 256) (.v 5))) (.c 128)) (.sub (.sub (.v 1) (.mul (.c 256) (.v 5))) (.c 128)))) (.le (.sub (.sub (.sub (.v 3) (.mul (.c 256) (.v 5))) (.c 128)) (.sub (.sub (.v 1) (.mul (.c 256) (.v 5))) (.c 128))) (.c 9223372036854775807)))) (
                                 .ev (.need (.and (.le (.c (-9223372036854775808)) (.mul (.sub (.sub (.sub (.v 2) (.mul (.c 256) (.v 4))) (.c 128)) (.sub (.sub (.v 0) (.mul (.c 256) (.v 4))) (.c 128))) (.sub (.sub (.v 1) (.mul (.c 256) (.v 5))) (.c 128)))) (.le (.mul (.sub (.sub (.sub (.v 2) (.mul (.c 256) (.v 4))) (.c 128)) (.sub (.sub (.v 0) (.mul (.c 256) (.v 4))) (.c 128))) (.sub (.sub (.v 1) (.mul (.c 256) (.v 5))) (.c 128))) (.c 9223372036854775807)))) (
                                  .ev (.need (.and (.le (.c (-9223372036854775808)) (.mul (.sub (.sub (.sub (.v 3) (.mul (.c 256) (.v 5))) (.c 128)) (.sub (.sub (.v 1) (.mul (.c 256) (.v 5))) (.c 128))) (.sub (.sub (.v 0) (.mul (.c 256) (.v 4))) (.c 128)))) (.le (.mul (.sub (.sub (.sub (.v 3) (.mul (.c 256) (.v 5))) (.c 128)) (.sub (.sub (.v 1) (.mul (.c 256) (.v 5))) (.c 128))) (.sub (.sub (.v 0) (.mul (.c 256) (.v 4))) (.c 128))) (.c 9223372036854775807)))) (
                                   .ev (.need (.and (.le (.c (-9223372036854775808)) (.sub (.mul (.sub (.sub (.sub (.v 2) (.mul (.c 256) (.v 4))) (.c 128)) (.sub (.sub (.v 0) (.mul (.c 256) (.v 4))) (.c 128))) (.sub (.sub (.v 1) (.mul (.c 256) (.v 5))) (.c 128))) (.mul (.sub (.sub (.sub (.v 3) (.mul (.c 256) (.v 5))) (.c 128)) (.sub (.sub (.v 1) (.mul (.c 256) (.v 5))) (.c 128))) (.sub (.sub (.v 0) (.mul (.c 256) (.v 4))) (.c 128))))) (.le (.sub (.mul (.sub (.sub (.sub (.v 2) (.mul (.c 256) (.v 4))) (.c 128)) (.sub (.sub (.v 0) (.mul (.c 256) (.v 4))) (.c 128))) (.sub (.sub (.v 1) (.mul (.c 256) (.v 5))) (.c 128))) (.mul (.sub (.sub (.sub (.v 3) (.mul (.c 256) (.v 5))) (.c 128)) (.sub (.sub (.v 1) (.mul (.c 256) (.v 5))) (.c 128))) (.sub (.sub (.v 0) (.mul (.c 256) (.v 4))) (.c 128)))) (.c 9223372036854775807)))) (
                                    .ev (.call 22 (.c true) [.i (.sub (.sub (.sub (.v 2) (.mul (.c 256) (.v 4))) (.c 128)) (.sub (.sub (.v 0) (.mul (.c 256) (.v 4))) (.c 128)))] [.one (.c (.i .i64))] 7814) (
                                     .ev (.call 22 (.c true) [.i (.sub (.sub (.sub (.v 3) (.mul (.c 256) (.v 5))) (.c 128)) (.sub (.sub (.v 1) (.mul (.c 256) (.v 5))) (.c 128)))] [.one (.c (.i .i64))] 7942) (
                                      .ev (.need (.and (.le (.c (-9223372036854775808)) (.mul (.c 128) (.max (.v 7814) (.v 7942)))) (.le (.mul (.c 128) (.max (.v 7814) (.v 7942))) (.c 9223372036854775807)))) (
                                       .ev (.need (.and (.le (.c (-9223372036854775808)) (.sub (.sub (.mul (.sub (.sub (.sub (.v 2) (.mul (.c 256) (.v 4))) (.c 128)) (.sub (.sub (.v 0) (.mul (.c 256) (.v 4))) (.c 128))) (.sub (.sub (.v 1) (.mul (.c 256) (.v 5))) (.c 128))) (.mul (.sub (.sub (.sub (.v 3) (.mul (.c 256) (.v 5))) (.c 128)) (.sub (.sub (.v 1) (.mul (.c 256) (.v 5))) (.c 128))) (.sub (.sub (.v 0) (.mul (.c 256) (.v 4))) (.c 128)))) (.mul (.c 128) (.max (.v 7814) (.v 7942))))) (.le (.sub (.sub (.mul (.sub (.sub (.sub (.v 2) (.mul (.c 256) (.v 4))) (.c 128)) (.sub (.sub (.v 0) (.mul (.c 256) (.v 4))) (.c 128))) (.sub (.sub (.v 1) (.mul (.c 256) (.v 5))) (.c 128))) (.mul (.sub (.sub (.sub (.v 3) (.mul (.c 256) (.v 5))) (.c 128)) (.sub (.sub (.v 1) (.mul (.c 256) (.v 5))) (.c 128))) (.sub (.sub (.v 0) (.mul (.c 256) (.v 4))) (.c 128)))) (.mul (.c 128) (.max (.v 7814) (.v 7942)))) (.c 9223372036854775807)))) (
                                        .ev (.need (.and (.le (.c (-9223372036854775808)) (.sub (.c 0) (.sub (.sub (.sub (.v 2) (.mul (.c 256) (.v 4))) (.c 128)) (.sub (.sub (.v 0) (.mul (.c 256) (.v 4))) (.c 128))))) (.le (.sub (.c 0) (.sub (.sub (.sub (.v 2) (.mul (.c 256) (.v 4))) (.c 128)) (.sub (.sub (.v 0) (.mul (.c 256) (.v 4))) (.c 128)))) (.c 9223372036854775807)))) (
                                         .ev (.call 21 (.c true) [.i (.sub (.sub (.mul (.sub (.sub (.sub (.v 2) (.mul (.c 256) (.v 4))) (.c 128)) (.sub (.sub (.v 0) (.mul (.c 256) (.v 4))) (.c 128))) (.sub (.sub (.v 1) (.mul (.c 256) (.v 5))) (.c 128))) (.mul (.sub (.sub (.sub (.v 3) (.mul (.c 256) (.v 5))) (.c 128)) (.sub (.sub (.v 1) (.mul (.c 256) (.v 5))) (.c 128))) (.sub (.sub (.v 0) (.mul (.c 256) (.v 4))) (.c 128)))) (.mul (.c 128) (.max (.v 7814) (.v 7942)))), .i (.sub (.sub (.sub (.v 3) (.mul (.c 256) (.v 5))) (.c 128)) (.sub (.sub (.v 1) (.mul (.c 256) (.v 5))) (.c 128))), .i (.sub (.c 0) (.sub (.sub (.sub (.v 2) (.mul (.c 256) (.v 4))) (.c 128)) (.sub (.sub (.v 0) (.mul (.c 256) (.v 4))) (.c 128))))] [.one (.c (.i .i64))] 8710) (
                                          .ev (.need (.or (.not (.lt (.v 8710) (.c 0))) (.and (.le (.c (-9223372036854775808)) (.add (.sub (.mul (.sub (.sub (.sub (.v 2) (.mul (.c 256) (.v 4))) (.c 128)) (.sub (.sub (.v 0) (.mul (.c 256) (.v 4))) (.c 128))) (.sub (.sub (.v 1) (.mul (.c 256) (.v 5))) (.c 128))) (.mul (.sub (.sub (.sub (.v 3) (.mul (.c 256) (.v 5))) (.c 128)) (.sub (.sub (.v 1) (.mul (.c 256) (.v 5))) (.c 128))) (.sub (.sub (.v 0) (.mul (.c 256) (.v 4))) (.c 128)))) (.mul (.c 128) (.max (.v 7814) (.v 7942))))) (.le (.add (.sub (.mul (.sub (.sub (.sub (.v 2) (.mul (.c 256) (.v 4))) (.c 128)) (.sub (.sub (.v 0) (.mul (.c 256) (.v 4))) (.c 128))) (.sub (.sub (.v 1) (.mul (.c 256) (.v 5))) (.c 128))) (.mul (.sub (.sub (.sub (.v 3) (.mul (.c 256) (.v 5))) (.c 128)) (.sub (.sub (.v 1) (.mul (.c 256) (.v 5))) (.c 128))) (.sub (.sub (.v 0) (.mul (.c 256) (.v 4))) (.c 128)))) (.mul (.c 128) (.max (.v 7814) (.v 7942)))) (.c 9223372036854775807))))) (
                                           .ev (.need (.or (.not (.lt (.v 8710) (.c 0))) (.and (.le (.c (-9223372036854775808)) (.sub (.c 0) (.sub (.sub (.sub (.v 2) (.mul (.c 256) (.v 4))) (.c 128)) (.sub (.sub (.v 0) (.mul (.c 256) (.v 4))) (.c 128))))) (.le (.sub (.c 0) (.sub (.sub (.sub (.v 2) (.mul (.c 256) (.v 4))) (.c 128)) (.sub (.sub (.v 0) (.mul (.c 256) (.v 4))) (.c 128)))) (.c 9223372036854775807))))) (
                                            .ev (.call 21 (.lt (.v 8710) (.c 0)) [.i (.add (.sub (.mul (.sub (.sub (.sub (.v 2) (.mul (.c 256) (.v 4))) (.c 128)) (.sub (.sub (.v 0) (.mul (.c 256) (.v 4))) (.c 128))) (.sub (.sub (.v 1) (.mul (.c 256) (.v 5))) (.c 128))) (.mul (.sub (.sub (.sub (.v 3) (.mul (.c 256) (.v 5))) (.c 128)) (.sub (.sub (.v 1) (.mul (.c 256) (.v 5))) (.c 128))) (.sub (.sub (.v 0) (.mul (.c 256) (.v 4))) (.c 128)))) (.mul (.c 128) (.max (.v 7814) (.v 7942)))), .i (.sub (.sub (.sub (.v 3) (.mul (.c 256) (.v 5))) (.c 128)) (.sub (.sub (.v 1) (.mul (.c 256) (.v 5))) (.c 128))), .i (.sub (.c 0) (.sub (.sub (.sub (.v 2) (.mul (.c 256) (.v 4))) (.c 128)) (.sub (.sub (.v 0) (.mul (.c 256) (.v 4))) (.c 128))))] [.one (.c (.i .i64))] 9350) (
                                             .ret [.b (.and (.lt (.v 8710) (.c 0)) (.lt (.c 0) (.v 9350)))])))))))))))))))))))))))))))))))))))))))))))
theorem is14 : prune [] (execFn Try.prog cfg14 Try.f14 sg14 400) = tree14 := by kernel_rfl
/-- rastrum.diamond.Exits -/
def cfg15 : Cfg := ⟨sigsOf sigs, false, []⟩
def tree15 : Tree :=
  .ev (.call 18 (.c true) [.i (.v 2), .i (.v 3), .i (.v 4), .i (.v 5)] [.one (.c (.b))] 390) (
   .ev (.call 12 (.not (.v 390)) [.i (.v 0), .i (.v 1), .i (.v 2), .i (.v 3), .i (.v 4), .i (.v 5)] [.one (.c (.b))] 838) (
    .ret [.b (.and (.not (.v 390)) (.v 838))]))
theorem is15 : prune [] (execFn Try.prog cfg15 Try.f15 sg15 400) = tree15 := by kernel_rfl
/-- rastrum.rastrumref13.Exits -/
def cfg16 : Cfg := ⟨sigsOf sigs, false, []⟩
def tree16 : Tree :=
  .ev (.call 14 (.c true) [.i (.v 0), .i (.v 1), .i (.v 2), .i (.v 3), .i (.v 4), .i (.v 5)] [.one (.c (.b))] 454) (
   .ev (.call 17 (.v 454) [.i (.v 2), .i (.v 3), .i (.v 4), .i (.v 5)] [.one (.c (.b))] 774) (
    .ret [.b (.and (.v 454) (.not (.v 774)))]))
theorem is16 : prune [] (execFn Try.prog cfg16 Try.f16 sg16 400) = tree16 := by kernel_rfl
/-- rastrum.rastrumref13.Inside -/
def cfg17 : Cfg := ⟨sigsOf sigs, false, []⟩
def tree17 : Tree :=
  .ev (.need (.and (.le (.c (-9223372036854775808)) (.mul (.c 256) (.v 2))) (.le (.mul (.c 256) (.v 2)) (.c 9223372036854775807)))) (
   .ev (.need (.and (.le (.c (-9223372036854775808)) (.sub (.v 0) (.mul (.c 256) (.v 2)))) (.le (.sub (.v 0) (.mul (.c 256) (.v 2))) (.c 9223372036854775807)))) (
    .ev (.need (.and (.le (.c (-9223372036854775808)) (.sub (.sub (.v 0) (.mul (.c 256) (.v 2))) (.c 128))) (.le (.sub (.sub (.v 0) (.mul (.c 256) (.v 2))) (.c 128)) (.c 9223372036854775807)))) (
     .ev (.need (.and (.le (.c (-9223372036854775808)) (.mul (.c 256) (.v 3))) (.le (.mul (.c 256) (.v 3)) (.c 9223372036854775807)))) (
      .ev (.need (.and (.le (.c (-9223372036854775808)) (.sub (.v 1) (.mul (.c 256) (.v 3)))) (.le (.sub (.v 1) (.mul (.c 256) (.v 3))) (.c 9223372036854775807)))) (
       .ev (.need (.and (.le (.c (-9223372036854775808)) (.sub (.sub (.v 1) (.mul (.c 256) (.v 3))) (.c 128))) (.le (.sub (.sub (.v 1) (.mul (.c 256) (.v 3))) (.c 128)) (.c 9223372036854775807)))) (
        .ev (.need (.and (.le (.c (-9223372036854775808)) (.add (.sub (.sub (.v 0) (.mul (.c 256) (.v 2))) (.c 128)) (.sub (.sub (.v 1) (.mul (.c 256) (.v 3))) (.c 128)))) (.le (.add (.sub (.sub (.v 0) (.mul (.c 256) (.v 2))) (.c 128)) (.sub (.sub (.v 1) (.mul (.c 256) (.v 3))) (.c 128))) (.c 9223372036854775807)))) (
         .ev (.need (.and (.le (.c (-9223372036854775808)) (.sub (.add (.sub (.sub (.v 0) (.mul (.c 256) (.v 2))) (.c 128)) (.sub (.sub (.v 1) (.mul (.c 256) (.v 3))) (.c 128))) (.c 128))) (.le (.sub (.add (.sub (.sub (.v 0) (.mul (.c 256) (.v 2))) (.c 128)) (.sub (.sub (.v 1) (.mul (.c 256) (.v 3))) (.c 128))) (.c 128)) (.c 9223372036854775807)))) (
          .ev (.call 21 (.c true) [.i (.sub (.add (.sub (.sub (.v 0) (.mul (.c 256) (.v 2))) (.c 128)) (.sub (.sub (.v 1) (.mul (.c 256) (.v 3))) (.c 128))) (.c 128)), .i (.c (-1)), .i (.c (-1))] [.one (.c (.i .i64))] 1348) (
           .ev (.need (.or (.not (.lt (.v 1348) (.c 0))) (.and (.le (.c (-9223372036854775808)) (.add (.sub (.sub (.v 0) (.mul (.c 256) (.v 2))) (.c 128)) (.sub (.sub (.v 1) (.mul (.c 256) (.v 3))) (.c 128)))) (.le (.add (.sub (.sub (.v 0) (.mul (.c 256) (.v 2))) (.c 128)) (.sub (.sub (.v 1) (.mul (.c 256) (.v 3))) (.c 128))) (.c 9223372036854775807))))) (
            .ev (.need (.or (.not (.lt (.v 1348) (.c 0))) (.and (.le (.c (-9223372036854775808)) (.add (.add (.sub (.sub (.v 0) (.mul (.c 256) (.v 2))) (.c 128)) (.sub (.sub (.v 1) (.mul (.c 256) (.v 3))) (.c 128))) (.c 128))) (.le (.add (.add (.sub (.sub (.v 0) (.mul (.c 256) (.v 2))) (.c 128)) (.sub (.sub (.v 1) (.mul (.c 256) (.v 3))) (.c 128))) (.c 128)) (.c 9223372036854775807))))) (
             .ev (.call 21 (.lt (.v 1348) (.c 0)) [.i (.add (.add (.sub (.sub (.v 0) (.mul (.c 256) (.v 2))) (.c 128)) (.sub (.sub (.v 1) (.mul (.c 256) (.v 3))) (.c 128))) (.c 128)), .i (.c (-1)), .i (.c (-1))] [.one (.c (.i .i64))] 1860) (
              .ev (.need (.or (.not (.and (.lt (.v 1348) (.c 0)) (.lt (.c 0) (.v 1860)))) (.and (.le (.c (-9223372036854775808)) (.sub (.sub (.sub (.v 0) (.mul (.c 256) (.v 2))) (.c 128)) (.sub (.sub (.v 1) (.mul (.c 256) (.v 3))) (.c 128)))) (.le (.sub (.sub (.sub (.v 0) (.mul (.c 256) (.v 2))) (.c 128)) (.sub (.sub (.v 1) (.mul (.c 256) (.v 3))) (.c 128))) (.c 9223372036854775807))))) (
               .ev (.need (.or (.not (.and (.lt (.v 1348) (.c 0)) (.lt (.c 0) (.v 1860)))) (.and (.le (.c (-9223372036854775808)) (.sub (.sub (.sub (.sub (.v 0) (.mul (.c 256) (.v 2))) (.c 128)) (.sub (.sub (.v 1) (.mul (.c 256) (.v 3))) (.c 128))) (.c 128))) (.le (.sub (.sub (.sub (.sub (.v 0) (.mul (.c 256) (.v 2))) (.c 128)) (.sub (.sub (.v 1) (.mul (.c 256) (.v 3))) (.c 128))) (.c 128)) (.c 9223372036854775807))))) (
                .ev (.call 21 (.and (.lt (.v 1348) (.c 0)) (.lt (.c 0) (.v 1860))) [.i (.sub (.sub (.sub (.sub (.v 0) (.mul (.c 256) (.v 2))) (.c 128)) (.sub (.sub (.v 1) (.mul (.c 256) (.v 3))) (.c 128))) (.c 128)), .i (.c (-1)), .i (.c 1)] [.one (.c (.i .i64))] 2436) (
                 .ev (.need (.or (.not (.and (.and (.lt (.v 1348) (.c 0)) (.lt (.c 0) (.v 1860))) (.lt (.v 2436) (.c 0)))) (.and (.le (.c (-9223372036854775808)) (.sub (.sub (.sub (.v 0) (.mul (.c 256) (.v 2))) (.c 128)) (.sub (.sub (.v 1) (.mul (.c 256) (.v 3))) (.c 128)))) (.le (.sub (.sub (.sub (.v 0) (.mul (.c 256) (.v 2))) (.c 128)) (.sub (.sub (.v 1) (.mul (.c 256) (.v 3))) (.c 128))) (.c 9223372036854775807))))) (
                  .ev (.need (.or (.not (.and (.and (.lt (.v 1348) (.c 0)) (.lt (.c 0) (.v 1860))) (.lt (.v 2436) (.c 0)))) (.and (.le (.c (-9223372036854775808)) (.add (.sub (.sub (.sub (.v 0) (.mul (.c 256) (.v 2))) (.c 128)) (.sub (.sub (.v 1) (.mul (.c 256) (.v 3))) (.c 128))) (.c 128))) (.le (.add (.sub (.sub (.sub (.v 0) (.mul (.c 256) (.v 2))) (.c 128)) (.sub (.sub (.v 1) (.mul (.c 256) (.v 3))) (.c 128))) (.c 128)) (.c 9223372036854775807))))) (
                   .ev (.call 21 (.and (.and (.lt (.v 1348) (.c 0)) (.lt (.c 0) (.v 1860))) (.lt (.v 2436) (.c 0))) [.i (.add (.sub (.sub (.sub (.v 0) (.mul (.c 256) (.v 2))) (.c 128)) (.sub (.sub (.v 1) (.mul (.c 256) (.v 3))) (.c 128))) (.c 128)), .i (.c (-1)), .i (.c 1)] [.one (.c (.i .i64))] 3012) (
                    .ret [.b (.and (.and (.and (.lt (.v 1348) (.c 0)) (.lt (.c 0) (.v 1860))) (.lt (.v 2436) (.c 0))) (.lt (.c 0) (.v 3012)))]))))))))))))))))))
theorem is17 : prune [] (execFn Try.prog cfg17 Try.f17 sg17 400) = tree17 := by kernel_rfl
/-- rastrum.diamond.inside -/
def cfg18 : Cfg := ⟨sigsOf sigs, false, []⟩
def tree18 : Tree :=
  .ev (.call 10 (.c true) [.i (.v 0), .i (.v 1)] [.one (.c (.i .i64)), .one (.c (.i .i64)), .one (.c (.b))] 196) (
   .ret [.b (.and (.and (.v 198) (.eq (.v 196) (.v 2))) (.eq (.v 197) (.v 3)))])
theorem is18 : prune [] (execFn Try.prog cfg18 Try.f18 sg18 400) = tree18 := by kernel_rfl
/-- rastrum.diamond.cross -/
def cfg19 : Cfg := ⟨sigsOf sigs, false, []⟩
def tree19 : Tree :=
  .ev (.need (.and (.le (.c (-9223372036854775808)) (.sub (.v 2) (.v 0))) (.le (.sub (.v 2) (.v 0)) (.c 9223372036854775807)))) (
   .ev (.need (.and (.le (.c (-9223372036854775808)) (.sub (.v 3) (.v 1))) (.le (.sub (.v 3) (.v 1)) (.c 9223372036854775807)))) (
    .ite (.lt (.sub (.v 2) (.v 0)) (.c 0)) (
     .ev (.need (.and (.le (.c (-9223372036854775808)) (.sub (.c 0) (.sub (.v 2) (.v 0)))) (.le (.sub (.c 0) (.sub (.v 2) (.v 0))) (.c 9223372036854775807)))) (
      .ev (.need (.and (.le (.c (-9223372036854775808)) (.sub (.c 0) (.sub (.v 3) (.v 1)))) (.le (.sub (.c 0) (.sub (.v 3) (.v 1))) (.c 9223372036854775807)))) (
       .ev (.need (.and (.le (.c (-9223372036854775808)) (.mul (.v 1) (.sub (.c 0) (.sub (.v 2) (.v 0))))) (.le (.mul (.v 1) (.sub (.c 0) (.sub (.v 2) (.v 0)))) (.c 9223372036854775807)))) (
        .ev (.need (.and (.le (.c (-9223372036854775808)) (.mul (.c 256) (.v 4))) (.le (.mul (.c 256) (.v 4)) (.c 9223372036854775807)))) (
         .ev (.need (.and (.le (.c (-9223372036854775808)) (.add (.mul (.c 256) (.v 4)) (.c 128))) (.le (.add (.mul (.c 256) (.v 4)) (.c 128)) (.c 9223372036854775807)))) (
          .ev (.need (.and (.le (.c (-9223372036854775808)) (.sub (.add (.mul (.c 256) (.v 4)) (.c 128)) (.v 0))) (.le (.sub (.add (.mul (.c 256) (.v 4)) (.c 128)) (.v 0)) (.c 9223372036854775807)))) (
           .ev (.need (.and (.le (.c (-9223372036854775808)) (.mul (.sub (.c 0) (.sub (.v 3) (.v 1))) (.sub (.add (.mul (.c 256) (.v 4)) (.c 128)) (.v 0)))) (.le (.mul (.sub (.c 0) (.sub (.v 3) (.v 1))) (.sub (.add (.mul (.c 256) (.v 4)) (.c 128)) (.v 0))) (.c 9223372036854775807)))) (
            .ev (.need (.and (.le (.c (-9223372036854775808)) (.add (.mul (.v 1) (.sub (.c 0) (.sub (.v 2) (.v 0)))) (.mul (.sub (.c 0) (.sub (.v 3) (.v 1))) (.sub (.add (.mul (.c 256) (.v 4)) (.c 128)) (.v 0))))) (.le (.add (.mul (.v 1) (.sub (.c 0) (.sub (.v 2) (.v 0)))) (.mul (.sub (.c 0) (.sub (.v 3) (.v 1))) (.sub (.add (.mul (.c 256) (.v 4)) (.c 128)) (.v 0)))) (.c 9223372036854775807)))) (
             .ite (.le (.sub (.c 0) (.sub (.v 3) (.v 1))) (.c 0)) (
              .ev (.need (.and (.le (.c (-9223372036854775808)) (.sub (.add (.mul (.v 1) (.sub (.c 0) (.sub (.v 2) (.v 0)))) (.mul (.sub (.c 0) (.sub (.v 3) (.v 1))) (.sub (.add (.mul (.c 256) (.v 4)) (.c 128)) (.v 0)))) (.c 1))) (.le (.sub (.add (.mul (.v 1) (.sub (.c 0) (.sub (.v 2) (.v 0)))) (.mul (.sub (.c 0) (.sub (.v 3) (.v 1))) (.sub (.add (.mul (.c 256) (.v 4)) (.c 128)) (.v 0)))) (.c 1)) (.c 9223372036854775807)))) (
               .ev (.need (.and (.le (.c (-9223372036854775808)) (.mul (.c 256) (.sub (.c 0) (.sub (.v 2) (.v 0))))) (.le (.mul (.c 256) (.sub (.c 0) (.sub (.v 2) (.v 0)))) (.c 9223372036854775807)))) (
                .ev (.call 20 (.c true) [.i (.sub (.add (.mul (.v 1) (.sub (.c 0) (.sub (.v 2) (.v 0)))) (.mul (.sub (.c 0) (.sub (.v 3) (.v 1))) (.sub (.add (.mul (.c 256) (.v 4)) (.c 128)) (.v 0)))) (.c 1)), .i (.mul (.c 256) (.sub (.c 0) (.sub (.v 2) (.v 0))))] [.one (.c (.i .i64))] 2885) (
                 .ret [.i (.v 2885)])))) (
              .ev (.need (.and (.le (.c (-9223372036854775808)) (.mul (.c 256) (.sub (.c 0) (.sub (.v 2) (.v 0))))) (.le (.mul (.c 256) (.sub (.c 0) (.sub (.v 2) (.v 0)))) (.c 9223372036854775807)))) (
               .ev (.call 20 (.c true) [.i (.add (.mul (.v 1) (.sub (.c 0) (.sub (.v 2) (.v 0)))) (.mul (.sub (.c 0) (.sub (.v 3) (.v 1))) (.sub (.add (.mul (.c 256) (.v 4)) (.c 128)) (.v 0)))), .i (.mul (.c 256) (.sub (.c 0) (.sub (.v 2) (.v 0))))] [.one (.c (.i .i64))] 2693) (
                .ret [.i (.v 2693)])))))))))))) (
     .ev (.need (.and (.le (.c (-9223372036854775808)) (.mul (.v 1) (.sub (.v 2) (.v 0)))) (.le (.mul (.v 1) (.sub (.v 2) (.v 0))) (.c 9223372036854775807)))) (
      .ev (.need (.and (.le (.c (-9223372036854775808)) (.mul (.c 256) (.v 4))) (.le (.mul (.c 256) (.v 4)) (.c 9223372036854775807)))) (
       .ev (.need (.and (.le (.c (-9223372036854775808)) (.add (.mul (.c 256) (.v 4)) (.c 128))) (.le (.add (.mul (.c 256) (.v 4)) (.c 128)) (.c 9223372036854775807)))) (
        .ev (.need (.and (.le (.c (-9223372036854775808)) (.sub (.add (.mul (.c 256) (.v 4)) (.c 128)) (.v 0))) (.le (.sub (.add (.mul (.c 256) (.v 4)) (.c 128)) (.v 0)) (.c 9223372036854775807)))) (
         .ev (.need (.and (.le (.c (-9223372036854775808)) (.mul (.sub (.v 3) (.v 1)) (.sub (.add (.mul (.c 256) (.v 4)) (.c 128)) (.v 0)))) (.le (.mul (.sub (.v 3) (.v 1)) (.sub (.add (.mul (.c 256) (.v 4)) (.c 128)) (.v 0))) (.c 9223372036854775807)))) (
          .ev (.need (.and (.le (.c (-9223372036854775808)) (.add (.mul (.v 1) (.sub (.v 2) (.v 0))) (.mul (.sub (.v 3) (.v 1)) (.sub (.add (.mul (.c 256) (.v 4)) (.c 128)) (.v 0))))) (.le (.add (.mul (.v 1) (.sub (.v 2) (.v 0))) (.mul (.sub (.v 3) (.v 1)) (.sub (.add (.mul (.c 256) (.v 4)) (.c 128)) (.v 0)))) (.c 9223372036854775807)))) (
           .ite (.le (.sub (.v 3) (.v 1)) (.c 0)) (
            .ev (.need (.and (.le (.c (-9223372036854775808)) (.sub (.add (.mul (.v 1) (.sub (.v 2) (.v 0))) (.mul (.sub (.v 3) (.v 1)) (.sub (.add (.mul (.c 256) (.v 4)) (.c 128)) (.v 0)))) (.c 1))) (.le (.sub (.add (.mul (.v 1) (.sub (.v 2) (.v 0))) (.mul (.sub (.v 3) (.v 1)) (.sub (.add (.mul (.c 256) (.v 4)) (.c 128)) (.v 0)))) (.c 1)) (.c 9223372036854775807)))) (
             .ev (.need (.and (.le (.c (-9223372036854775808)) (.mul (.c 256) (.sub (.v 2) (.v 0)))) (.le (.mul (.c 256) (.sub (.v 2) (.v 0))) (.c 9223372036854775807)))) (
              .ev (.call 20 (.c true) [.i (.sub (.add (.mul (.v 1) (.sub (.v 2) (.v 0))) (.mul (.sub (.v 3) (.v 1)) (.sub (.add (.mul (.c 256) (.v 4)) (.c 128)) (.v 0)))) (.c 1)), .i (.mul (.c 256) (.sub (.v 2) (.v 0)))] [.one (.c (.i .i64))] 2501) (
               .ret [.i (.v 2501)])))) (
            .ev (.need (.and (.le (.c (-9223372036854775808)) (.mul (.c 256) (.sub (.v 2) (.v 0)))) (.le (.mul (.c 256) (.sub (.v 2) (.v 0))) (.c 9223372036854775807)))) (
             .ev (.call 20 (.c true) [.i (.add (.mul (.v 1) (.sub (.v 2) (.v 0))) (.mul (.sub (.v 3) (.v 1)) (.sub (.add (.mul (.c 256) (.v 4)) (.c 128)) (.v 0)))), .i (.mul (.c 256) (.sub (.v 2) (.v 0)))] [.one (.c (.i .i64))] 2309) (
              .ret [.i (.v 2309)]))))))))))))
theorem is19 : prune [] (execFn Try.prog cfg19 Try.f19 sg19 400) = tree19 := by kernel_rfl
/-- rastrum.diamond.floor -/
def cfg20 : Cfg := ⟨sigsOf sigs, false, []⟩
def tree20 : Tree :=
  .ev (.need (.ne0 (.v 1))) (
   .ite (.lt (.tmod (.v 0) (.v 1)) (.c 0)) (
    .ev (.need (.and (.le (.c (-9223372036854775808)) (.tdiv (.v 0) (.v 1))) (.le (.tdiv (.v 0) (.v 1)) (.c 9223372036854775807)))) (
     .ev (.need (.and (.le (.c (-9223372036854775808)) (.sub (.tdiv (.v 0) (.v 1)) (.c 1))) (.le (.sub (.tdiv (.v 0) (.v 1)) (.c 1)) (.c 9223372036854775807)))) (
      .ret [.i (.sub (.tdiv (.v 0) (.v 1)) (.c 1))]))) (
    .ev (.need (.and (.le (.c (-9223372036854775808)) (.tdiv (.v 0) (.v 1))) (.le (.tdiv (.v 0) (.v 1)) (.c 9223372036854775807)))) (
     .ret [.i (.tdiv (.v 0) (.v 1))])))
theorem is20 : prune [] (execFn Try.prog cfg20 Try.f20 sg20 400) = tree20 := by kernel_rfl
/-- rastrum.rastrumref13.sign -/
def cfg21 : Cfg := ⟨sigsOf sigs, false, []⟩
def tree21 : Tree :=
  .ite (.lt (.v 0) (.c 0)) (
   .ret [.i (.c (-1))]) (
   .ite (.lt (.c 0) (.v 0)) (
    .ret [.i (.c 1)]) (
    .ite (.lt (.v 1) (.c 0)) (
     .ret [.i (.c (-1))]) (
     .ite (.lt (.c 0) (.v 1)) (
      .ret [.i (.c 1)]) (
      .ite (.lt (.v 2) (.c 0)) (
       .ret [.i (.c (-1))]) (
       .ite (.lt (.c 0) (.v 2)) (
        .ret [.i (.c 1)]) (
        .ret [.i (.c 0)]))))))
theorem is21 : prune [] (execFn Try.prog cfg21 Try.f21 sg21 400) = tree21 := by kernel_rfl
/-- rastrum.rastrumref13.abs -/
def cfg22 : Cfg := ⟨sigsOf sigs, false, []⟩
def tree22 : Tree :=
  .ev (.need (.and (.le (.c (-9223372036854775808)) (.sub (.c 0) (.v 0))) (.le (.sub (.c 0) (.v 0)) (.c 9223372036854775807)))) (
   .ret [.i (.max (.v 0) (.sub (.c 0) (.v 0)))])
theorem is22 : prune [] (execFn Try.prog cfg22 Try.f22 sg22 400) = tree22 := by kernel_rfl
end Go.Proofs.Ytokmmjhnhmealaa.Trees

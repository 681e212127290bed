/- THE FUNCTIONS' TREES, written by the program Gen.lean out of the given translation; each is checked by the kernel. -/
import Derived.Test.YtbaapkffmloclaaSxG1
import Derived.Test.YtbaapkffmloclaaChecked
import Derived.KernelRfl
set_option maxRecDepth 100000
set_option linter.unusedVariables false
namespace Go.Proofs.Ytbaapkffmloclaa.Trees
open Go.Sx
def sg3 : Sig := ⟨[.agg [.c (.i .i64), .c (.i .i64), .c (.i .i64)], .one (.c (.i .i64))], [.one (.c (.b))]⟩
def sg4 : Sig := ⟨[.agg [.c (.i .i64), .c (.i .i64), .c (.i .i64)], .one (.c (.i .i64))], [.one (.c (.b))]⟩
def sg5 : Sig := ⟨[.agg [.c (.i .i64), .c (.i .i64), .c (.i .i64)], .one (.c (.i .i64)), .one (.c (.i .i64))], [.one (.c (.b))]⟩
def sg6 : Sig := ⟨[.agg [.c (.i .i64), .c (.i .i64), .c (.i .i64)], .one (.c (.i .i64)), .one (.c (.i .i64))], [.one (.c (.b))]⟩
def sg7 : Sig := ⟨[.agg [.c (.i .i64), .c (.i .i64), .c (.i .i64)]], [.one (.c (.b))]⟩
def sg8 : Sig := ⟨[], [.one (.c (.b))]⟩
def sg9 : Sig := ⟨[.one (.s 30 [.i .i64, .i .i64]), .one (.s 30 [.i .i64, .i .i64])], [.one (.c (.b))]⟩
def sg10 : Sig := ⟨[.agg [.c (.i .i64), .c (.i .i64), .c (.i .i64)], .one (.c (.i .i64))], [.one (.s 30 [.i .i64, .i .i64])]⟩
def sg11 : Sig := ⟨[.agg [.c (.i .i64), .c (.i .i64), .c (.i .i64)], .one (.c (.i .i64))], [.one (.s 30 [.i .i64, .i .i64])]⟩
def sg12 : Sig := ⟨[.agg [.c (.i .i64), .c (.i .i64), .c (.i .i64)], .one (.c (.i .i64))], [.one (.c (.b))]⟩
def sg13 : Sig := ⟨[.agg [.c (.i .i64), .c (.i .i64), .c (.i .i64)]], [.one (.c (.b))]⟩
def sg14 : Sig := ⟨[.one (.c (.i .i64))], [.one (.c (.b))]⟩
def sg15 : Sig := ⟨[.agg [.c (.i .i64), .c (.i .i64), .c (.i .i64)], .one (.c (.i .i64))], [.one (.c (.b))]⟩
def sg16 : Sig := ⟨[.agg [.c (.i .i64), .c (.i .i64), .c (.i .i64)], .one (.c (.i .i64))], [.agg [.c (.i .i64), .c (.i .i64), .c (.i .i64)]]⟩
def sg17 : Sig := ⟨[.agg [.c (.i .i64), .c (.i .i64), .c (.i .i64)], .one (.c (.i .i64))], [.agg [.c (.i .i64), .c (.i .i64), .c (.i .i64)]]⟩
def sg18 : Sig := ⟨[.one (.c (.i .i64)), .one (.c (.i .i64))], [.one (.c (.b))]⟩
def sigs : List (FuncId × Sig) := [(3, sg3), (4, sg4), (5, sg5), (6, sg6), (7, sg7), (8, sg8), (9, sg9), (10, sg10), (11, sg11), (12, sg12), (13, sg13), (14, sg14), (15, sg15), (16, sg16), (17, sg17), (18, sg18)]
/-- rastrum.rastrumlaw15.DashRuns -/
def cfg3 : Cfg := ⟨sigsOf sigs, false, []⟩
def tree3 : Tree :=
  .ev (.call 7 (.c true) [.i (.v 0), .i (.v 1), .i (.v 2)] [.one (.c (.b))] 196) (
   .ite (.or (.or (.not (.v 196)) (.lt (.v 3) (.c 0))) (.lt (.c 3000) (.v 3))) (
    .ev (.call 8 (.c true) [] [.one (.c (.b))] 836) (
     .ret [.b (.v 836)])) (
    .ev (.call 8 (.c true) [] [.one (.c (.b))] 836) (
     .ev (.call 10 (.v 836) [.i (.v 0), .i (.v 1), .i (.v 2), .i (.v 3)] [.one (.s 30 [.i .i64, .i .i64])] 1092) (
      .ev (.call 11 (.v 836) [.i (.v 0), .i (.v 1), .i (.v 2), .i (.v 3)] [.one (.s 30 [.i .i64, .i .i64])] 1284) (
       .ev (.call 9 (.v 836) [.l 1092, .l 1284] [.one (.c (.b))] 1348) (
        .ret [.b (.and (.v 836) (.v 1348))]))))))
theorem is3 : prune [] (execFn Try.prog cfg3 Try.f3 sg3 400) = tree3 := by kernel_rfl
/-- rastrum.rastrumlaw15.DashSplits -/
def cfg4 : Cfg := ⟨sigsOf sigs, false, [(5, ⟨[], []⟩), (11, ⟨[], []⟩), (13, ⟨[], []⟩)]⟩
def tree4 : Tree :=
  .ev (.call 7 (.c true) [.i (.v 0), .i (.v 1), .i (.v 2)] [.one (.c (.b))] 196) (
   .ite (.or (.or (.not (.v 196)) (.lt (.v 3) (.c 0))) (.lt (.c 1000) (.v 3))) (
    .ev (.call 8 (.c true) [] [.one (.c (.b))] 836) (
     .ret [.b (.v 836)])) (
    .ev (.call 10 (.c true) [.i (.v 0), .i (.v 1), .i (.v 2), .i (.v 3)] [.one (.s 30 [.i .i64, .i .i64])] 964) (
     .loop 5 [.b (.c false), .i (.c 0)] [.c (.b), .c (.i .i64)] 1156 (
      .ite (.lt (.v 1157) (.len 964)) (
       .ev (.need (.le (.c 0) (.v 1157))) (
        .ev (.need (.or (.not (.not (.lt (.get 964 (.v 1157) 0) (.c 0)))) (.le (.c 0) (.v 1157)))) (
         .ev (.need (.or (.not (.not (.lt (.get 964 (.v 1157) 0) (.c 0)))) (.lt (.v 1157) (.len 964)))) (
          .ev (.need (.or (.not (.not (.or (.lt (.get 964 (.v 1157) 0) (.c 0)) (.le (.get 964 (.v 1157) 1) (.get 964 (.v 1157) 0))))) (.le (.c 0) (.v 1157)))) (
           .ev (.need (.or (.not (.not (.or (.lt (.get 964 (.v 1157) 0) (.c 0)) (.le (.get 964 (.v 1157) 1) (.get 964 (.v 1157) 0))))) (.lt (.v 1157) (.len 964)))) (
            .ev (.need (.or (.not (.and (.not (.or (.or (.lt (.get 964 (.v 1157) 0) (.c 0)) (.le (.get 964 (.v 1157) 1) (.get 964 (.v 1157) 0))) (.lt (.v 3) (.get 964 (.v 1157) 1)))) (.lt (.c 0) (.v 1157)))) (.le (.c 0) (.v 1157)))) (
             .ev (.need (.or (.not (.and (.not (.or (.or (.lt (.get 964 (.v 1157) 0) (.c 0)) (.le (.get 964 (.v 1157) 1) (.get 964 (.v 1157) 0))) (.lt (.v 3) (.get 964 (.v 1157) 1)))) (.lt (.c 0) (.v 1157)))) (.lt (.v 1157) (.len 964)))) (
              .ev (.need (.or (.not (.and (.not (.or (.or (.lt (.get 964 (.v 1157) 0) (.c 0)) (.le (.get 964 (.v 1157) 1) (.get 964 (.v 1157) 0))) (.lt (.v 3) (.get 964 (.v 1157) 1)))) (.lt (.c 0) (.v 1157)))) (.and (.le (.c (-9223372036854775808)) (.sub (.v 1157) (.c 1))) (.le (.sub (.v 1157) (.c 1)) (.c 9223372036854775807))))) (
               .ev (.need (.or (.not (.and (.not (.or (.or (.lt (.get 964 (.v 1157) 0) (.c 0)) (.le (.get 964 (.v 1157) 1) (.get 964 (.v 1157) 0))) (.lt (.v 3) (.get 964 (.v 1157) 1)))) (.lt (.c 0) (.v 1157)))) (.le (.c 0) (.sub (.v 1157) (.c 1))))) (
                .ev (.need (.or (.not (.and (.not (.or (.or (.lt (.get 964 (.v 1157) 0) (.c 0)) (.le (.get 964 (.v 1157) 1) (.get 964 (.v 1157) 0))) (.lt (.v 3) (.get 964 (.v 1157) 1)))) (.lt (.c 0) (.v 1157)))) (.lt (.sub (.v 1157) (.c 1)) (.len 964)))) (
                 .ite (.or (.or (.or (.lt (.get 964 (.v 1157) 0) (.c 0)) (.le (.get 964 (.v 1157) 1) (.get 964 (.v 1157) 0))) (.lt (.v 3) (.get 964 (.v 1157) 1))) (.and (.lt (.c 0) (.v 1157)) (.le (.get 964 (.v 1157) 0) (.get 964 (.sub (.v 1157) (.c 1)) 1)))) (
                  .ret [.b (.c false)]) (
                  .ev (.need (.and (.le (.c (-9223372036854775808)) (.add (.v 1157) (.c 1))) (.le (.add (.v 1157) (.c 1)) (.c 9223372036854775807)))) (
                   .again 5 [.b (.v 1156), .i (.add (.v 1157) (.c 1))]))))))))))))) (
       .loop 11 [.b (.v 1156), .i (.c 0), .i (.c 0)] [.c (.b), .c (.i .i64), .c (.i .i64)] 1542 (
        .ite (.lt (.v 1544) (.v 3)) (
         .loop 13 [.i (.v 1543)] [.c (.i .i64)] 1737 (
          .ev (.need (.or (.not (.lt (.v 1737) (.len 964))) (.le (.c 0) (.v 1737)))) (
           .ev (.need (.or (.not (.lt (.v 1737) (.len 964))) (.lt (.v 1737) (.len 964)))) (
            .ite (.and (.lt (.v 1737) (.len 964)) (.le (.get 964 (.v 1737) 1) (.v 1544))) (
             .ev (.need (.and (.le (.c (-9223372036854775808)) (.add (.v 1737) (.c 1))) (.le (.add (.v 1737) (.c 1)) (.c 9223372036854775807)))) (
              .again 13 [.i (.add (.v 1737) (.c 1))])) (
             .ev (.call 12 (.c true) [.i (.v 0), .i (.v 1), .i (.v 2), .i (.v 1544)] [.one (.c (.b))] 2698) (
              .ev (.need (.or (.not (.lt (.v 1737) (.len 964))) (.le (.c 0) (.v 1737)))) (
               .ev (.need (.or (.not (.lt (.v 1737) (.len 964))) (.lt (.v 1737) (.len 964)))) (
                .ite (.not (.iff (.v 2698) (.and (.lt (.v 1737) (.len 964)) (.le (.get 964 (.v 1737) 0) (.v 1544))))) (
                 .ret [.b (.c false)]) (
                 .ev (.need (.and (.le (.c (-9223372036854775808)) (.add (.v 1544) (.c 1))) (.le (.add (.v 1544) (.c 1)) (.c 9223372036854775807)))) (
                  .again 11 [.b (.v 1542), .i (.v 1737), .i (.add (.v 1544) (.c 1))])))))))))) (
         .ev (.call 8 (.c true) [] [.one (.c (.b))] 1737) (
          .ret [.b (.v 1737)]))))))))
theorem is4 : prune [] (execFn Try.prog cfg4 Try.f4 sg4 400) = tree4 := by kernel_rfl
/-- rastrum.rastrumlaw15.DashTells -/
def cfg5 : Cfg := ⟨sigsOf sigs, false, []⟩
def tree5 : Tree :=
  .ev (.call 13 (.c true) [.i (.v 0), .i (.v 1), .i (.v 2)] [.one (.c (.b))] 197) (
   .ev (.call 7 (.c true) [.i (.v 0), .i (.v 1), .i (.v 2)] [.one (.c (.b))] 325) (
    .ite (.not (.iff (.v 197) (.v 325))) (
     .ret [.b (.c false)]) (
     .ev (.call 7 (.c true) [.i (.v 0), .i (.v 1), .i (.v 2)] [.one (.c (.b))] 517) (
      .ev (.call 14 (.v 517) [.i (.v 3)] [.one (.c (.b))] 773) (
       .ev (.call 14 (.not (.or (.not (.v 517)) (.v 773))) [.i (.v 4)] [.one (.c (.b))] 1029) (
        .ite (.or (.or (.not (.v 517)) (.v 773)) (.v 1029)) (
         .ev (.call 8 (.c true) [] [.one (.c (.b))] 1157) (
          .ret [.b (.v 1157)])) (
         .ev (.call 8 (.c true) [] [.one (.c (.b))] 1157) (
          .ev (.call 12 (.v 1157) [.i (.v 0), .i (.v 1), .i (.v 2), .i (.v 3)] [.one (.c (.b))] 1413) (
           .ev (.call 15 (.v 1157) [.i (.v 0), .i (.v 1), .i (.v 2), .i (.v 3)] [.one (.c (.b))] 1605) (
            .ev (.call 16 (.and (.v 1157) (.iff (.v 1413) (.v 1605))) [.i (.v 0), .i (.v 1), .i (.v 2), .i (.v 4)] [.agg [.c (.i .i64), .c (.i .i64), .c (.i .i64)]] 1989) (
             .ev (.call 17 (.and (.v 1157) (.iff (.v 1413) (.v 1605))) [.i (.v 0), .i (.v 1), .i (.v 2), .i (.v 4)] [.agg [.c (.i .i64), .c (.i .i64), .c (.i .i64)]] 2181) (
              .ret [.b (.and (.and (.v 1157) (.iff (.v 1413) (.v 1605))) (.and (.eq (.v 1989) (.v 2181)) (.and (.eq (.v 1990) (.v 2182)) (.eq (.v 1991) (.v 2183)))))]))))))))))))
theorem is5 : prune [] (execFn Try.prog cfg5 Try.f5 sg5 400) = tree5 := by kernel_rfl
/-- rastrum.rastrumlaw15.DashLater -/
def cfg6 : Cfg := ⟨sigsOf sigs, false, []⟩
def tree6 : Tree :=
  .ev (.call 7 (.c true) [.i (.v 0), .i (.v 1), .i (.v 2)] [.one (.c (.b))] 197) (
   .ev (.call 14 (.v 197) [.i (.v 3)] [.one (.c (.b))] 453) (
    .ev (.call 14 (.not (.or (.not (.v 197)) (.v 453))) [.i (.v 4)] [.one (.c (.b))] 709) (
     .ite (.or (.or (.or (.or (.not (.v 197)) (.v 453)) (.v 709)) (.lt (.c 549755813888) (.v 3))) (.lt (.c 549755813888) (.v 4))) (
      .ev (.call 8 (.c true) [] [.one (.c (.b))] 1349) (
       .ret [.b (.v 1349)])) (
      .ev (.call 16 (.c true) [.i (.v 0), .i (.v 1), .i (.v 2), .i (.v 3)] [.agg [.c (.i .i64), .c (.i .i64), .c (.i .i64)]] 1477) (
       .ev (.call 7 (.c true) [.i (.v 1477), .i (.v 1478), .i (.v 1479)] [.one (.c (.b))] 1733) (
        .ite (.or (.or (.not (.v 1733)) (.not (.eq (.v 1477) (.v 0)))) (.not (.eq (.v 1478) (.v 1)))) (
         .ret [.b (.c false)]) (
         .ev (.call 8 (.c true) [] [.one (.c (.b))] 2757) (
          .ev (.need (.or (.not (.v 2757)) (.and (.le (.c (-9223372036854775808)) (.add (.v 3) (.v 4))) (.le (.add (.v 3) (.v 4)) (.c 9223372036854775807))))) (
           .ev (.call 12 (.v 2757) [.i (.v 1477), .i (.v 1478), .i (.v 1479), .i (.v 4)] [.one (.c (.b))] 3013) (
            .ev (.call 12 (.v 2757) [.i (.v 0), .i (.v 1), .i (.v 2), .i (.add (.v 3) (.v 4))] [.one (.c (.b))] 3333) (
             .ev (.need (.or (.not (.and (.v 2757) (.iff (.v 3013) (.v 3333)))) (.and (.le (.c (-9223372036854775808)) (.mul (.c 16) (.v 1))) (.le (.mul (.c 16) (.v 1)) (.c 9223372036854775807))))) (
              .ev (.need (.or (.not (.and (.v 2757) (.iff (.v 3013) (.v 3333)))) (.and (.le (.c (-9223372036854775808)) (.add (.v 4) (.mul (.c 16) (.v 1)))) (.le (.add (.v 4) (.mul (.c 16) (.v 1))) (.c 9223372036854775807))))) (
               .ev (.call 12 (.and (.v 2757) (.iff (.v 3013) (.v 3333))) [.i (.v 0), .i (.v 1), .i (.v 2), .i (.v 4)] [.one (.c (.b))] 3717) (
                .ev (.call 12 (.and (.v 2757) (.iff (.v 3013) (.v 3333))) [.i (.v 0), .i (.v 1), .i (.v 2), .i (.add (.v 4) (.mul (.c 16) (.v 1)))] [.one (.c (.b))] 4165) (
                 .ev (.need (.or (.not (.and (.and (.v 2757) (.iff (.v 3013) (.v 3333))) (.iff (.v 3717) (.v 4165)))) (.and (.le (.c (-9223372036854775808)) (.add (.v 3) (.v 4))) (.le (.add (.v 3) (.v 4)) (.c 9223372036854775807))))) (
                  .ev (.call 16 (.and (.and (.v 2757) (.iff (.v 3013) (.v 3333))) (.iff (.v 3717) (.v 4165))) [.i (.v 1477), .i (.v 1478), .i (.v 1479), .i (.v 4)] [.agg [.c (.i .i64), .c (.i .i64), .c (.i .i64)]] 4549) (
                   .ev (.call 16 (.and (.and (.v 2757) (.iff (.v 3013) (.v 3333))) (.iff (.v 3717) (.v 4165))) [.i (.v 0), .i (.v 1), .i (.v 2), .i (.add (.v 3) (.v 4))] [.agg [.c (.i .i64), .c (.i .i64), .c (.i .i64)]] 4869) (
                    .ret [.b (.and (.and (.and (.v 2757) (.iff (.v 3013) (.v 3333))) (.iff (.v 3717) (.v 4165))) (.and (.eq (.v 4549) (.v 4869)) (.and (.eq (.v 4550) (.v 4870)) (.eq (.v 4551) (.v 4871)))))]))))))))))))))))))
theorem is6 : prune [] (execFn Try.prog cfg6 Try.f6 sg6 400) = tree6 := by kernel_rfl
/-- rastrum.rastrumref15.Right -/
def cfg7 : Cfg := ⟨sigsOf sigs, false, []⟩
def tree7 : Tree :=
  .ret [.b (.and (.and (.and (.and (.and (.le (.c 0) (.v 0)) (.le (.v 0) (.c 65535))) (.le (.c 1) (.v 1))) (.le (.v 1) (.c 256))) (.le (.c 0) (.v 2))) (.le (.v 2) (.c 1099511627776)))]
theorem is7 : prune [] (execFn Try.prog cfg7 Try.f7 sg7 400) = tree7 := by kernel_rfl
/-- rastrum.rastrumlaw15.awake -/
def cfg8 : Cfg := ⟨sigsOf sigs, false, []⟩
def tree8 : Tree :=
  .ev (.call 13 (.c true) [.i (.c 5), .i (.c 2), .i (.c 0)] [.one (.c (.b))] 320) (
   .ev (.call 12 (.v 320) [.i (.c 5), .i (.c 2), .i (.c 0), .i (.c 1)] [.one (.c (.b))] 512) (
    .ev (.call 12 (.and (.v 320) (.v 512)) [.i (.c 5), .i (.c 2), .i (.c 0), .i (.c 2)] [.one (.c (.b))] 768) (
     .ev (.call 12 (.and (.and (.v 320) (.v 512)) (.not (.v 768))) [.i (.c 5), .i (.c 2), .i (.c 0), .i (.c 5)] [.one (.c (.b))] 1088) (
      .ev (.call 10 (.and (.and (.and (.v 320) (.v 512)) (.not (.v 768))) (.v 1088)) [.i (.c 5), .i (.c 2), .i (.c 0), .i (.c 9)] [.one (.s 30 [.i .i64, .i .i64])] 1344) (
       .ev (.letl 1536 (.lit [[(.c 0), (.c 2)], [(.c 4), (.c 6)]])) (
        .ev (.call 9 (.and (.and (.and (.v 320) (.v 512)) (.not (.v 768))) (.v 1088)) [.l 1344, .l 1536] [.one (.c (.b))] 1600) (
         .ret [.b (.and (.and (.and (.and (.v 320) (.v 512)) (.not (.v 768))) (.v 1088)) (.v 1600))])))))))
theorem is8 : prune [] (execFn Try.prog cfg8 Try.f8 sg8 400) = tree8 := by kernel_rfl
/-- rastrum.rastrumref15.Same -/
def cfg9 : Cfg := ⟨sigsOf sigs, false, [(4, ⟨[], []⟩)]⟩
def tree9 : Tree :=
  .ite (.not (.eq (.len 0) (.len 1))) (
   .ret [.b (.c false)]) (
   .loop 4 [.b (.c false), .i (.c 0)] [.c (.b), .c (.i .i64)] 450 (
    .ite (.lt (.v 451) (.len 0)) (
     .ev (.need (.le (.c 0) (.v 451))) (
      .ev (.need (.lt (.v 451) (.len 1))) (
       .ite (.not (.and (.eq (.get 0 (.v 451) 0) (.get 1 (.v 451) 0)) (.eq (.get 0 (.v 451) 1) (.get 1 (.v 451) 1)))) (
        .ret [.b (.c false)]) (
        .ev (.need (.and (.le (.c (-9223372036854775808)) (.add (.v 451) (.c 1))) (.le (.add (.v 451) (.c 1)) (.c 9223372036854775807)))) (
         .again 4 [.b (.v 450), .i (.add (.v 451) (.c 1))]))))) (
     .ret [.b (.c true)])))
theorem is9 : prune [] (execFn Try.prog cfg9 Try.f9 sg9 400) = tree9 := by kernel_rfl
/-- rastrum.dash.Runs -/
def cfg10 : Cfg := ⟨sigsOf sigs, false, [(3, ⟨[], [(5, 30, [.i .i64, .i .i64])]⟩)]⟩
def tree10 : Tree :=
  .loop 3 [.nil, .i (.c 0)] [.s 30 [.i .i64, .i .i64], .c (.i .i64)] 260 (
   .ite (.lt (.v 261) (.v 3)) (
    .ev (.need (.and (.le (.c (-9223372036854775808)) (.add (.v 2) (.v 261))) (.le (.add (.v 2) (.v 261)) (.c 9223372036854775807)))) (
     .ev (.need (.ne0 (.v 1))) (
      .ev (.need (.and (.le (.c (-9223372036854775808)) (.tdiv (.add (.v 2) (.v 261)) (.v 1))) (.le (.tdiv (.add (.v 2) (.v 261)) (.v 1)) (.c 9223372036854775807)))) (
       .ev (.need (.and (.le (.c (-9223372036854775808)) (.add (.tdiv (.add (.v 2) (.v 261)) (.v 1)) (.c 1))) (.le (.add (.tdiv (.add (.v 2) (.v 261)) (.v 1)) (.c 1)) (.c 9223372036854775807)))) (
        .ev (.need (.and (.le (.c (-9223372036854775808)) (.mul (.add (.tdiv (.add (.v 2) (.v 261)) (.v 1)) (.c 1)) (.v 1))) (.le (.mul (.add (.tdiv (.add (.v 2) (.v 261)) (.v 1)) (.c 1)) (.v 1)) (.c 9223372036854775807)))) (
         .ev (.need (.and (.le (.c (-9223372036854775808)) (.sub (.mul (.add (.tdiv (.add (.v 2) (.v 261)) (.v 1)) (.c 1)) (.v 1)) (.v 2))) (.le (.sub (.mul (.add (.tdiv (.add (.v 2) (.v 261)) (.v 1)) (.c 1)) (.v 1)) (.v 2)) (.c 9223372036854775807)))) (
          .ev (.call 18 (.c true) [.i (.v 0), .i (.tdiv (.add (.v 2) (.v 261)) (.v 1))] [.one (.c (.b))] 1862) (
           .ite (.v 1862) (
            .ev (.need (.and (.le (.c (-9223372036854775808)) (.sub (.len 260) (.c 1))) (.le (.sub (.len 260) (.c 1)) (.c 9223372036854775807)))) (
             .ev (.need (.or (.not (.le (.c 0) (.sub (.len 260) (.c 1)))) (.le (.c 0) (.sub (.len 260) (.c 1))))) (
              .ev (.need (.or (.not (.le (.c 0) (.sub (.len 260) (.c 1)))) (.lt (.sub (.len 260) (.c 1)) (.len 260)))) (
               .ite (.and (.le (.c 0) (.sub (.len 260) (.c 1))) (.eq (.get 260 (.sub (.len 260) (.c 1)) 1) (.v 261))) (
                .ev (.need (.lt (.sub (.len 260) (.c 1)) (.len 260))) (
                 .ev (.letl 3206 (.set 260 (.sub (.len 260) (.c 1)) 1 (.min (.sub (.mul (.add (.tdiv (.add (.v 2) (.v 261)) (.v 1)) (.c 1)) (.v 1)) (.v 2)) (.v 3)))) (
                  .again 3 [.l 3206, .i (.min (.sub (.mul (.add (.tdiv (.add (.v 2) (.v 261)) (.v 1)) (.c 1)) (.v 1)) (.v 2)) (.v 3))]))) (
                .ev (.letl 3142 (.lit [[(.v 261), (.min (.sub (.mul (.add (.tdiv (.add (.v 2) (.v 261)) (.v 1)) (.c 1)) (.v 1)) (.v 2)) (.v 3))]])) (
                 .ev (.need (.le (.add (.len 260) (.len 3142)) (.c 8796093022208))) (
                  .ev (.letl 3206 (.app 260 3142)) (
                   .again 3 [.l 3206, .i (.min (.sub (.mul (.add (.tdiv (.add (.v 2) (.v 261)) (.v 1)) (.c 1)) (.v 1)) (.v 2)) (.v 3))])))))))) (
            .again 3 [.l 260, .i (.min (.sub (.mul (.add (.tdiv (.add (.v 2) (.v 261)) (.v 1)) (.c 1)) (.v 1)) (.v 2)) (.v 3))]))))))))) (
    .ret [.l 260]))
theorem is10 : prune [] (execFn Try.prog cfg10 Try.f10 sg10 400) = tree10 := by kernel_rfl
/-- rastrum.rastrumref15.Runs -/
def cfg11 : Cfg := ⟨sigsOf sigs, false, [(3, ⟨[], [(5, 30, [.i .i64, .i .i64])]⟩)]⟩
def tree11 : Tree :=
  .loop 3 [.nil, .i (.c 0)] [.s 30 [.i .i64, .i .i64], .c (.i .i64)] 260 (
   .ite (.lt (.v 261) (.v 3)) (
    .ev (.call 15 (.c true) [.i (.v 0), .i (.v 1), .i (.v 2), .i (.v 261)] [.one (.c (.b))] 582) (
     .ite (.not (.v 582)) (
      .ev (.need (.and (.le (.c (-9223372036854775808)) (.add (.v 261) (.c 1))) (.le (.add (.v 261) (.c 1)) (.c 9223372036854775807)))) (
       .again 3 [.l 260, .i (.add (.v 261) (.c 1))])) (
      .ev (.need (.or (.not (.lt (.c 0) (.len 260))) (.and (.le (.c (-9223372036854775808)) (.sub (.len 260) (.c 1))) (.le (.sub (.len 260) (.c 1)) (.c 9223372036854775807))))) (
       .ev (.need (.or (.not (.lt (.c 0) (.len 260))) (.le (.c 0) (.sub (.len 260) (.c 1))))) (
        .ev (.need (.or (.not (.lt (.c 0) (.len 260))) (.lt (.sub (.len 260) (.c 1)) (.len 260)))) (
         .ite (.and (.lt (.c 0) (.len 260)) (.eq (.get 260 (.sub (.len 260) (.c 1)) 1) (.v 261))) (
          .ev (.need (.and (.le (.c (-9223372036854775808)) (.sub (.len 260) (.c 1))) (.le (.sub (.len 260) (.c 1)) (.c 9223372036854775807)))) (
           .ev (.need (.le (.c 0) (.sub (.len 260) (.c 1)))) (
            .ev (.need (.lt (.sub (.len 260) (.c 1)) (.len 260))) (
             .ev (.need (.and (.le (.c (-9223372036854775808)) (.add (.get 260 (.sub (.len 260) (.c 1)) 1) (.c 1))) (.le (.add (.get 260 (.sub (.len 260) (.c 1)) 1) (.c 1)) (.c 9223372036854775807)))) (
              .ev (.letl 2246 (.set 260 (.sub (.len 260) (.c 1)) 1 (.add (.get 260 (.sub (.len 260) (.c 1)) 1) (.c 1)))) (
               .ev (.need (.and (.le (.c (-9223372036854775808)) (.add (.v 261) (.c 1))) (.le (.add (.v 261) (.c 1)) (.c 9223372036854775807)))) (
                .again 3 [.l 2246, .i (.add (.v 261) (.c 1))]))))))) (
          .ev (.need (.and (.le (.c (-9223372036854775808)) (.add (.v 261) (.c 1))) (.le (.add (.v 261) (.c 1)) (.c 9223372036854775807)))) (
           .ev (.letl 1926 (.lit [[(.v 261), (.add (.v 261) (.c 1))]])) (
            .ev (.need (.le (.add (.len 260) (.len 1926)) (.c 8796093022208))) (
             .ev (.letl 1990 (.app 260 1926)) (
              .ev (.need (.and (.le (.c (-9223372036854775808)) (.add (.v 261) (.c 1))) (.le (.add (.v 261) (.c 1)) (.c 9223372036854775807)))) (
               .again 3 [.l 1990, .i (.add (.v 261) (.c 1))])))))))))))) (
    .ret [.l 260]))
theorem is11 : prune [] (execFn Try.prog cfg11 Try.f11 sg11 400) = tree11 := by kernel_rfl
/-- rastrum.dash.Lit -/
def cfg12 : Cfg := ⟨sigsOf sigs, false, []⟩
def tree12 : Tree :=
  .ev (.need (.and (.le (.c (-9223372036854775808)) (.add (.v 2) (.v 3))) (.le (.add (.v 2) (.v 3)) (.c 9223372036854775807)))) (
   .ev (.need (.ne0 (.v 1))) (
    .ev (.need (.and (.le (.c (-9223372036854775808)) (.tdiv (.add (.v 2) (.v 3)) (.v 1))) (.le (.tdiv (.add (.v 2) (.v 3)) (.v 1)) (.c 9223372036854775807)))) (
     .ev (.call 18 (.c true) [.i (.v 0), .i (.tdiv (.add (.v 2) (.v 3)) (.v 1))] [.one (.c (.b))] 708) (
      .ret [.b (.v 708)]))))
theorem is12 : prune [] (execFn Try.prog cfg12 Try.f12 sg12 400) = tree12 := by kernel_rfl
/-- rastrum.dash.Right -/
def cfg13 : Cfg := ⟨sigsOf sigs, false, []⟩
def tree13 : Tree :=
  .ret [.b (.and (.and (.and (.lt (.wrap .u64 (.v 0)) (.c 65536)) (.le (.c 1) (.v 1))) (.le (.v 1) (.c 256))) (.le (.wrap .u64 (.v 2)) (.c 1099511627776)))]
theorem is13 : prune [] (execFn Try.prog cfg13 Try.f13 sg13 400) = tree13 := by kernel_rfl
/-- rastrum.rastrumlaw15.far -/
def cfg14 : Cfg := ⟨sigsOf sigs, false, []⟩
def tree14 : Tree :=
  .ret [.b (.or (.lt (.v 0) (.c 0)) (.lt (.c 1099511627776) (.v 0)))]
theorem is14 : prune [] (execFn Try.prog cfg14 Try.f14 sg14 400) = tree14 := by kernel_rfl
/-- rastrum.rastrumref15.Lit -/
def cfg15 : Cfg := ⟨sigsOf sigs, false, [(4, ⟨[], []⟩)]⟩
def tree15 : Tree :=
  .ev (.need (.and (.le (.c (-9223372036854775808)) (.add (.v 2) (.v 3))) (.le (.add (.v 2) (.v 3)) (.c 9223372036854775807)))) (
   .ev (.need (.ne0 (.v 1))) (
    .ev (.need (.and (.le (.c (-9223372036854775808)) (.tdiv (.add (.v 2) (.v 3)) (.v 1))) (.le (.tdiv (.add (.v 2) (.v 3)) (.v 1)) (.c 9223372036854775807)))) (
     .loop 4 [.i (.v 0), .i (.c 0)] [.c (.i .i64), .c (.i .i64)] 964 (
      .ite (.lt (.v 965) (.tmod (.tdiv (.add (.v 2) (.v 3)) (.v 1)) (.c 16))) (
       .ev (.need (.and (.le (.c (-9223372036854775808)) (.tdiv (.v 964) (.c 2))) (.le (.tdiv (.v 964) (.c 2)) (.c 9223372036854775807)))) (
        .ev (.need (.and (.le (.c (-9223372036854775808)) (.add (.v 965) (.c 1))) (.le (.add (.v 965) (.c 1)) (.c 9223372036854775807)))) (
         .again 4 [.i (.tdiv (.v 964) (.c 2)), .i (.add (.v 965) (.c 1))]))) (
       .ret [.b (.eq (.tmod (.v 964) (.c 2)) (.c 1))])))))
theorem is15 : prune [] (execFn Try.prog cfg15 Try.f15 sg15 400) = tree15 := by kernel_rfl
/-- rastrum.dash.Next -/
def cfg16 : Cfg := ⟨sigsOf sigs, false, []⟩
def tree16 : Tree :=
  .ev (.need (.and (.le (.c (-9223372036854775808)) (.add (.v 2) (.v 3))) (.le (.add (.v 2) (.v 3)) (.c 9223372036854775807)))) (
   .ev (.need (.and (.le (.c (-9223372036854775808)) (.mul (.v 1) (.c 16))) (.le (.mul (.v 1) (.c 16)) (.c 9223372036854775807)))) (
    .ev (.need (.ne0 (.mul (.v 1) (.c 16)))) (
     .ret [.i (.v 0), .i (.v 1), .i (.tmod (.add (.v 2) (.v 3)) (.mul (.v 1) (.c 16)))])))
theorem is16 : prune [] (execFn Try.prog cfg16 Try.f16 sg16 400) = tree16 := by kernel_rfl
/-- rastrum.rastrumref15.Next -/
def cfg17 : Cfg := ⟨sigsOf sigs, false, []⟩
def tree17 : Tree :=
  .ev (.need (.and (.le (.c (-9223372036854775808)) (.add (.v 2) (.v 3))) (.le (.add (.v 2) (.v 3)) (.c 9223372036854775807)))) (
   .ev (.need (.and (.le (.c (-9223372036854775808)) (.mul (.c 16) (.v 1))) (.le (.mul (.c 16) (.v 1)) (.c 9223372036854775807)))) (
    .ev (.need (.ne0 (.mul (.c 16) (.v 1)))) (
     .ret [.i (.v 0), .i (.v 1), .i (.tmod (.add (.v 2) (.v 3)) (.mul (.c 16) (.v 1)))])))
theorem is17 : prune [] (execFn Try.prog cfg17 Try.f17 sg17 400) = tree17 := by kernel_rfl
/-- rastrum.dash.bit -/
def cfg18 : Cfg := ⟨sigsOf sigs, false, []⟩
def tree18 : Tree :=
  .ev (.need (.le (.c 0) (.wrap .u64 (.emod (.v 1) 16)))) (
   .ev (.need (.le (.wrap .u64 (.emod (.v 1) 16)) (.c 64))) (
    .ret [.b (.eq (.emod (.shr (.v 0) (.wrap .u64 (.emod (.v 1) 16))) 2) (.c 1))]))
theorem is18 : prune [] (execFn Try.prog cfg18 Try.f18 sg18 400) = tree18 := by kernel_rfl
end Go.Proofs.Ytbaapkffmloclaa.Trees

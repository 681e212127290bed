/- THE FUNCTIONS' TREES, written by the program Gen.lean out of the given translation; each is checked by the kernel. -/
import Derived.Test.YtdbahmcjdojiaaaSxG1
import Derived.Test.YtdbahmcjdojiaaaChecked
import Derived.KernelRfl
set_option maxRecDepth 100000
set_option linter.unusedVariables false
namespace Go.Proofs.Ytdbahmcjdojiaaa.Trees
open Go.Sx
def sg3 : Sig := ⟨[.agg [.c (.i .i64), .c (.i .i64), .c (.i .i64), .c (.i .i64)], .agg [.c (.i .i64), .c (.i .i64), .c (.i .i64), .c (.i .i64)], .agg [.c (.i .i64), .c (.i .i64)]], [.one (.c (.b))]⟩
def sg4 : Sig := ⟨[.agg [.c (.i .i64), .c (.i .i64), .c (.i .i64), .c (.i .i64), .c (.i .i64), .c (.i .i64), .c (.i .i64), .c (.i .i64), .c (.i .i64), .c (.i .i64), .c (.i .i64), .c (.i .i64)]], [.one (.c (.b))]⟩
def sg5 : Sig := ⟨[.agg [.c (.i .i64), .c (.i .i64), .c (.i .i64), .c (.i .i64)], .agg [.c (.i .i64), .c (.i .i64), .c (.i .i64), .c (.i .i64)], .agg [.c (.i .i64), .c (.i .i64)]], [.one (.c (.b))]⟩
def sg6 : Sig := ⟨[.agg [.c (.i .i64), .c (.i .i64), .c (.i .i64), .c (.i .i64)], .agg [.c (.i .i64), .c (.i .i64)], .agg [.c (.i .i64), .c (.i .i64)]], [.one (.c (.b))]⟩
def sg7 : Sig := ⟨[], [.one (.c (.b))]⟩
def sg8 : Sig := ⟨[.agg [.c (.i .i64), .c (.i .i64), .c (.i .i64), .c (.i .i64)], .agg [.c (.i .i64), .c (.i .i64), .c (.i .i64), .c (.i .i64)]], [.agg [.c (.i .i64), .c (.i .i64), .c (.i .i64), .c (.i .i64)]]⟩
def sg9 : Sig := ⟨[.agg [.c (.i .i64), .c (.i .i64), .c (.i .i64), .c (.i .i64)], .agg [.c (.i .i64), .c (.i .i64), .c (.i .i64), .c (.i .i64)]], [.agg [.c (.i .i64), .c (.i .i64), .c (.i .i64), .c (.i .i64)]]⟩
def sg10 : Sig := ⟨[.one (.s 23 [.i .i64, .i .i64, .i .i64, .i .i64]), .one (.s 23 [.i .i64, .i .i64, .i .i64, .i .i64])], [.one (.c (.b))]⟩
def sg11 : Sig := ⟨[.agg [.c (.i .i64), .c (.i .i64), .c (.i .i64), .c (.i .i64)], .agg [.c (.i .i64), .c (.i .i64), .c (.i .i64), .c (.i .i64)]], [.one (.s 23 [.i .i64, .i .i64, .i .i64, .i .i64])]⟩
def sg12 : Sig := ⟨[.agg [.c (.i .i64), .c (.i .i64), .c (.i .i64), .c (.i .i64)], .agg [.c (.i .i64), .c (.i .i64), .c (.i .i64), .c (.i .i64)]], [.one (.s 23 [.i .i64, .i .i64, .i .i64, .i .i64])]⟩
def sg13 : Sig := ⟨[.agg [.c (.i .i64), .c (.i .i64), .c (.i .i64), .c (.i .i64)], .one (.c (.i .i64)), .one (.c (.i .i64))], [.one (.s 23 [.i .i64, .i .i64, .i .i64, .i .i64])]⟩
def sg14 : Sig := ⟨[.agg [.c (.i .i64), .c (.i .i64), .c (.i .i64), .c (.i .i64)], .one (.c (.i .i64)), .one (.c (.i .i64))], [.one (.s 23 [.i .i64, .i .i64, .i .i64, .i .i64])]⟩
def sg15 : Sig := ⟨[.agg [.c (.i .i64), .c (.i .i64), .c (.i .i64), .c (.i .i64)], .one (.c (.i .i64)), .one (.c (.i .i64))], [.one (.c (.b))]⟩
def sg16 : Sig := ⟨[.agg [.c (.i .i64), .c (.i .i64), .c (.i .i64), .c (.i .i64)]], [.one (.c (.i .i64))]⟩
def sg17 : Sig := ⟨[.one (.c (.i .i64)), .one (.c (.i .i64)), .one (.c (.i .i64)), .one (.c (.i .i64))], [.agg [.c (.i .i64), .c (.i .i64), .c (.i .i64), .c (.i .i64)], .one (.c (.b))]⟩
def sg18 : Sig := ⟨[.one (.c (.i .i64)), .one (.c (.i .i64)), .one (.c (.i .i64)), .one (.c (.i .i64))], [.agg [.c (.i .i64), .c (.i .i64), .c (.i .i64), .c (.i .i64)], .one (.c (.b))]⟩
def sg19 : Sig := ⟨[.agg [.c (.i .i64), .c (.i .i64), .c (.i .i64), .c (.i .i64)]], [.one (.c (.b))]⟩
def sg20 : Sig := ⟨[.agg [.c (.i .i64), .c (.i .i64), .c (.i .i64), .c (.i .i64)]], [.one (.c (.b))]⟩
def sg21 : Sig := ⟨[.agg [.c (.i .i64), .c (.i .i64), .c (.i .i64), .c (.i .i64)]], [.one (.c (.i .i64))]⟩
def sg22 : Sig := ⟨[.agg [.c (.i .i64), .c (.i .i64), .c (.i .i64), .c (.i .i64)], .one (.c (.i .i64)), .one (.c (.i .i64))], [.one (.c (.b))]⟩
def sg23 : Sig := ⟨[.one (.s 23 [.i .i64, .i .i64, .i .i64, .i .i64])], [.one (.s 23 [.i .i64, .i .i64, .i .i64, .i .i64])]⟩
def sg24 : Sig := ⟨[.one (.s 23 [.i .i64, .i .i64, .i .i64, .i .i64])], [.one (.s 23 [.i .i64, .i .i64, .i .i64, .i .i64])]⟩
def sigs : List (FuncId × Sig) := [(3, sg3), (4, sg4), (5, sg5), (6, sg6), (7, sg7), (8, sg8), (9, sg9), (10, sg10), (11, sg11), (12, sg12), (13, sg13), (14, sg14), (15, sg15), (16, sg16), (17, sg17), (18, sg18), (19, sg19), (20, sg20), (21, sg21), (22, sg22), (23, sg23), (24, sg24)]
/-- rastrum.rastrumlaw12.RectCuts -/
def cfg3 : Cfg := ⟨sigsOf sigs, false, []⟩
def tree3 : Tree :=
  .ev (.call 7 (.c true) [] [.one (.c (.b))] 266) (
   .ev (.call 8 (.v 266) [.i (.v 0), .i (.v 1), .i (.v 2), .i (.v 3), .i (.v 4), .i (.v 5), .i (.v 6), .i (.v 7)] [.agg [.c (.i .i64), .c (.i .i64), .c (.i .i64), .c (.i .i64)]] 522) (
    .ev (.call 9 (.v 266) [.i (.v 0), .i (.v 1), .i (.v 2), .i (.v 3), .i (.v 4), .i (.v 5), .i (.v 6), .i (.v 7)] [.agg [.c (.i .i64), .c (.i .i64), .c (.i .i64), .c (.i .i64)]] 714) (
     .ev (.call 11 (.and (.v 266) (.and (.eq (.v 522) (.v 714)) (.and (.eq (.v 523) (.v 715)) (.and (.eq (.v 524) (.v 716)) (.eq (.v 525) (.v 717)))))) [.i (.v 0), .i (.v 1), .i (.v 2), .i (.v 3), .i (.v 4), .i (.v 5), .i (.v 6), .i (.v 7)] [.one (.s 23 [.i .i64, .i .i64, .i .i64, .i .i64])] 1098) (
      .ev (.call 12 (.and (.v 266) (.and (.eq (.v 522) (.v 714)) (.and (.eq (.v 523) (.v 715)) (.and (.eq (.v 524) (.v 716)) (.eq (.v 525) (.v 717)))))) [.i (.v 0), .i (.v 1), .i (.v 2), .i (.v 3), .i (.v 4), .i (.v 5), .i (.v 6), .i (.v 7)] [.one (.s 23 [.i .i64, .i .i64, .i .i64, .i .i64])] 1290) (
       .ev (.call 10 (.and (.v 266) (.and (.eq (.v 522) (.v 714)) (.and (.eq (.v 523) (.v 715)) (.and (.eq (.v 524) (.v 716)) (.eq (.v 525) (.v 717)))))) [.l 1098, .l 1290] [.one (.c (.b))] 1354) (
        .ev (.call 13 (.and (.and (.v 266) (.and (.eq (.v 522) (.v 714)) (.and (.eq (.v 523) (.v 715)) (.and (.eq (.v 524) (.v 716)) (.eq (.v 525) (.v 717)))))) (.v 1354)) [.i (.v 0), .i (.v 1), .i (.v 2), .i (.v 3), .i (.v 8), .i (.v 9)] [.one (.s 23 [.i .i64, .i .i64, .i .i64, .i .i64])] 1866) (
         .ev (.call 14 (.and (.and (.v 266) (.and (.eq (.v 522) (.v 714)) (.and (.eq (.v 523) (.v 715)) (.and (.eq (.v 524) (.v 716)) (.eq (.v 525) (.v 717)))))) (.v 1354)) [.i (.v 0), .i (.v 1), .i (.v 2), .i (.v 3), .i (.v 8), .i (.v 9)] [.one (.s 23 [.i .i64, .i .i64, .i .i64, .i .i64])] 2250) (
          .ev (.call 10 (.and (.and (.v 266) (.and (.eq (.v 522) (.v 714)) (.and (.eq (.v 523) (.v 715)) (.and (.eq (.v 524) (.v 716)) (.eq (.v 525) (.v 717)))))) (.v 1354)) [.l 1866, .l 2250] [.one (.c (.b))] 2314) (
           .ret [.b (.and (.and (.and (.v 266) (.and (.eq (.v 522) (.v 714)) (.and (.eq (.v 523) (.v 715)) (.and (.eq (.v 524) (.v 716)) (.eq (.v 525) (.v 717)))))) (.v 1354)) (.v 2314))])))))))))
theorem is3 : prune [] (execFn Try.prog cfg3 Try.f3 sg3 400) = tree3 := by kernel_rfl
/-- rastrum.rastrumlaw12.RectOnce -/
def cfg4 : Cfg := ⟨sigsOf sigs, false, [(8, ⟨[], []⟩), (14, ⟨[], []⟩)]⟩
def tree4 : Tree :=
  .ev (.call 15 (.c true) [.i (.v 0), .i (.v 1), .i (.v 2), .i (.v 3), .i (.v 10), .i (.v 11)] [.one (.c (.b))] 1548) (
   .ite (.v 1548) (
    .ev (.call 13 (.c true) [.i (.v 0), .i (.v 1), .i (.v 2), .i (.v 3), .i (.v 8), .i (.v 9)] [.one (.s 23 [.i .i64, .i .i64, .i .i64, .i .i64])] 2124) (
     .loop 8 [.i (.c 0), .i (.c 0)] [.c (.i .i64), .c (.i .i64)] 2316 (
      .ite (.lt (.v 2317) (.len 2124)) (
       .ev (.need (.le (.c 0) (.v 2317))) (
        .ev (.call 15 (.c true) [.i (.get 2124 (.v 2317) 0), .i (.get 2124 (.v 2317) 1), .i (.get 2124 (.v 2317) 2), .i (.get 2124 (.v 2317) 3), .i (.v 10), .i (.v 11)] [.one (.c (.b))] 3086) (
         .ite (.v 3086) (
          .ev (.need (.and (.le (.c (-9223372036854775808)) (.add (.v 2316) (.c 1))) (.le (.add (.v 2316) (.c 1)) (.c 9223372036854775807)))) (
           .ev (.need (.and (.le (.c (-9223372036854775808)) (.add (.v 2317) (.c 1))) (.le (.add (.v 2317) (.c 1)) (.c 9223372036854775807)))) (
            .again 8 [.i (.add (.v 2316) (.c 1)), .i (.add (.v 2317) (.c 1))]))) (
          .ev (.need (.and (.le (.c (-9223372036854775808)) (.add (.v 2317) (.c 1))) (.le (.add (.v 2317) (.c 1)) (.c 9223372036854775807)))) (
           .again 8 [.i (.v 2316), .i (.add (.v 2317) (.c 1))]))))) (
       .ev (.call 8 (.c true) [.i (.v 0), .i (.v 1), .i (.v 2), .i (.v 3), .i (.v 4), .i (.v 5), .i (.v 6), .i (.v 7)] [.agg [.c (.i .i64), .c (.i .i64), .c (.i .i64), .c (.i .i64)]] 2702) (
        .ev (.letl 2766 (.lit [[(.v 2702), (.v 2703), (.v 2704), (.v 2705)]])) (
         .ev (.call 11 (.c true) [.i (.v 0), .i (.v 1), .i (.v 2), .i (.v 3), .i (.v 4), .i (.v 5), .i (.v 6), .i (.v 7)] [.one (.s 23 [.i .i64, .i .i64, .i .i64, .i .i64])] 2958) (
          .ev (.letl 3022 (.app 2766 2958)) (
           .ev (.need (.le (.add (.len 2766) (.len 2958)) (.c 4398046511104))) (
            .loop 14 [.i (.c 0), .i (.c 0)] [.c (.i .i64), .c (.i .i64)] 3214 (
             .ite (.lt (.v 3215) (.len 3022)) (
              .ev (.need (.le (.c 0) (.v 3215))) (
               .ev (.call 15 (.c true) [.i (.get 3022 (.v 3215) 0), .i (.get 3022 (.v 3215) 1), .i (.get 3022 (.v 3215) 2), .i (.get 3022 (.v 3215) 3), .i (.v 10), .i (.v 11)] [.one (.c (.b))] 3984) (
                .ite (.v 3984) (
                 .ev (.need (.and (.le (.c (-9223372036854775808)) (.add (.v 3214) (.c 1))) (.le (.add (.v 3214) (.c 1)) (.c 9223372036854775807)))) (
                  .ev (.need (.and (.le (.c (-9223372036854775808)) (.add (.v 3215) (.c 1))) (.le (.add (.v 3215) (.c 1)) (.c 9223372036854775807)))) (
                   .again 14 [.i (.add (.v 3214) (.c 1)), .i (.add (.v 3215) (.c 1))]))) (
                 .ev (.need (.and (.le (.c (-9223372036854775808)) (.add (.v 3215) (.c 1))) (.le (.add (.v 3215) (.c 1)) (.c 9223372036854775807)))) (
                  .again 14 [.i (.v 3214), .i (.add (.v 3215) (.c 1))]))))) (
              .ev (.call 7 (.c true) [] [.one (.c (.b))] 3472) (
               .ret [.b (.and (.and (.v 3472) (.eq (.v 2316) (.c 1))) (.eq (.v 3214) (.c 1)))])))))))))))) (
    .ev (.call 13 (.c true) [.i (.v 0), .i (.v 1), .i (.v 2), .i (.v 3), .i (.v 8), .i (.v 9)] [.one (.s 23 [.i .i64, .i .i64, .i .i64, .i .i64])] 2060) (
     .loop 8 [.i (.c 0), .i (.c 0)] [.c (.i .i64), .c (.i .i64)] 2252 (
      .ite (.lt (.v 2253) (.len 2060)) (
       .ev (.need (.le (.c 0) (.v 2253))) (
        .ev (.call 15 (.c true) [.i (.get 2060 (.v 2253) 0), .i (.get 2060 (.v 2253) 1), .i (.get 2060 (.v 2253) 2), .i (.get 2060 (.v 2253) 3), .i (.v 10), .i (.v 11)] [.one (.c (.b))] 3022) (
         .ite (.v 3022) (
          .ev (.need (.and (.le (.c (-9223372036854775808)) (.add (.v 2252) (.c 1))) (.le (.add (.v 2252) (.c 1)) (.c 9223372036854775807)))) (
           .ev (.need (.and (.le (.c (-9223372036854775808)) (.add (.v 2253) (.c 1))) (.le (.add (.v 2253) (.c 1)) (.c 9223372036854775807)))) (
            .again 8 [.i (.add (.v 2252) (.c 1)), .i (.add (.v 2253) (.c 1))]))) (
          .ev (.need (.and (.le (.c (-9223372036854775808)) (.add (.v 2253) (.c 1))) (.le (.add (.v 2253) (.c 1)) (.c 9223372036854775807)))) (
           .again 8 [.i (.v 2252), .i (.add (.v 2253) (.c 1))]))))) (
       .ev (.call 8 (.c true) [.i (.v 0), .i (.v 1), .i (.v 2), .i (.v 3), .i (.v 4), .i (.v 5), .i (.v 6), .i (.v 7)] [.agg [.c (.i .i64), .c (.i .i64), .c (.i .i64), .c (.i .i64)]] 2638) (
        .ev (.letl 2702 (.lit [[(.v 2638), (.v 2639), (.v 2640), (.v 2641)]])) (
         .ev (.call 11 (.c true) [.i (.v 0), .i (.v 1), .i (.v 2), .i (.v 3), .i (.v 4), .i (.v 5), .i (.v 6), .i (.v 7)] [.one (.s 23 [.i .i64, .i .i64, .i .i64, .i .i64])] 2894) (
          .ev (.letl 2958 (.app 2702 2894)) (
           .ev (.need (.le (.add (.len 2702) (.len 2894)) (.c 4398046511104))) (
            .loop 14 [.i (.c 0), .i (.c 0)] [.c (.i .i64), .c (.i .i64)] 3150 (
             .ite (.lt (.v 3151) (.len 2958)) (
              .ev (.need (.le (.c 0) (.v 3151))) (
               .ev (.call 15 (.c true) [.i (.get 2958 (.v 3151) 0), .i (.get 2958 (.v 3151) 1), .i (.get 2958 (.v 3151) 2), .i (.get 2958 (.v 3151) 3), .i (.v 10), .i (.v 11)] [.one (.c (.b))] 3920) (
                .ite (.v 3920) (
                 .ev (.need (.and (.le (.c (-9223372036854775808)) (.add (.v 3150) (.c 1))) (.le (.add (.v 3150) (.c 1)) (.c 9223372036854775807)))) (
                  .ev (.need (.and (.le (.c (-9223372036854775808)) (.add (.v 3151) (.c 1))) (.le (.add (.v 3151) (.c 1)) (.c 9223372036854775807)))) (
                   .again 14 [.i (.add (.v 3150) (.c 1)), .i (.add (.v 3151) (.c 1))]))) (
                 .ev (.need (.and (.le (.c (-9223372036854775808)) (.add (.v 3151) (.c 1))) (.le (.add (.v 3151) (.c 1)) (.c 9223372036854775807)))) (
                  .again 14 [.i (.v 3150), .i (.add (.v 3151) (.c 1))]))))) (
              .ev (.call 7 (.c true) [] [.one (.c (.b))] 3408) (
               .ret [.b (.and (.and (.v 3408) (.eq (.v 2252) (.c 0))) (.eq (.v 3150) (.c 0)))])))))))))))))
theorem is4 : prune [] (execFn Try.prog cfg4 Try.f4 sg4 400) = tree4 := by kernel_rfl
/-- rastrum.rastrumlaw12.RectSums -/
def cfg5 : Cfg := ⟨sigsOf sigs, false, [(4, ⟨[], []⟩), (9, ⟨[], []⟩)]⟩
def tree5 : Tree :=
  .ev (.call 8 (.c true) [.i (.v 0), .i (.v 1), .i (.v 2), .i (.v 3), .i (.v 4), .i (.v 5), .i (.v 6), .i (.v 7)] [.agg [.c (.i .i64), .c (.i .i64), .c (.i .i64), .c (.i .i64)]] 394) (
   .ev (.call 16 (.c true) [.i (.v 394), .i (.v 395), .i (.v 396), .i (.v 397)] [.one (.c (.i .i64))] 458) (
    .ev (.call 13 (.c true) [.i (.v 0), .i (.v 1), .i (.v 2), .i (.v 3), .i (.v 8), .i (.v 9)] [.one (.s 23 [.i .i64, .i .i64, .i .i64, .i .i64])] 970) (
     .loop 4 [.i (.c 0), .i (.c 0)] [.c (.i .i64), .c (.i .i64)] 1162 (
      .ite (.and (.lt (.v 1163) (.len 970)) (.lt (.v 1163) (.c 9))) (
       .ev (.need (.le (.c 0) (.v 1163))) (
        .ev (.call 16 (.c true) [.i (.get 970 (.v 1163) 0), .i (.get 970 (.v 1163) 1), .i (.get 970 (.v 1163) 2), .i (.get 970 (.v 1163) 3)] [.one (.c (.i .i64))] 1996) (
         .ev (.need (.and (.le (.c (-9223372036854775808)) (.add (.v 1162) (.v 1996))) (.le (.add (.v 1162) (.v 1996)) (.c 9223372036854775807)))) (
          .ev (.need (.and (.le (.c (-9223372036854775808)) (.add (.v 1163) (.c 1))) (.le (.add (.v 1163) (.c 1)) (.c 9223372036854775807)))) (
           .again 4 [.i (.add (.v 1162) (.v 1996)), .i (.add (.v 1163) (.c 1))]))))) (
       .ev (.call 11 (.c true) [.i (.v 0), .i (.v 1), .i (.v 2), .i (.v 3), .i (.v 4), .i (.v 5), .i (.v 6), .i (.v 7)] [.one (.s 23 [.i .i64, .i .i64, .i .i64, .i .i64])] 1804) (
        .loop 9 [.i (.v 458), .i (.c 0)] [.c (.i .i64), .c (.i .i64)] 1996 (
         .ite (.and (.lt (.v 1997) (.len 1804)) (.lt (.v 1997) (.c 9))) (
          .ev (.need (.le (.c 0) (.v 1997))) (
           .ev (.call 16 (.c true) [.i (.get 1804 (.v 1997) 0), .i (.get 1804 (.v 1997) 1), .i (.get 1804 (.v 1997) 2), .i (.get 1804 (.v 1997) 3)] [.one (.c (.i .i64))] 2830) (
            .ev (.need (.and (.le (.c (-9223372036854775808)) (.add (.v 1996) (.v 2830))) (.le (.add (.v 1996) (.v 2830)) (.c 9223372036854775807)))) (
             .ev (.need (.and (.le (.c (-9223372036854775808)) (.add (.v 1997) (.c 1))) (.le (.add (.v 1997) (.c 1)) (.c 9223372036854775807)))) (
              .again 9 [.i (.add (.v 1996) (.v 2830)), .i (.add (.v 1997) (.c 1))]))))) (
          .ev (.call 8 (.c true) [.i (.v 0), .i (.v 1), .i (.v 2), .i (.v 3), .i (.v 4), .i (.v 5), .i (.v 6), .i (.v 7)] [.agg [.c (.i .i64), .c (.i .i64), .c (.i .i64), .c (.i .i64)]] 2638) (
           .ev (.call 7 (.c true) [] [.one (.c (.b))] 2830) (
            .ev (.call 16 (.v 2830) [.i (.v 0), .i (.v 1), .i (.v 2), .i (.v 3)] [.one (.c (.i .i64))] 3086) (
             .ev (.call 8 (.and (.and (.v 2830) (.eq (.v 1162) (.v 3086))) (.eq (.v 1996) (.v 1162))) [.i (.v 4), .i (.v 5), .i (.v 6), .i (.v 7), .i (.v 0), .i (.v 1), .i (.v 2), .i (.v 3)] [.agg [.c (.i .i64), .c (.i .i64), .c (.i .i64), .c (.i .i64)]] 3854) (
              .ev (.call 16 (.and (.and (.and (.v 2830) (.eq (.v 1162) (.v 3086))) (.eq (.v 1996) (.v 1162))) (.and (.eq (.v 2638) (.v 3854)) (.and (.eq (.v 2639) (.v 3855)) (.and (.eq (.v 2640) (.v 3856)) (.eq (.v 2641) (.v 3857)))))) [.i (.v 2638), .i (.v 2639), .i (.v 2640), .i (.v 2641)] [.one (.c (.i .i64))] 4174) (
               .ev (.call 8 (.and (.and (.and (.and (.v 2830) (.eq (.v 1162) (.v 3086))) (.eq (.v 1996) (.v 1162))) (.and (.eq (.v 2638) (.v 3854)) (.and (.eq (.v 2639) (.v 3855)) (.and (.eq (.v 2640) (.v 3856)) (.eq (.v 2641) (.v 3857)))))) (.iff (.eq (.v 4174) (.c 0)) (.and (.eq (.v 2638) (.c 0)) (.and (.eq (.v 2639) (.c 0)) (.and (.eq (.v 2640) (.c 0)) (.eq (.v 2641) (.c 0))))))) [.i (.v 2638), .i (.v 2639), .i (.v 2640), .i (.v 2641), .i (.v 0), .i (.v 1), .i (.v 2), .i (.v 3)] [.agg [.c (.i .i64), .c (.i .i64), .c (.i .i64), .c (.i .i64)]] 4814) (
                .ret [.b (.and (.and (.and (.and (.and (.v 2830) (.eq (.v 1162) (.v 3086))) (.eq (.v 1996) (.v 1162))) (.and (.eq (.v 2638) (.v 3854)) (.and (.eq (.v 2639) (.v 3855)) (.and (.eq (.v 2640) (.v 3856)) (.eq (.v 2641) (.v 3857)))))) (.iff (.eq (.v 4174) (.c 0)) (.and (.eq (.v 2638) (.c 0)) (.and (.eq (.v 2639) (.c 0)) (.and (.eq (.v 2640) (.c 0)) (.eq (.v 2641) (.c 0))))))) (.and (.eq (.v 4814) (.v 2638)) (.and (.eq (.v 4815) (.v 2639)) (.and (.eq (.v 4816) (.v 2640)) (.eq (.v 4817) (.v 2641))))))]))))))))))))))
theorem is5 : prune [] (execFn Try.prog cfg5 Try.f5 sg5 400) = tree5 := by kernel_rfl
/-- rastrum.rastrumlaw12.RectTells -/
def cfg6 : Cfg := ⟨sigsOf sigs, false, []⟩
def tree6 : Tree :=
  .ev (.call 17 (.c true) [.i (.v 4), .i (.v 5), .i (.v 6), .i (.v 7)] [.agg [.c (.i .i64), .c (.i .i64), .c (.i .i64), .c (.i .i64)], .one (.c (.b))] 776) (
   .ev (.call 18 (.c true) [.i (.v 4), .i (.v 5), .i (.v 6), .i (.v 7)] [.agg [.c (.i .i64), .c (.i .i64), .c (.i .i64), .c (.i .i64)], .one (.c (.b))] 1736) (
    .ev (.call 7 (.c true) [] [.one (.c (.b))] 2184) (
     .ev (.call 19 (.v 2184) [.i (.v 0), .i (.v 1), .i (.v 2), .i (.v 3)] [.one (.c (.b))] 2376) (
      .ev (.call 20 (.v 2184) [.i (.v 0), .i (.v 1), .i (.v 2), .i (.v 3)] [.one (.c (.b))] 2504) (
       .ev (.call 16 (.and (.v 2184) (.iff (.v 2376) (.v 2504))) [.i (.v 0), .i (.v 1), .i (.v 2), .i (.v 3)] [.one (.c (.i .i64))] 2824) (
        .ev (.call 21 (.and (.v 2184) (.iff (.v 2376) (.v 2504))) [.i (.v 0), .i (.v 1), .i (.v 2), .i (.v 3)] [.one (.c (.i .i64))] 2952) (
         .ev (.call 15 (.and (.and (.v 2184) (.iff (.v 2376) (.v 2504))) (.eq (.v 2824) (.v 2952))) [.i (.v 0), .i (.v 1), .i (.v 2), .i (.v 3), .i (.v 4), .i (.v 5)] [.one (.c (.b))] 3528) (
          .ev (.call 22 (.and (.and (.v 2184) (.iff (.v 2376) (.v 2504))) (.eq (.v 2824) (.v 2952))) [.i (.v 0), .i (.v 1), .i (.v 2), .i (.v 3), .i (.v 4), .i (.v 5)] [.one (.c (.b))] 3912) (
           .ret [.b (.and (.and (.and (.and (.and (.v 2184) (.iff (.v 2376) (.v 2504))) (.eq (.v 2824) (.v 2952))) (.iff (.v 3528) (.v 3912))) (.and (.eq (.v 776) (.v 1736)) (.and (.eq (.v 777) (.v 1737)) (.and (.eq (.v 778) (.v 1738)) (.eq (.v 779) (.v 1739)))))) (.iff (.v 780) (.v 1740)))])))))))))
theorem is6 : prune [] (execFn Try.prog cfg6 Try.f6 sg6 400) = tree6 := by kernel_rfl
/-- rastrum.rastrumlaw12.awake -/
def cfg7 : Cfg := ⟨sigsOf sigs, false, []⟩
def tree7 : Tree :=
  .ev (.call 11 (.c true) [.i (.c 0), .i (.c 0), .i (.c 3), .i (.c 3), .i (.c 1), .i (.c 1), .i (.c 2), .i (.c 2)] [.one (.s 23 [.i .i64, .i .i64, .i .i64, .i .i64])] 192) (
   .ev (.need (.or (.not (.eq (.len 192) (.c 4))) (.lt (.c 0) (.len 192)))) (
    .ev (.call 16 (.eq (.len 192) (.c 4)) [.i (.get 192 (.c 0) 0), .i (.get 192 (.c 0) 1), .i (.get 192 (.c 0) 2), .i (.get 192 (.c 0) 3)] [.one (.c (.i .i64))] 768) (
     .ev (.need (.or (.not (.and (.eq (.len 192) (.c 4)) (.eq (.v 768) (.c 3)))) (.lt (.c 2) (.len 192)))) (
      .ev (.call 16 (.and (.eq (.len 192) (.c 4)) (.eq (.v 768) (.c 3))) [.i (.get 192 (.c 2) 0), .i (.get 192 (.c 2) 1), .i (.get 192 (.c 2) 2), .i (.get 192 (.c 2) 3)] [.one (.c (.i .i64))] 1216) (
       .ev (.need (.or (.not (.and (.and (.eq (.len 192) (.c 4)) (.eq (.v 768) (.c 3))) (.eq (.v 1216) (.c 1)))) (.lt (.c 3) (.len 192)))) (
        .ev (.call 15 (.and (.and (.eq (.len 192) (.c 4)) (.eq (.v 768) (.c 3))) (.eq (.v 1216) (.c 1))) [.i (.get 192 (.c 3) 0), .i (.get 192 (.c 3) 1), .i (.get 192 (.c 3) 2), .i (.get 192 (.c 3) 3), .i (.c 2), .i (.c 1)] [.one (.c (.b))] 1664) (
         .ret [.b (.and (.and (.and (.eq (.len 192) (.c 4)) (.eq (.v 768) (.c 3))) (.eq (.v 1216) (.c 1))) (.v 1664))])))))))
theorem is7 : prune [] (execFn Try.prog cfg7 Try.f7 sg7 400) = tree7 := by kernel_rfl
/-- rastrum.rect.And -/
def cfg8 : Cfg := ⟨sigsOf sigs, false, []⟩
def tree8 : Tree :=
  .ev (.call 19 (.c true) [.i (.v 0), .i (.v 1), .i (.v 2), .i (.v 3)] [.one (.c (.b))] 264) (
   .ev (.call 19 (.v 264) [.i (.v 4), .i (.v 5), .i (.v 6), .i (.v 7)] [.one (.c (.b))] 520) (
    .ite (.or (.not (.v 264)) (.not (.v 520))) (
     .ret [.i (.c 0), .i (.c 0), .i (.c 0), .i (.c 0)]) (
     .ev (.call 19 (.c true) [.i (.max (.v 0) (.v 4)), .i (.max (.v 1) (.v 5)), .i (.min (.v 2) (.v 6)), .i (.min (.v 3) (.v 7))] [.one (.c (.b))] 2248) (
      .ite (.not (.v 2248)) (
       .ret [.i (.c 0), .i (.c 0), .i (.c 0), .i (.c 0)]) (
       .ret [.i (.max (.v 0) (.v 4)), .i (.max (.v 1) (.v 5)), .i (.min (.v 2) (.v 6)), .i (.min (.v 3) (.v 7))])))))
theorem is8 : prune [] (execFn Try.prog cfg8 Try.f8 sg8 400) = tree8 := by kernel_rfl
/-- rastrum.rastrumref12.And -/
def cfg9 : Cfg := ⟨sigsOf sigs, false, []⟩
def tree9 : Tree :=
  .ev (.call 20 (.c true) [.i (.v 0), .i (.v 1), .i (.v 2), .i (.v 3)] [.one (.c (.b))] 264) (
   .ev (.call 20 (.v 264) [.i (.v 4), .i (.v 5), .i (.v 6), .i (.v 7)] [.one (.c (.b))] 520) (
    .ite (.or (.not (.v 264)) (.not (.v 520))) (
     .ret [.i (.c 0), .i (.c 0), .i (.c 0), .i (.c 0)]) (
     .ev (.call 20 (.c true) [.i (.max (.v 0) (.v 4)), .i (.max (.v 1) (.v 5)), .i (.min (.v 2) (.v 6)), .i (.min (.v 3) (.v 7))] [.one (.c (.b))] 2248) (
      .ite (.not (.v 2248)) (
       .ret [.i (.c 0), .i (.c 0), .i (.c 0), .i (.c 0)]) (
       .ret [.i (.max (.v 0) (.v 4)), .i (.max (.v 1) (.v 5)), .i (.min (.v 2) (.v 6)), .i (.min (.v 3) (.v 7))])))))
theorem is9 : prune [] (execFn Try.prog cfg9 Try.f9 sg9 400) = tree9 := by kernel_rfl
/-- rastrum.rastrumref12.Same -/
def cfg10 : Cfg := ⟨sigsOf sigs, false, [(4, ⟨[], []⟩)]⟩
def tree10 : Tree :=
  .ite (.not (.eq (.len 0) (.len 1))) (
   .ret [.b (.c false)]) (
   .loop 4 [.b (.c false), .i (.c 0)] [.c (.b), .c (.i .i64)] 450 (
    .ite (.lt (.v 451) (.len 0)) (
     .ev (.need (.le (.c 0) (.v 451))) (
      .ev (.need (.lt (.v 451) (.len 1))) (
       .ite (.not (.and (.eq (.get 0 (.v 451) 0) (.get 1 (.v 451) 0)) (.and (.eq (.get 0 (.v 451) 1) (.get 1 (.v 451) 1)) (.and (.eq (.get 0 (.v 451) 2) (.get 1 (.v 451) 2)) (.eq (.get 0 (.v 451) 3) (.get 1 (.v 451) 3)))))) (
        .ret [.b (.c false)]) (
        .ev (.need (.and (.le (.c (-9223372036854775808)) (.add (.v 451) (.c 1))) (.le (.add (.v 451) (.c 1)) (.c 9223372036854775807)))) (
         .again 4 [.b (.v 450), .i (.add (.v 451) (.c 1))]))))) (
     .ret [.b (.c true)])))
theorem is10 : prune [] (execFn Try.prog cfg10 Try.f10 sg10 400) = tree10 := by kernel_rfl
/-- rastrum.rect.Minus -/
def cfg11 : Cfg := ⟨sigsOf sigs, false, []⟩
def tree11 : Tree :=
  .ev (.call 8 (.c true) [.i (.v 0), .i (.v 1), .i (.v 2), .i (.v 3), .i (.v 4), .i (.v 5), .i (.v 6), .i (.v 7)] [.agg [.c (.i .i64), .c (.i .i64), .c (.i .i64), .c (.i .i64)]] 328) (
   .ev (.call 19 (.c true) [.i (.v 328), .i (.v 329), .i (.v 330), .i (.v 331)] [.one (.c (.b))] 584) (
    .ite (.not (.v 584)) (
     .ev (.letl 776 (.lit [[(.v 0), (.v 1), (.v 2), (.v 3)]])) (
      .ev (.call 23 (.c true) [.l 776] [.one (.s 23 [.i .i64, .i .i64, .i .i64, .i .i64])] 840) (
       .ret [.l 840]))) (
     .ev (.letl 3016 (.lit [[(.v 0), (.v 1), (.v 2), (.v 329)], [(.v 0), (.v 331), (.v 2), (.v 3)], [(.v 0), (.v 329), (.v 328), (.v 331)], [(.v 330), (.v 329), (.v 2), (.v 331)]])) (
      .ev (.call 23 (.c true) [.l 3016] [.one (.s 23 [.i .i64, .i .i64, .i .i64, .i .i64])] 3080) (
       .ret [.l 3080])))))
theorem is11 : prune [] (execFn Try.prog cfg11 Try.f11 sg11 400) = tree11 := by kernel_rfl
/-- rastrum.rastrumref12.Minus -/
def cfg12 : Cfg := ⟨sigsOf sigs, false, []⟩
def tree12 : Tree :=
  .ev (.call 9 (.c true) [.i (.v 0), .i (.v 1), .i (.v 2), .i (.v 3), .i (.v 4), .i (.v 5), .i (.v 6), .i (.v 7)] [.agg [.c (.i .i64), .c (.i .i64), .c (.i .i64), .c (.i .i64)]] 328) (
   .ev (.call 20 (.c true) [.i (.v 328), .i (.v 329), .i (.v 330), .i (.v 331)] [.one (.c (.b))] 584) (
    .ite (.not (.v 584)) (
     .ev (.letl 776 (.lit [[(.v 0), (.v 1), (.v 2), (.v 3)]])) (
      .ev (.call 24 (.c true) [.l 776] [.one (.s 23 [.i .i64, .i .i64, .i .i64, .i .i64])] 840) (
       .ret [.l 840]))) (
     .ev (.letl 3016 (.lit [[(.v 0), (.v 1), (.v 2), (.v 329)], [(.v 0), (.v 331), (.v 2), (.v 3)], [(.v 0), (.v 329), (.v 328), (.v 331)], [(.v 330), (.v 329), (.v 2), (.v 331)]])) (
      .ev (.call 24 (.c true) [.l 3016] [.one (.s 23 [.i .i64, .i .i64, .i .i64, .i .i64])] 3080) (
       .ret [.l 3080])))))
theorem is12 : prune [] (execFn Try.prog cfg12 Try.f12 sg12 400) = tree12 := by kernel_rfl
/-- rastrum.rect.Parts -/
def cfg13 : Cfg := ⟨sigsOf sigs, false, []⟩
def tree13 : Tree :=
  .ev (.call 19 (.c true) [.i (.v 0), .i (.v 1), .i (.v 2), .i (.v 3)] [.one (.c (.b))] 198) (
   .ite (.not (.v 198)) (
    .ret [.nil]) (
    .ev (.letl 3142 (.lit [[(.v 0), (.v 1), (.max (.v 0) (.min (.v 4) (.v 2))), (.max (.v 1) (.min (.v 5) (.v 3)))], [(.max (.v 0) (.min (.v 4) (.v 2))), (.v 1), (.v 2), (.max (.v 1) (.min (.v 5) (.v 3)))], [(.v 0), (.max (.v 1) (.min (.v 5) (.v 3))), (.max (.v 0) (.min (.v 4) (.v 2))), (.v 3)], [(.max (.v 0) (.min (.v 4) (.v 2))), (.max (.v 1) (.min (.v 5) (.v 3))), (.v 2), (.v 3)]])) (
     .ev (.call 23 (.c true) [.l 3142] [.one (.s 23 [.i .i64, .i .i64, .i .i64, .i .i64])] 3206) (
      .ret [.l 3206]))))
theorem is13 : prune [] (execFn Try.prog cfg13 Try.f13 sg13 400) = tree13 := by kernel_rfl
/-- rastrum.rastrumref12.Parts -/
def cfg14 : Cfg := ⟨sigsOf sigs, false, []⟩
def tree14 : Tree :=
  .ev (.call 20 (.c true) [.i (.v 0), .i (.v 1), .i (.v 2), .i (.v 3)] [.one (.c (.b))] 198) (
   .ite (.not (.v 198)) (
    .ret [.nil]) (
    .ev (.letl 3142 (.lit [[(.v 0), (.v 1), (.max (.v 0) (.min (.v 4) (.v 2))), (.max (.v 1) (.min (.v 5) (.v 3)))], [(.max (.v 0) (.min (.v 4) (.v 2))), (.v 1), (.v 2), (.max (.v 1) (.min (.v 5) (.v 3)))], [(.v 0), (.max (.v 1) (.min (.v 5) (.v 3))), (.max (.v 0) (.min (.v 4) (.v 2))), (.v 3)], [(.max (.v 0) (.min (.v 4) (.v 2))), (.max (.v 1) (.min (.v 5) (.v 3))), (.v 2), (.v 3)]])) (
     .ev (.call 24 (.c true) [.l 3142] [.one (.s 23 [.i .i64, .i .i64, .i .i64, .i .i64])] 3206) (
      .ret [.l 3206]))))
theorem is14 : prune [] (execFn Try.prog cfg14 Try.f14 sg14 400) = tree14 := by kernel_rfl
/-- rastrum.rect.Has -/
def cfg15 : Cfg := ⟨sigsOf sigs, false, []⟩
def tree15 : Tree :=
  .ev (.call 19 (.c true) [.i (.v 0), .i (.v 1), .i (.v 2), .i (.v 3)] [.one (.c (.b))] 198) (
   .ret [.b (.and (.and (.and (.and (.v 198) (.le (.v 0) (.v 4))) (.lt (.v 4) (.v 2))) (.le (.v 1) (.v 5))) (.lt (.v 5) (.v 3)))])
theorem is15 : prune [] (execFn Try.prog cfg15 Try.f15 sg15 400) = tree15 := by kernel_rfl
/-- rastrum.rect.Area -/
def cfg16 : Cfg := ⟨sigsOf sigs, false, []⟩
def tree16 : Tree :=
  .ev (.call 19 (.c true) [.i (.v 0), .i (.v 1), .i (.v 2), .i (.v 3)] [.one (.c (.b))] 196) (
   .ite (.not (.v 196)) (
    .ret [.i (.c 0)]) (
    .ev (.need (.and (.le (.c (-9223372036854775808)) (.sub (.v 2) (.v 0))) (.le (.sub (.v 2) (.v 0)) (.c 9223372036854775807)))) (
     .ev (.need (.and (.le (.c (-9223372036854775808)) (.sub (.v 3) (.v 1))) (.le (.sub (.v 3) (.v 1)) (.c 9223372036854775807)))) (
      .ev (.need (.and (.le (.c (-9223372036854775808)) (.mul (.sub (.v 2) (.v 0)) (.sub (.v 3) (.v 1)))) (.le (.mul (.sub (.v 2) (.v 0)) (.sub (.v 3) (.v 1))) (.c 9223372036854775807)))) (
       .ret [.i (.mul (.sub (.v 2) (.v 0)) (.sub (.v 3) (.v 1)))])))))
theorem is16 : prune [] (execFn Try.prog cfg16 Try.f16 sg16 400) = tree16 := by kernel_rfl
/-- rastrum.rect.Make -/
def cfg17 : Cfg := ⟨sigsOf sigs, false, []⟩
def tree17 : Tree :=
  .ite (.or (.lt (.v 0) (.c (-8388608))) (.lt (.c 8388608) (.v 0))) (
   .ret [.i (.c 0), .i (.c 0), .i (.c 0), .i (.c 0), .b (.c false)]) (
   .ite (.or (.lt (.v 1) (.c (-8388608))) (.lt (.c 8388608) (.v 1))) (
    .ret [.i (.c 0), .i (.c 0), .i (.c 0), .i (.c 0), .b (.c false)]) (
    .ite (.or (.lt (.v 2) (.c (-8388608))) (.lt (.c 8388608) (.v 2))) (
     .ret [.i (.c 0), .i (.c 0), .i (.c 0), .i (.c 0), .b (.c false)]) (
     .ite (.or (.lt (.v 3) (.c (-8388608))) (.lt (.c 8388608) (.v 3))) (
      .ret [.i (.c 0), .i (.c 0), .i (.c 0), .i (.c 0), .b (.c false)]) (
      .ev (.need (.and (.le (.c (-9223372036854775808)) (.add (.v 0) (.v 2))) (.le (.add (.v 0) (.v 2)) (.c 9223372036854775807)))) (
       .ev (.need (.and (.le (.c (-9223372036854775808)) (.add (.v 1) (.v 3))) (.le (.add (.v 1) (.v 3)) (.c 9223372036854775807)))) (
        .ev (.call 19 (.c true) [.i (.v 0), .i (.v 1), .i (.add (.v 0) (.v 2)), .i (.add (.v 1) (.v 3))] [.one (.c (.b))] 5316) (
         .ite (.not (.v 5316)) (
          .ret [.i (.c 0), .i (.c 0), .i (.c 0), .i (.c 0), .b (.c false)]) (
          .ret [.i (.v 0), .i (.v 1), .i (.add (.v 0) (.v 2)), .i (.add (.v 1) (.v 3)), .b (.c true)]))))))))
theorem is17 : prune [] (execFn Try.prog cfg17 Try.f17 sg17 400) = tree17 := by kernel_rfl
/-- rastrum.rastrumref12.Make -/
def cfg18 : Cfg := ⟨sigsOf sigs, false, []⟩
def tree18 : Tree :=
  .ite (.or (.lt (.v 0) (.c (-8388608))) (.lt (.c 8388608) (.v 0))) (
   .ret [.i (.c 0), .i (.c 0), .i (.c 0), .i (.c 0), .b (.c false)]) (
   .ite (.or (.lt (.v 1) (.c (-8388608))) (.lt (.c 8388608) (.v 1))) (
    .ret [.i (.c 0), .i (.c 0), .i (.c 0), .i (.c 0), .b (.c false)]) (
    .ite (.or (.lt (.v 2) (.c (-8388608))) (.lt (.c 8388608) (.v 2))) (
     .ret [.i (.c 0), .i (.c 0), .i (.c 0), .i (.c 0), .b (.c false)]) (
     .ite (.or (.lt (.v 3) (.c (-8388608))) (.lt (.c 8388608) (.v 3))) (
      .ret [.i (.c 0), .i (.c 0), .i (.c 0), .i (.c 0), .b (.c false)]) (
      .ev (.need (.and (.le (.c (-9223372036854775808)) (.add (.v 0) (.v 2))) (.le (.add (.v 0) (.v 2)) (.c 9223372036854775807)))) (
       .ev (.need (.and (.le (.c (-9223372036854775808)) (.add (.v 1) (.v 3))) (.le (.add (.v 1) (.v 3)) (.c 9223372036854775807)))) (
        .ev (.call 20 (.c true) [.i (.v 0), .i (.v 1), .i (.add (.v 0) (.v 2)), .i (.add (.v 1) (.v 3))] [.one (.c (.b))] 5380) (
         .ite (.not (.v 5380)) (
          .ret [.i (.c 0), .i (.c 0), .i (.c 0), .i (.c 0), .b (.c false)]) (
          .ret [.i (.v 0), .i (.v 1), .i (.add (.v 0) (.v 2)), .i (.add (.v 1) (.v 3)), .b (.c true)]))))))))
theorem is18 : prune [] (execFn Try.prog cfg18 Try.f18 sg18 400) = tree18 := by kernel_rfl
/-- rastrum.rect.Right -/
def cfg19 : Cfg := ⟨sigsOf sigs, false, []⟩
def tree19 : Tree :=
  .ite (.or (.lt (.v 0) (.c (-4194304))) (.lt (.c 4194304) (.v 0))) (
   .ret [.b (.c false)]) (
   .ite (.or (.lt (.v 2) (.c (-4194304))) (.lt (.c 4194304) (.v 2))) (
    .ret [.b (.c false)]) (
    .ite (.or (.lt (.v 1) (.c (-4194304))) (.lt (.c 4194304) (.v 1))) (
     .ret [.b (.c false)]) (
     .ite (.or (.lt (.v 3) (.c (-4194304))) (.lt (.c 4194304) (.v 3))) (
      .ret [.b (.c false)]) (
      .ret [.b (.and (.lt (.v 0) (.v 2)) (.lt (.v 1) (.v 3)))]))))
theorem is19 : prune [] (execFn Try.prog cfg19 Try.f19 sg19 400) = tree19 := by kernel_rfl
/-- rastrum.rastrumref12.Right -/
def cfg20 : Cfg := ⟨sigsOf sigs, false, []⟩
def tree20 : Tree :=
  .ite (.or (.lt (.v 0) (.c (-4194304))) (.lt (.c 4194304) (.v 0))) (
   .ret [.b (.c false)]) (
   .ite (.or (.lt (.v 2) (.c (-4194304))) (.lt (.c 4194304) (.v 2))) (
    .ret [.b (.c false)]) (
    .ite (.or (.lt (.v 1) (.c (-4194304))) (.lt (.c 4194304) (.v 1))) (
     .ret [.b (.c false)]) (
     .ite (.or (.lt (.v 3) (.c (-4194304))) (.lt (.c 4194304) (.v 3))) (
      .ret [.b (.c false)]) (
      .ret [.b (.and (.lt (.v 0) (.v 2)) (.lt (.v 1) (.v 3)))]))))
theorem is20 : prune [] (execFn Try.prog cfg20 Try.f20 sg20 400) = tree20 := by kernel_rfl
/-- rastrum.rastrumref12.Area -/
def cfg21 : Cfg := ⟨sigsOf sigs, false, []⟩
def tree21 : Tree :=
  .ev (.call 20 (.c true) [.i (.v 0), .i (.v 1), .i (.v 2), .i (.v 3)] [.one (.c (.b))] 196) (
   .ite (.not (.v 196)) (
    .ret [.i (.c 0)]) (
    .ev (.need (.and (.le (.c (-9223372036854775808)) (.sub (.v 2) (.v 0))) (.le (.sub (.v 2) (.v 0)) (.c 9223372036854775807)))) (
     .ev (.need (.and (.le (.c (-9223372036854775808)) (.sub (.v 3) (.v 1))) (.le (.sub (.v 3) (.v 1)) (.c 9223372036854775807)))) (
      .ev (.need (.and (.le (.c (-9223372036854775808)) (.mul (.sub (.v 2) (.v 0)) (.sub (.v 3) (.v 1)))) (.le (.mul (.sub (.v 2) (.v 0)) (.sub (.v 3) (.v 1))) (.c 9223372036854775807)))) (
       .ret [.i (.mul (.sub (.v 2) (.v 0)) (.sub (.v 3) (.v 1)))])))))
theorem is21 : prune [] (execFn Try.prog cfg21 Try.f21 sg21 400) = tree21 := by kernel_rfl
/-- rastrum.rastrumref12.Has -/
def cfg22 : Cfg := ⟨sigsOf sigs, false, []⟩
def tree22 : Tree :=
  .ev (.call 20 (.c true) [.i (.v 0), .i (.v 1), .i (.v 2), .i (.v 3)] [.one (.c (.b))] 198) (
   .ret [.b (.and (.and (.and (.and (.v 198) (.le (.v 0) (.v 4))) (.lt (.v 4) (.v 2))) (.le (.v 1) (.v 5))) (.lt (.v 5) (.v 3)))])
theorem is22 : prune [] (execFn Try.prog cfg22 Try.f22 sg22 400) = tree22 := by kernel_rfl
/-- rastrum.rect.those -/
def cfg23 : Cfg := ⟨sigsOf sigs, false, [(3, ⟨[], [(3, 23, [.i .i64, .i .i64, .i .i64, .i .i64])]⟩)]⟩
def tree23 : Tree :=
  .loop 3 [.nil, .i (.c 0)] [.s 23 [.i .i64, .i .i64, .i .i64, .i .i64], .c (.i .i64)] 321 (
   .ite (.lt (.v 322) (.len 0)) (
    .ev (.need (.le (.c 0) (.v 322))) (
     .ev (.call 19 (.c true) [.i (.get 0 (.v 322) 0), .i (.get 0 (.v 322) 1), .i (.get 0 (.v 322) 2), .i (.get 0 (.v 322) 3)] [.one (.c (.b))] 771) (
      .ite (.v 771) (
       .ev (.need (.le (.c 0) (.v 322))) (
        .ev (.need (.lt (.v 322) (.len 0))) (
         .ev (.letl 1155 (.lit [[(.get 0 (.v 322) 0), (.get 0 (.v 322) 1), (.get 0 (.v 322) 2), (.get 0 (.v 322) 3)]])) (
          .ev (.need (.le (.add (.len 321) (.len 1155)) (.c 4398046511104))) (
           .ev (.letl 1219 (.app 321 1155)) (
            .ev (.need (.and (.le (.c (-9223372036854775808)) (.add (.v 322) (.c 1))) (.le (.add (.v 322) (.c 1)) (.c 9223372036854775807)))) (
             .again 3 [.l 1219, .i (.add (.v 322) (.c 1))]))))))) (
       .ev (.need (.and (.le (.c (-9223372036854775808)) (.add (.v 322) (.c 1))) (.le (.add (.v 322) (.c 1)) (.c 9223372036854775807)))) (
        .again 3 [.l 321, .i (.add (.v 322) (.c 1))]))))) (
    .ret [.l 321]))
theorem is23 : prune [] (execFn Try.prog cfg23 Try.f23 sg23 400) = tree23 := by kernel_rfl
/-- rastrum.rastrumref12.those -/
def cfg24 : Cfg := ⟨sigsOf sigs, false, [(3, ⟨[], [(3, 23, [.i .i64, .i .i64, .i .i64, .i .i64])]⟩)]⟩
def tree24 : Tree :=
  .loop 3 [.nil, .i (.c 0)] [.s 23 [.i .i64, .i .i64, .i .i64, .i .i64], .c (.i .i64)] 193 (
   .ite (.lt (.v 194) (.len 0)) (
    .ev (.need (.le (.c 0) (.v 194))) (
     .ev (.call 20 (.c true) [.i (.get 0 (.v 194) 0), .i (.get 0 (.v 194) 1), .i (.get 0 (.v 194) 2), .i (.get 0 (.v 194) 3)] [.one (.c (.b))] 707) (
      .ite (.v 707) (
       .ev (.need (.le (.c 0) (.v 194))) (
        .ev (.need (.lt (.v 194) (.len 0))) (
         .ev (.letl 1091 (.lit [[(.get 0 (.v 194) 0), (.get 0 (.v 194) 1), (.get 0 (.v 194) 2), (.get 0 (.v 194) 3)]])) (
          .ev (.need (.le (.add (.len 193) (.len 1091)) (.c 4398046511104))) (
           .ev (.letl 1155 (.app 193 1091)) (
            .ev (.need (.and (.le (.c (-9223372036854775808)) (.add (.v 194) (.c 1))) (.le (.add (.v 194) (.c 1)) (.c 9223372036854775807)))) (
             .again 3 [.l 1155, .i (.add (.v 194) (.c 1))]))))))) (
       .ev (.need (.and (.le (.c (-9223372036854775808)) (.add (.v 194) (.c 1))) (.le (.add (.v 194) (.c 1)) (.c 9223372036854775807)))) (
        .again 3 [.l 193, .i (.add (.v 194) (.c 1))]))))) (
    .ret [.l 193]))
theorem is24 : prune [] (execFn Try.prog cfg24 Try.f24 sg24 400) = tree24 := by kernel_rfl
end Go.Proofs.Ytdbahmcjdojiaaa.Trees

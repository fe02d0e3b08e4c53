/- Trees of functions, as a tool of mine printed them: what the symbolic compiler makes of the functions. -/
import Derived.Test.YtgnhhdgepnfnmaaPx24
import Derived.Test.YtgnhhdgepnfnmaaIr
import Derived.Test.YtgnhhdgepnfnmaaProg
import Derived.Tactics
set_option maxRecDepth 20000
set_option maxHeartbeats 4000000
set_option linter.unusedVariables false
namespace Go.Px
open Go.RowKit
def ir_penumbralaw13_DrawsUnits : IR :=
 .call F.draws_Unit [.one (.var 0), .one (.var 2)] [.agg 3, .one] <|
 .call F.penumbraref13_Unit [.one (.var 0), .one (.var 2)] [.agg 3, .one] <|
 .call F.penumbralaw13_fixed [] [.one] <|
 .prim .not [.var 11] <|
 .ite (.var 12) (
  .ret [.one (.bol false)]) (
  .call F.penumbraref03_Is [.agg [.var 3, .var 4, .var 5], .agg [.var 7, .var 8, .var 9]] [.one] <|
  .prim .not [.var 13] <|
  .ite (.var 14) (
   .ret [.one (.bol false)]) (
   .prim (.beq true) [.var 6, .var 10] <|
   .ite (.var 15) (
    .ret [.one (.bol false)]) (
    .call F.draws_Unit [.one (.var 1), .one (.var 2)] [.agg 3, .one] <|
    .prim .not [.var 6] <|
    .ite (.var 20) (
     .ret [.one (.bol true)]) (
     .prim .not [.var 19] <|
     .ite (.var 21) (
      .ret [.one (.bol true)]) (
      .call F.rat_Of [.one (.int .i64 (1)), .one (.int .i64 (1))] [.agg 3] <|
      .prim (.conv .u64) [.var 2] <|
      .prim (.bin .shl) [.int .i64 (1), .var 25] <|
      .call F.rat_Of [.one (.var 26), .one (.int .i64 (1))] [.agg 3] <|
      .call F.rat_Div [.agg [.var 22, .var 23, .var 24], .agg [.var 27, .var 28, .var 29]] [.agg 3, .one] <|
      .call F.rat_Sub [.agg [.var 3, .var 4, .var 5], .agg [.var 16, .var 17, .var 18]] [.agg 3] <|
      .call F.rat_Abs [.agg [.var 34, .var 35, .var 36]] [.agg 3] <|
      .call F.rat_Cmp [.agg [.var 37, .var 38, .var 39], .agg [.var 30, .var 31, .var 32]] [.one] <|
      .prim (.bin .geq) [.var 40, .int .i64 (0)] <|
      .call F.rat_Sign [.agg [.var 3, .var 4, .var 5]] [.one] <|
      .prim (.bin .gtr) [.var 42, .int .i64 (0)] <|
      .ite (.var 43) (
       .call F.rat_Of [.one (.int .i64 (1)), .one (.int .i64 (1))] [.agg 3] <|
       .call F.rat_Cmp [.agg [.var 3, .var 4, .var 5], .agg [.var 44, .var 45, .var 46]] [.one] <|
       .prim (.bin .lss) [.var 47, .int .i64 (0)] <|
       .ite (.var 48) (
        .prim (.bin .eql) [.var 0, .var 1] <|
        .call F.rat_Same [.agg [.var 3, .var 4, .var 5], .agg [.var 16, .var 17, .var 18]] [.one] <|
        .prim (.beq false) [.var 49, .var 50] <|
        .ite (.var 51) (
         .prim (.bin .eql) [.var 0, .var 1] <|
         .ite (.var 52) (
          .ret [.one (.bol true)]) (
          .ret [.one (.var 41)])) (
         .ret [.one (.bol false)])) (
        .ret [.one (.bol false)])) (
       .ret [.one (.bol false)]))))))

def ir_penumbralaw13_DrawsOnce : IR :=
 .call F.draws_Need [.agg [.var 0, .var 1, .var 2, .var 3, .var 4, .var 5, .var 6, .var 7, .var 8, .var 9, .var 10, .var 11], .one (.var 12), .one (.var 13)] [.one, .one] <|
 .call F.draws_Where [.agg [.var 0, .var 1, .var 2, .var 3, .var 4, .var 5, .var 6, .var 7, .var 8, .var 9, .var 10, .var 11], .one (.var 12), .one (.var 13), .one (.var 18)] [.agg 4, .one] <|
 .call F.draws_Index [.agg [.var 0, .var 1, .var 2, .var 3, .var 4, .var 5, .var 6, .var 7, .var 8, .var 9, .var 10, .var 11], .one (.var 12), .one (.var 13), .agg [.var 14, .var 15, .var 16, .var 17]] [.one, .one] <|
 .call F.penumbralaw13_fixed [] [.one] <|
 .prim .not [.var 28] <|
 .ite (.var 29) (
  .ret [.one (.bol false)]) (
  .ite (.var 20) (
   .prim (.bin .geq) [.var 18, .int .i64 (0)] <|
   .ite (.var 30) (
    .prim (.bin .lss) [.var 18, .var 19] <|
    .prim (.beq true) [.var 25, .var 31] <|
    .ite (.var 32) (
     .ret [.one (.bol false)]) (
     .ite (.var 27) (
      .prim (.bin .lss) [.var 26, .int .i64 (0)] <|
      .ite (.var 33) (
       .ret [.one (.bol false)]) (
       .prim (.bin .geq) [.var 26, .var 19] <|
       .ite (.var 34) (
        .ret [.one (.bol false)]) (
        .ite (.var 25) (
         .call F.draws_Index [.agg [.var 0, .var 1, .var 2, .var 3, .var 4, .var 5, .var 6, .var 7, .var 8, .var 9, .var 10, .var 11], .one (.var 12), .one (.var 13), .agg [.var 21, .var 22, .var 23, .var 24]] [.one, .one] <|
         .prim .not [.var 36] <|
         .ite (.var 37) (
          .ret [.one (.bol false)]) (
          .prim (.bin .neq) [.var 35, .var 18] <|
          .ite (.var 38) (
           .ret [.one (.bol false)]) (
           .call F.draws_Where [.agg [.var 0, .var 1, .var 2, .var 3, .var 4, .var 5, .var 6, .var 7, .var 8, .var 9, .var 10, .var 11], .one (.var 12), .one (.var 13), .one (.var 26)] [.agg 4, .one] <|
           .prim .not [.var 43] <|
           .ite (.var 44) (
            .ret [.one (.bol false)]) (
            .prim (.nes [true, false, false, false]) [.var 39, .var 40, .var 41, .var 42, .var 14, .var 15, .var 16, .var 17] <|
            .ite (.var 45) (
             .ret [.one (.bol false)]) (
             .ret [.one (.bol true)]))))) (
         .call F.draws_Where [.agg [.var 0, .var 1, .var 2, .var 3, .var 4, .var 5, .var 6, .var 7, .var 8, .var 9, .var 10, .var 11], .one (.var 12), .one (.var 13), .one (.var 26)] [.agg 4, .one] <|
         .prim .not [.var 39] <|
         .ite (.var 40) (
          .ret [.one (.bol false)]) (
          .prim (.nes [true, false, false, false]) [.var 35, .var 36, .var 37, .var 38, .var 14, .var 15, .var 16, .var 17] <|
          .ite (.var 41) (
           .ret [.one (.bol false)]) (
           .ret [.one (.bol true)])))))) (
      .ite (.var 25) (
       .call F.draws_Index [.agg [.var 0, .var 1, .var 2, .var 3, .var 4, .var 5, .var 6, .var 7, .var 8, .var 9, .var 10, .var 11], .one (.var 12), .one (.var 13), .agg [.var 21, .var 22, .var 23, .var 24]] [.one, .one] <|
       .prim .not [.var 34] <|
       .ite (.var 35) (
        .ret [.one (.bol false)]) (
        .prim (.bin .neq) [.var 33, .var 18] <|
        .ite (.var 36) (
         .ret [.one (.bol false)]) (
         .ret [.one (.bol true)]))) (
       .ret [.one (.bol true)])))) (
    .prim (.beq true) [.var 25, .bol false] <|
    .ite (.var 31) (
     .ret [.one (.bol false)]) (
     .ite (.var 27) (
      .prim (.bin .lss) [.var 26, .int .i64 (0)] <|
      .ite (.var 32) (
       .ret [.one (.bol false)]) (
       .prim (.bin .geq) [.var 26, .var 19] <|
       .ite (.var 33) (
        .ret [.one (.bol false)]) (
        .ite (.var 25) (
         .call F.draws_Index [.agg [.var 0, .var 1, .var 2, .var 3, .var 4, .var 5, .var 6, .var 7, .var 8, .var 9, .var 10, .var 11], .one (.var 12), .one (.var 13), .agg [.var 21, .var 22, .var 23, .var 24]] [.one, .one] <|
         .prim .not [.var 35] <|
         .ite (.var 36) (
          .ret [.one (.bol false)]) (
          .prim (.bin .neq) [.var 34, .var 18] <|
          .ite (.var 37) (
           .ret [.one (.bol false)]) (
           .call F.draws_Where [.agg [.var 0, .var 1, .var 2, .var 3, .var 4, .var 5, .var 6, .var 7, .var 8, .var 9, .var 10, .var 11], .one (.var 12), .one (.var 13), .one (.var 26)] [.agg 4, .one] <|
           .prim .not [.var 42] <|
           .ite (.var 43) (
            .ret [.one (.bol false)]) (
            .prim (.nes [true, false, false, false]) [.var 38, .var 39, .var 40, .var 41, .var 14, .var 15, .var 16, .var 17] <|
            .ite (.var 44) (
             .ret [.one (.bol false)]) (
             .ret [.one (.bol true)]))))) (
         .call F.draws_Where [.agg [.var 0, .var 1, .var 2, .var 3, .var 4, .var 5, .var 6, .var 7, .var 8, .var 9, .var 10, .var 11], .one (.var 12), .one (.var 13), .one (.var 26)] [.agg 4, .one] <|
         .prim .not [.var 38] <|
         .ite (.var 39) (
          .ret [.one (.bol false)]) (
          .prim (.nes [true, false, false, false]) [.var 34, .var 35, .var 36, .var 37, .var 14, .var 15, .var 16, .var 17] <|
          .ite (.var 40) (
           .ret [.one (.bol false)]) (
           .ret [.one (.bol true)])))))) (
      .ite (.var 25) (
       .call F.draws_Index [.agg [.var 0, .var 1, .var 2, .var 3, .var 4, .var 5, .var 6, .var 7, .var 8, .var 9, .var 10, .var 11], .one (.var 12), .one (.var 13), .agg [.var 21, .var 22, .var 23, .var 24]] [.one, .one] <|
       .prim .not [.var 33] <|
       .ite (.var 34) (
        .ret [.one (.bol false)]) (
        .prim (.bin .neq) [.var 32, .var 18] <|
        .ite (.var 35) (
         .ret [.one (.bol false)]) (
         .ret [.one (.bol true)]))) (
       .ret [.one (.bol true)]))))) (
   .prim (.beq true) [.var 25, .bol false] <|
   .ite (.var 30) (
    .ret [.one (.bol false)]) (
    .ite (.var 27) (
     .prim (.bin .lss) [.var 26, .int .i64 (0)] <|
     .ite (.var 31) (
      .ret [.one (.bol false)]) (
      .prim (.bin .geq) [.var 26, .var 19] <|
      .ite (.var 32) (
       .ret [.one (.bol false)]) (
       .ite (.var 25) (
        .call F.draws_Index [.agg [.var 0, .var 1, .var 2, .var 3, .var 4, .var 5, .var 6, .var 7, .var 8, .var 9, .var 10, .var 11], .one (.var 12), .one (.var 13), .agg [.var 21, .var 22, .var 23, .var 24]] [.one, .one] <|
        .prim .not [.var 34] <|
        .ite (.var 35) (
         .ret [.one (.bol false)]) (
         .prim (.bin .neq) [.var 33, .var 18] <|
         .ite (.var 36) (
          .ret [.one (.bol false)]) (
          .call F.draws_Where [.agg [.var 0, .var 1, .var 2, .var 3, .var 4, .var 5, .var 6, .var 7, .var 8, .var 9, .var 10, .var 11], .one (.var 12), .one (.var 13), .one (.var 26)] [.agg 4, .one] <|
          .prim .not [.var 41] <|
          .ite (.var 42) (
           .ret [.one (.bol false)]) (
           .prim (.nes [true, false, false, false]) [.var 37, .var 38, .var 39, .var 40, .var 14, .var 15, .var 16, .var 17] <|
           .ite (.var 43) (
            .ret [.one (.bol false)]) (
            .ret [.one (.bol true)]))))) (
        .call F.draws_Where [.agg [.var 0, .var 1, .var 2, .var 3, .var 4, .var 5, .var 6, .var 7, .var 8, .var 9, .var 10, .var 11], .one (.var 12), .one (.var 13), .one (.var 26)] [.agg 4, .one] <|
        .prim .not [.var 37] <|
        .ite (.var 38) (
         .ret [.one (.bol false)]) (
         .prim (.nes [true, false, false, false]) [.var 33, .var 34, .var 35, .var 36, .var 14, .var 15, .var 16, .var 17] <|
         .ite (.var 39) (
          .ret [.one (.bol false)]) (
          .ret [.one (.bol true)])))))) (
     .ite (.var 25) (
      .call F.draws_Index [.agg [.var 0, .var 1, .var 2, .var 3, .var 4, .var 5, .var 6, .var 7, .var 8, .var 9, .var 10, .var 11], .one (.var 12), .one (.var 13), .agg [.var 21, .var 22, .var 23, .var 24]] [.one, .one] <|
      .prim .not [.var 32] <|
      .ite (.var 33) (
       .ret [.one (.bol false)]) (
       .prim (.bin .neq) [.var 31, .var 18] <|
       .ite (.var 34) (
        .ret [.one (.bol false)]) (
        .ret [.one (.bol true)]))) (
      .ret [.one (.bol true)])))))

def ir_draws_Unit : IR :=
 .call F.draws_within [.one (.var 1), .one (.int .i64 (1)), .one (.int .i64 (24))] [.one] <|
 .prim .not [.var 2] <|
 .ite (.var 3) (
  .call F.rat_Of [.one (.int .i64 (0)), .one (.int .i64 (1))] [.agg 3] <|
  .ret [.agg [.var 4, .var 5, .var 6], .one (.bol false)]) (
  .prim (.bin .shl) [.int .i64 (1), .var 1] <|
  .prim (.bin .sub) [.var 4, .int .i64 (1)] <|
  .call F.draws_within [.one (.var 0), .one (.int .i64 (0)), .one (.var 5)] [.one] <|
  .prim .not [.var 6] <|
  .ite (.var 7) (
   .call F.rat_Of [.one (.int .i64 (0)), .one (.int .i64 (1))] [.agg 3] <|
   .ret [.agg [.var 8, .var 9, .var 10], .one (.bol false)]) (
   .prim (.bin .mul) [.int .i64 (2), .var 0] <|
   .prim (.bin .add) [.var 8, .int .i64 (1)] <|
   .prim (.bin .shl) [.int .i64 (2), .var 1] <|
   .call F.rat_Of [.one (.var 9), .one (.var 10)] [.agg 3] <|
   .ret [.agg [.var 11, .var 12, .var 13], .one (.bol true)]))

def ir_penumbraref13_Unit : IR :=
 .prim (.bin .lss) [.var 1, .int .i64 (1)] <|
 .ite (.var 2) (
  .call F.penumbraref03_Zero [] [.agg 3] <|
  .ret [.agg [.var 3, .var 4, .var 5], .one (.bol false)]) (
  .prim (.bin .gtr) [.var 1, .int .i64 (24)] <|
  .ite (.var 3) (
   .call F.penumbraref03_Zero [] [.agg 3] <|
   .ret [.agg [.var 4, .var 5, .var 6], .one (.bol false)]) (
   .prim (.bin .lss) [.var 0, .int .i64 (0)] <|
   .ite (.var 4) (
    .call F.penumbraref03_Zero [] [.agg 3] <|
    .ret [.agg [.var 5, .var 6, .var 7], .one (.bol false)]) (
    .prim (.conv .u64) [.var 1] <|
    .prim (.bin .shl) [.int .i64 (1), .var 5] <|
    .prim (.bin .sub) [.var 6, .int .i64 (1)] <|
    .prim (.bin .gtr) [.var 0, .var 7] <|
    .ite (.var 8) (
     .call F.penumbraref03_Zero [] [.agg 3] <|
     .ret [.agg [.var 9, .var 10, .var 11], .one (.bol false)]) (
     .prim (.bin .mul) [.int .i64 (2), .var 0] <|
     .prim (.bin .add) [.var 9, .int .i64 (1)] <|
     .prim (.conv .u64) [.var 1] <|
     .prim (.bin .shl) [.int .i64 (2), .var 11] <|
     .call F.penumbraref03_Of [.one (.var 10), .one (.var 12)] [.agg 3] <|
     .ret [.agg [.var 13, .var 14, .var 15], .one (.bol true)]))))

def ir_penumbralaw13_fixed : IR :=
 .call F.penumbralaw13_some [] [.agg 12] <|
 .call F.draws_Need [.agg [.var 0, .var 1, .var 2, .var 3, .var 4, .var 5, .var 6, .var 7, .var 8, .var 9, .var 10, .var 11], .one (.int .i64 (1)), .one (.int .i64 (1))] [.one, .one] <|
 .call F.penumbralaw13_some [] [.agg 12] <|
 .call F.draws_Index [.agg [.var 14, .var 15, .var 16, .var 17, .var 18, .var 19, .var 20, .var 21, .var 22, .var 23, .var 24, .var 25], .one (.int .i64 (1)), .one (.int .i64 (1)), .agg [.bol true, .int .i64 (1), .int .i64 (1), .int .i64 (0)]] [.one, .one] <|
 .call F.draws_Unit [.one (.int .i64 (1)), .one (.int .i64 (1))] [.agg 3, .one] <|
 .call F.draws_Unit [.one (.int .i64 (2)), .one (.int .i64 (1))] [.agg 3, .one] <|
 .prim (.bin .eql) [.var 12, .int .i64 (48)] <|
 .ite (.var 36) (
  .ite (.var 13) (
   .prim (.bin .eql) [.var 26, .int .i64 (38)] <|
   .ite (.var 37) (
    .ite (.var 27) (
     .call F.penumbraref03_Of [.one (.int .i64 (3)), .one (.int .i64 (4))] [.agg 3] <|
     .call F.penumbraref03_Is [.agg [.var 28, .var 29, .var 30], .agg [.var 38, .var 39, .var 40]] [.one] <|
     .ite (.var 41) (
      .ite (.var 31) (
       .prim .not [.var 35] <|
       .ite (.var 42) (
        .call F.penumbralaw13_some [] [.agg 12] <|
        .call F.draws_Check [.agg [.var 43, .var 44, .var 45, .var 46, .var 47, .var 48, .var 49, .var 50, .var 51, .var 52, .var 53, .var 54]] [.one] <|
        .ite (.var 55) (
         .call F.draws_Check [.agg [.int .i64 (0), .int .i64 (0), .int .i64 (0), .int .i64 (0), .int .i64 (0), .int .i64 (0), .bol false, .nil, .nil, .bol false, .nil, .nil]] [.one] <|
         .prim .not [.var 56] <|
         .ret [.one (.var 57)]) (
         .ret [.one (.bol false)])) (
        .ret [.one (.bol false)])) (
       .ret [.one (.bol false)])) (
      .ret [.one (.bol false)])) (
     .ret [.one (.bol false)])) (
    .ret [.one (.bol false)])) (
   .ret [.one (.bol false)])) (
  .ret [.one (.bol false)])

def ir_draws_Need : IR :=
 .call F.draws_lay [.agg [.var 0, .var 1, .var 2, .var 3, .var 4, .var 5, .var 6, .var 7, .var 8, .var 9, .var 10, .var 11], .one (.var 12), .one (.var 13)] [.agg 4, .one] <|
 .call F._draws_layout__pass [.agg [.var 14, .var 15, .var 16, .var 17]] [.one] <|
 .prim (.bin .mul) [.var 19, .var 1] <|
 .call F.draws_truth [.one (.var 18)] [.one] <|
 .prim (.bin .mul) [.var 20, .var 21] <|
 .ret [.one (.var 22), .one (.var 18)]

def ir_draws_Where : IR :=
 .call F.draws_lay [.agg [.var 0, .var 1, .var 2, .var 3, .var 4, .var 5, .var 6, .var 7, .var 8, .var 9, .var 10, .var 11], .one (.var 12), .one (.var 13)] [.agg 4, .one] <|
 .prim .not [.var 19] <|
 .ite (.var 20) (
  .ret [.agg [.bol false, .int .i64 (0), .int .i64 (0), .int .i64 (0)], .one (.bol false)]) (
  .call F._draws_layout__pass [.agg [.var 15, .var 16, .var 17, .var 18]] [.one] <|
  .prim (.bin .mul) [.var 21, .var 1] <|
  .prim (.bin .sub) [.var 22, .int .i64 (1)] <|
  .call F.draws_within [.one (.var 14), .one (.int .i64 (0)), .one (.var 23)] [.one] <|
  .prim .not [.var 24] <|
  .ite (.var 25) (
   .ret [.agg [.bol false, .int .i64 (0), .int .i64 (0), .int .i64 (0)], .one (.bol false)]) (
   .call F._draws_layout__pass [.agg [.var 15, .var 16, .var 17, .var 18]] [.one] <|
   .prim (.bin .quo) [.var 14, .var 26] <|
   .call F._draws_layout__pass [.agg [.var 15, .var 16, .var 17, .var 18]] [.one] <|
   .prim (.bin .rem) [.var 14, .var 28] <|
   .prim (.bin .mul) [.var 15, .var 16] <|
   .prim (.bin .geq) [.var 29, .var 30] <|
   .ite (.var 31) (
    .prim (.bin .mul) [.var 15, .var 16] <|
    .prim (.bin .sub) [.var 29, .var 32] <|
    .prim (.bin .quo) [.var 33, .var 18] <|
    .prim (.bin .rem) [.var 33, .var 18] <|
    .ret [.agg [.bol true, .var 27, .var 34, .var 35], .one (.bol true)]) (
    .prim (.bin .quo) [.var 29, .var 16] <|
    .prim (.bin .rem) [.var 29, .var 16] <|
    .ret [.agg [.bol false, .var 27, .var 32, .var 33], .one (.bol true)])))

def ir_draws_Index : IR :=
 .call F.draws_lay [.agg [.var 0, .var 1, .var 2, .var 3, .var 4, .var 5, .var 6, .var 7, .var 8, .var 9, .var 10, .var 11], .one (.var 12), .one (.var 13)] [.agg 4, .one] <|
 .prim .not [.var 22] <|
 .ite (.var 23) (
  .ret [.one (.int .i64 (0)), .one (.bol false)]) (
  .prim (.bin .sub) [.var 1, .int .i64 (1)] <|
  .call F.draws_within [.one (.var 15), .one (.int .i64 (0)), .one (.var 24)] [.one] <|
  .prim .not [.var 25] <|
  .ite (.var 26) (
   .ret [.one (.int .i64 (0)), .one (.bol false)]) (
   .call F._draws_layout__pass [.agg [.var 18, .var 19, .var 20, .var 21]] [.one] <|
   .prim (.bin .mul) [.var 15, .var 27] <|
   .ite (.var 14) (
    .prim (.bin .mul) [.var 18, .var 19] <|
    .prim (.bin .add) [.var 28, .var 29] <|
    .prim (.bin .sub) [.var 20, .int .i64 (1)] <|
    .call F.draws_within [.one (.var 16), .one (.int .i64 (0)), .one (.var 31)] [.one] <|
    .prim .not [.var 32] <|
    .ite (.var 33) (
     .ret [.one (.int .i64 (0)), .one (.bol false)]) (
     .prim (.bin .sub) [.var 21, .int .i64 (1)] <|
     .call F.draws_within [.one (.var 17), .one (.int .i64 (0)), .one (.var 34)] [.one] <|
     .prim .not [.var 35] <|
     .ite (.var 36) (
      .ret [.one (.int .i64 (0)), .one (.bol false)]) (
      .prim (.bin .mul) [.var 16, .var 21] <|
      .prim (.bin .add) [.var 30, .var 37] <|
      .prim (.bin .add) [.var 38, .var 17] <|
      .ret [.one (.var 39), .one (.bol true)]))) (
    .prim (.bin .sub) [.var 18, .int .i64 (1)] <|
    .call F.draws_within [.one (.var 16), .one (.int .i64 (0)), .one (.var 29)] [.one] <|
    .prim .not [.var 30] <|
    .ite (.var 31) (
     .ret [.one (.int .i64 (0)), .one (.bol false)]) (
     .prim (.bin .sub) [.var 19, .int .i64 (1)] <|
     .call F.draws_within [.one (.var 17), .one (.int .i64 (0)), .one (.var 32)] [.one] <|
     .prim .not [.var 33] <|
     .ite (.var 34) (
      .ret [.one (.int .i64 (0)), .one (.bol false)]) (
      .prim (.bin .mul) [.var 16, .var 19] <|
      .prim (.bin .add) [.var 28, .var 35] <|
      .prim (.bin .add) [.var 36, .var 17] <|
      .ret [.one (.var 37), .one (.bol true)])))))

def ir_penumbralaw03_fixed : IR :=
 .call F.rat_Of [.one (.int .i64 (6)), .one (.int .i64 (-4))] [.agg 3] <|
 .call F.rat_Of [.one (.int .i64 (1)), .one (.int .i64 (2))] [.agg 3] <|
 .call F.rat_Of [.one (.int .i64 (0)), .one (.int .i64 (5))] [.agg 3] <|
 .call F.rat_Div [.agg [.var 3, .var 4, .var 5], .agg [.var 6, .var 7, .var 8]] [.agg 3, .one] <|
 .call F.rat_Of [.one (.int .i64 (4)), .one (.int .i64 (9))] [.agg 3] <|
 .call F.rat_Sqrt [.agg [.var 13, .var 14, .var 15]] [.agg 3, .one] <|
 .call F.rat_Of [.one (.int .i64 (2)), .one (.int .i64 (1))] [.agg 3] <|
 .call F.rat_Sqrt [.agg [.var 20, .var 21, .var 22]] [.agg 3, .one] <|
 .ite (.var 0) (
  .prim (.mk 1) [.int .u32 (3)] <|
  .call F.penumbraref01_Same [.one (.var 1), .one (.var 27)] [.one] <|
  .ite (.var 28) (
   .prim (.mk 1) [.int .u32 (2)] <|
   .call F.penumbraref01_Same [.one (.var 2), .one (.var 29)] [.one] <|
   .ite (.var 30) (
    .call F.rat_Of [.one (.int .i64 (1)), .one (.int .i64 (2))] [.agg 3] <|
    .call F.rat_Of [.one (.int .i64 (1)), .one (.int .i64 (3))] [.agg 3] <|
    .prim (.mk 2) [.var 31, .var 32, .var 33, .var 34, .var 35, .var 36] <|
    .call F.rat_Sum [.one (.var 37)] [.agg 3] <|
    .call F.penumbraref03_Of [.one (.int .i64 (5)), .one (.int .i64 (6))] [.agg 3] <|
    .call F.penumbraref03_Is [.agg [.var 38, .var 39, .var 40], .agg [.var 41, .var 42, .var 43]] [.one] <|
    .ite (.var 44) (
     .call F.rat_Product [.one (.nil)] [.agg 3] <|
     .call F.penumbraref03_One [] [.agg 3] <|
     .call F.penumbraref03_Is [.agg [.var 45, .var 46, .var 47], .agg [.var 48, .var 49, .var 50]] [.one] <|
     .ite (.var 51) (
      .prim .not [.var 12] <|
      .ite (.var 52) (
       .call F.penumbraref03_Of [.one (.int .i64 (2)), .one (.int .i64 (3))] [.agg 3] <|
       .call F.penumbraref03_Is [.agg [.var 16, .var 17, .var 18], .agg [.var 53, .var 54, .var 55]] [.one] <|
       .ite (.var 56) (
        .ite (.var 19) (
         .prim .not [.var 26] <|
         .ite (.var 57) (
          .call F.rat_Of [.one (.int .i64 (-1)), .one (.int .i64 (2))] [.agg 3] <|
          .call F.rat_Floor [.agg [.var 58, .var 59, .var 60]] [.agg 3] <|
          .call F.penumbraref03_Of [.one (.int .i64 (-1)), .one (.int .i64 (1))] [.agg 3] <|
          .call F.penumbraref03_Is [.agg [.var 61, .var 62, .var 63], .agg [.var 64, .var 65, .var 66]] [.one] <|
          .ret [.one (.var 67)]) (
          .ret [.one (.bol false)])) (
         .ret [.one (.bol false)])) (
        .ret [.one (.bol false)])) (
       .ret [.one (.bol false)])) (
      .ret [.one (.bol false)])) (
     .ret [.one (.bol false)])) (
    .ret [.one (.bol false)])) (
   .ret [.one (.bol false)])) (
  .ret [.one (.bol false)])

def ir_draws_within : IR :=
 .prim (.bin .geq) [.var 0, .var 1] <|
 .ite (.var 3) (
  .prim (.bin .leq) [.var 0, .var 2] <|
  .ret [.one (.var 4)]) (
  .ret [.one (.bol false)])

def ir_penumbralaw13_some : IR :=
 .call F.rat_Of [.one (.int .i64 (1)), .one (.int .i64 (4))] [.agg 3] <|
 .call F.rat_Of [.one (.int .i64 (2)), .one (.int .i64 (3))] [.agg 3] <|
 .ret [.agg [.int .i64 (1), .int .i64 (2), .int .i64 (3), .int .i64 (2), .int .i64 (1), .int .i64 (0), .var 0, .var 1, .var 2, .var 3, .var 4, .var 5]]

def ir_draws_Check : IR :=
 .call F.draws_within [.one (.var 0), .one (.int .i64 (0)), .one (.int .i64 (3))] [.one] <|
 .prim .not [.var 12] <|
 .ite (.var 13) (
  .ret [.one (.bol false)]) (
  .call F.draws_within [.one (.var 1), .one (.int .i64 (1)), .one (.int .i64 (16))] [.one] <|
  .prim .not [.var 14] <|
  .ite (.var 15) (
   .ret [.one (.bol false)]) (
   .call F.draws_within [.one (.var 3), .one (.int .i64 (1)), .one (.int .i64 (6))] [.one] <|
   .prim .not [.var 16] <|
   .ite (.var 17) (
    .ret [.one (.bol false)]) (
    .call F.draws_within [.one (.var 4), .one (.int .i64 (1)), .one (.int .i64 (24))] [.one] <|
    .prim .not [.var 18] <|
    .ite (.var 19) (
     .ret [.one (.bol false)]) (
     .call F.draws_small [.agg [.var 6, .var 7, .var 8]] [.one] <|
     .prim .not [.var 20] <|
     .ite (.var 21) (
      .ret [.one (.bol false)]) (
      .call F.draws_small [.agg [.var 9, .var 10, .var 11]] [.one] <|
      .prim .not [.var 22] <|
      .ite (.var 23) (
       .ret [.one (.bol false)]) (
       .call F.draws_within [.one (.var 2), .one (.int .i64 (1)), .one (.int .i64 (64))] [.one] <|
       .prim (.bin .eql) [.var 5, .int .i64 (0)] <|
       .prim (.bin .eql) [.var 0, .int .i64 (0)] <|
       .ite (.var 26) (
        .prim (.bin .eql) [.var 2, .int .i64 (0)] <|
        .prim (.bin .eql) [.var 0, .int .i64 (0)] <|
        .ite (.var 28) (
         .ite (.var 27) (
          .ite (.var 25) (
           .call F.rat_Sign [.agg [.var 6, .var 7, .var 8]] [.one] <|
           .prim (.bin .eql) [.var 29, .int .i64 (0)] <|
           .ite (.var 30) (
            .call F.rat_Sign [.agg [.var 9, .var 10, .var 11]] [.one] <|
            .prim (.bin .eql) [.var 31, .int .i64 (0)] <|
            .ret [.one (.var 32)]) (
            .ret [.one (.bol false)])) (
           .ret [.one (.bol false)])) (
          .ret [.one (.bol false)])) (
         .prim (.bin .eql) [.var 0, .int .i64 (3)] <|
         .ite (.var 29) (
          .ite (.var 27) (
           .ite (.var 25) (
            .call F.rat_Sign [.agg [.var 6, .var 7, .var 8]] [.one] <|
            .prim (.bin .eql) [.var 30, .int .i64 (0)] <|
            .ite (.var 31) (
             .call F.rat_Sign [.agg [.var 9, .var 10, .var 11]] [.one] <|
             .prim (.bin .eql) [.var 32, .int .i64 (0)] <|
             .ret [.one (.var 33)]) (
             .ret [.one (.bol false)])) (
            .ret [.one (.bol false)])) (
           .ret [.one (.bol false)])) (
          .ite (.var 27) (
           .ite (.var 25) (
            .call F.rat_Sign [.agg [.var 6, .var 7, .var 8]] [.one] <|
            .prim (.bin .gtr) [.var 30, .int .i64 (0)] <|
            .ite (.var 31) (
             .call F.rat_Sign [.agg [.var 9, .var 10, .var 11]] [.one] <|
             .prim (.bin .gtr) [.var 32, .int .i64 (0)] <|
             .ite (.var 33) (
              .call F.rat_Of [.one (.int .i64 (1)), .one (.int .i64 (1))] [.agg 3] <|
              .call F.rat_Cmp [.agg [.var 9, .var 10, .var 11], .agg [.var 34, .var 35, .var 36]] [.one] <|
              .prim (.bin .lss) [.var 37, .int .i64 (0)] <|
              .ret [.one (.var 38)]) (
              .ret [.one (.bol false)])) (
             .ret [.one (.bol false)])) (
            .ret [.one (.bol false)])) (
           .ret [.one (.bol false)])))) (
        .prim (.bin .eql) [.var 0, .int .i64 (3)] <|
        .ite (.var 27) (
         .call F.draws_within [.one (.var 5), .one (.int .i64 (1)), .one (.int .i64 (16))] [.one] <|
         .prim (.bin .eql) [.var 0, .int .i64 (0)] <|
         .ite (.var 29) (
          .ite (.var 24) (
           .ite (.var 28) (
            .call F.rat_Sign [.agg [.var 6, .var 7, .var 8]] [.one] <|
            .prim (.bin .eql) [.var 30, .int .i64 (0)] <|
            .ite (.var 31) (
             .call F.rat_Sign [.agg [.var 9, .var 10, .var 11]] [.one] <|
             .prim (.bin .eql) [.var 32, .int .i64 (0)] <|
             .ret [.one (.var 33)]) (
             .ret [.one (.bol false)])) (
            .ret [.one (.bol false)])) (
           .ret [.one (.bol false)])) (
          .prim (.bin .eql) [.var 0, .int .i64 (3)] <|
          .ite (.var 30) (
           .ite (.var 24) (
            .ite (.var 28) (
             .call F.rat_Sign [.agg [.var 6, .var 7, .var 8]] [.one] <|
             .prim (.bin .eql) [.var 31, .int .i64 (0)] <|
             .ite (.var 32) (
              .call F.rat_Sign [.agg [.var 9, .var 10, .var 11]] [.one] <|
              .prim (.bin .eql) [.var 33, .int .i64 (0)] <|
              .ret [.one (.var 34)]) (
              .ret [.one (.bol false)])) (
             .ret [.one (.bol false)])) (
            .ret [.one (.bol false)])) (
           .ite (.var 24) (
            .ite (.var 28) (
             .call F.rat_Sign [.agg [.var 6, .var 7, .var 8]] [.one] <|
             .prim (.bin .gtr) [.var 31, .int .i64 (0)] <|
             .ite (.var 32) (
              .call F.rat_Sign [.agg [.var 9, .var 10, .var 11]] [.one] <|
              .prim (.bin .gtr) [.var 33, .int .i64 (0)] <|
              .ite (.var 34) (
               .call F.rat_Of [.one (.int .i64 (1)), .one (.int .i64 (1))] [.agg 3] <|
               .call F.rat_Cmp [.agg [.var 9, .var 10, .var 11], .agg [.var 35, .var 36, .var 37]] [.one] <|
               .prim (.bin .lss) [.var 38, .int .i64 (0)] <|
               .ret [.one (.var 39)]) (
               .ret [.one (.bol false)])) (
              .ret [.one (.bol false)])) (
             .ret [.one (.bol false)])) (
            .ret [.one (.bol false)])))) (
         .prim (.bin .eql) [.var 0, .int .i64 (0)] <|
         .ite (.var 28) (
          .ite (.var 24) (
           .ite (.var 25) (
            .call F.rat_Sign [.agg [.var 6, .var 7, .var 8]] [.one] <|
            .prim (.bin .eql) [.var 29, .int .i64 (0)] <|
            .ite (.var 30) (
             .call F.rat_Sign [.agg [.var 9, .var 10, .var 11]] [.one] <|
             .prim (.bin .eql) [.var 31, .int .i64 (0)] <|
             .ret [.one (.var 32)]) (
             .ret [.one (.bol false)])) (
            .ret [.one (.bol false)])) (
           .ret [.one (.bol false)])) (
          .prim (.bin .eql) [.var 0, .int .i64 (3)] <|
          .ite (.var 29) (
           .ite (.var 24) (
            .ite (.var 25) (
             .call F.rat_Sign [.agg [.var 6, .var 7, .var 8]] [.one] <|
             .prim (.bin .eql) [.var 30, .int .i64 (0)] <|
             .ite (.var 31) (
              .call F.rat_Sign [.agg [.var 9, .var 10, .var 11]] [.one] <|
              .prim (.bin .eql) [.var 32, .int .i64 (0)] <|
              .ret [.one (.var 33)]) (
              .ret [.one (.bol false)])) (
             .ret [.one (.bol false)])) (
            .ret [.one (.bol false)])) (
           .ite (.var 24) (
            .ite (.var 25) (
             .call F.rat_Sign [.agg [.var 6, .var 7, .var 8]] [.one] <|
             .prim (.bin .gtr) [.var 30, .int .i64 (0)] <|
             .ite (.var 31) (
              .call F.rat_Sign [.agg [.var 9, .var 10, .var 11]] [.one] <|
              .prim (.bin .gtr) [.var 32, .int .i64 (0)] <|
              .ite (.var 33) (
               .call F.rat_Of [.one (.int .i64 (1)), .one (.int .i64 (1))] [.agg 3] <|
               .call F.rat_Cmp [.agg [.var 9, .var 10, .var 11], .agg [.var 34, .var 35, .var 36]] [.one] <|
               .prim (.bin .lss) [.var 37, .int .i64 (0)] <|
               .ret [.one (.var 38)]) (
               .ret [.one (.bol false)])) (
              .ret [.one (.bol false)])) (
             .ret [.one (.bol false)])) (
            .ret [.one (.bol false)])))))))))))

def ir_draws_lay : IR :=
 .call F.draws_Check [.agg [.var 0, .var 1, .var 2, .var 3, .var 4, .var 5, .var 6, .var 7, .var 8, .var 9, .var 10, .var 11]] [.one] <|
 .prim .not [.var 14] <|
 .ite (.var 15) (
  .ret [.agg [.int .i64 (0), .int .i64 (0), .int .i64 (0), .int .i64 (0)], .one (.bol false)]) (
  .call F.draws_within [.one (.var 12), .one (.int .i64 (1)), .one (.int .i64 (16))] [.one] <|
  .prim .not [.var 16] <|
  .ite (.var 17) (
   .ret [.agg [.int .i64 (0), .int .i64 (0), .int .i64 (0), .int .i64 (0)], .one (.bol false)]) (
   .call F.draws_within [.one (.var 13), .one (.int .i64 (1)), .one (.int .i64 (16))] [.one] <|
   .prim .not [.var 18] <|
   .ite (.var 19) (
    .ret [.agg [.int .i64 (0), .int .i64 (0), .int .i64 (0), .int .i64 (0)], .one (.bol false)]) (
    .prim (.bin .mul) [.var 12, .var 13] <|
    .prim (.bin .mul) [.int .i64 (4), .var 3] <|
    .prim (.bin .add) [.var 21, .int .i64 (1)] <|
    .prim (.bin .mul) [.int .i64 (2), .var 3] <|
    .prim (.bin .add) [.var 23, .int .i64 (1)] <|
    .ret [.agg [.var 20, .var 22, .var 2, .var 24], .one (.bol true)])))

def ir__draws_layout__pass : IR :=
 .prim (.bin .mul) [.var 0, .var 1] <|
 .prim (.bin .mul) [.var 2, .var 3] <|
 .prim (.bin .add) [.var 4, .var 5] <|
 .ret [.one (.var 6)]

def ir_draws_truth : IR :=
 .ite (.var 0) (
  .ret [.one (.int .i64 (1))]) (
  .ret [.one (.int .i64 (0))])

def ir_penumbraref13_Need : IR :=
 .call F.penumbraref13_Check [.agg [.var 0, .var 1, .var 2, .var 3, .var 4, .var 5, .var 6, .var 7, .var 8, .var 9, .var 10, .var 11]] [.one] <|
 .prim .not [.var 14] <|
 .ite (.var 15) (
  .ret [.one (.int .i64 (0)), .one (.bol false)]) (
  .prim (.bin .lss) [.var 12, .int .i64 (1)] <|
  .ite (.var 16) (
   .ret [.one (.int .i64 (0)), .one (.bol false)]) (
   .prim (.bin .gtr) [.var 12, .int .i64 (16)] <|
   .ite (.var 17) (
    .ret [.one (.int .i64 (0)), .one (.bol false)]) (
    .prim (.bin .lss) [.var 13, .int .i64 (1)] <|
    .ite (.var 18) (
     .ret [.one (.int .i64 (0)), .one (.bol false)]) (
     .prim (.bin .gtr) [.var 13, .int .i64 (16)] <|
     .ite (.var 19) (
      .ret [.one (.int .i64 (0)), .one (.bol false)]) (
      .prim (.bin .mul) [.var 12, .var 13] <|
      .prim (.bin .mul) [.int .i64 (4), .var 3] <|
      .prim (.bin .add) [.var 21, .int .i64 (1)] <|
      .prim (.bin .mul) [.var 20, .var 22] <|
      .prim (.bin .mul) [.int .i64 (2), .var 3] <|
      .prim (.bin .add) [.var 24, .int .i64 (1)] <|
      .prim (.bin .mul) [.var 2, .var 25] <|
      .prim (.bin .add) [.var 23, .var 26] <|
      .prim (.bin .mul) [.var 1, .var 27] <|
      .ret [.one (.var 28), .one (.bol true)])))))

def ir_draws_small : IR :=
 .call F.rat_Check [.agg [.var 0, .var 1, .var 2]] [.one] <|
 .ite (.var 3) (
  .call F.nat_Bits [.one (.var 1)] [.one] <|
  .prim (.bin .leq) [.var 4, .int .i64 (64)] <|
  .ite (.var 5) (
   .call F.nat_Bits [.one (.var 2)] [.one] <|
   .prim (.bin .leq) [.var 6, .int .i64 (64)] <|
   .ret [.one (.var 7)]) (
   .ret [.one (.bol false)])) (
  .ret [.one (.bol false)])

def ir_penumbraref13_Check : IR :=
 .prim (.bin .lss) [.var 0, .int .i64 (0)] <|
 .ite (.var 12) (
  .ret [.one (.bol false)]) (
  .prim (.bin .gtr) [.var 0, .int .i64 (3)] <|
  .ite (.var 13) (
   .ret [.one (.bol false)]) (
   .prim (.bin .lss) [.var 1, .int .i64 (1)] <|
   .ite (.var 14) (
    .ret [.one (.bol false)]) (
    .prim (.bin .gtr) [.var 1, .int .i64 (16)] <|
    .ite (.var 15) (
     .ret [.one (.bol false)]) (
     .prim (.bin .lss) [.var 3, .int .i64 (1)] <|
     .ite (.var 16) (
      .ret [.one (.bol false)]) (
      .prim (.bin .gtr) [.var 3, .int .i64 (6)] <|
      .ite (.var 17) (
       .ret [.one (.bol false)]) (
       .prim (.bin .lss) [.var 4, .int .i64 (1)] <|
       .ite (.var 18) (
        .ret [.one (.bol false)]) (
        .prim (.bin .gtr) [.var 4, .int .i64 (24)] <|
        .ite (.var 19) (
         .ret [.one (.bol false)]) (
         .call F.penumbraref13_small [.agg [.var 6, .var 7, .var 8]] [.one] <|
         .prim .not [.var 20] <|
         .ite (.var 21) (
          .ret [.one (.bol false)]) (
          .call F.penumbraref13_small [.agg [.var 9, .var 10, .var 11]] [.one] <|
          .prim .not [.var 22] <|
          .ite (.var 23) (
           .ret [.one (.bol false)]) (
           .prim (.bin .eql) [.var 0, .int .i64 (0)] <|
           .ite (.var 24) (
            .prim (.bin .neq) [.var 2, .int .i64 (0)] <|
            .ite (.var 25) (
             .ret [.one (.bol false)]) (
             .prim (.bin .neq) [.var 0, .int .i64 (0)] <|
             .ite (.var 26) (
              .prim (.bin .lss) [.var 2, .int .i64 (1)] <|
              .ite (.var 27) (
               .ret [.one (.bol false)]) (
               .prim (.bin .gtr) [.var 2, .int .i64 (64)] <|
               .ite (.var 28) (
                .ret [.one (.bol false)]) (
                .prim (.bin .eql) [.var 0, .int .i64 (3)] <|
                .ite (.var 29) (
                 .prim (.bin .lss) [.var 5, .int .i64 (1)] <|
                 .ite (.var 30) (
                  .ret [.one (.bol false)]) (
                  .prim (.bin .gtr) [.var 5, .int .i64 (16)] <|
                  .ite (.var 31) (
                   .ret [.one (.bol false)]) (
                   .prim (.bin .neq) [.var 0, .int .i64 (3)] <|
                   .ite (.var 32) (
                    .prim (.bin .neq) [.var 5, .int .i64 (0)] <|
                    .ite (.var 33) (
                     .ret [.one (.bol false)]) (
                     .prim (.bin .eql) [.var 0, .int .i64 (0)] <|
                     .ite (.var 34) (
                      .call F.penumbraref03_Sign [.agg [.var 6, .var 7, .var 8]] [.one] <|
                      .prim (.bin .eql) [.var 35, .int .i64 (0)] <|
                      .ite (.var 36) (
                       .call F.penumbraref03_Sign [.agg [.var 9, .var 10, .var 11]] [.one] <|
                       .prim (.bin .eql) [.var 37, .int .i64 (0)] <|
                       .ret [.one (.var 38)]) (
                       .ret [.one (.bol false)])) (
                      .prim (.bin .eql) [.var 0, .int .i64 (3)] <|
                      .ite (.var 35) (
                       .call F.penumbraref03_Sign [.agg [.var 6, .var 7, .var 8]] [.one] <|
                       .prim (.bin .eql) [.var 36, .int .i64 (0)] <|
                       .ite (.var 37) (
                        .call F.penumbraref03_Sign [.agg [.var 9, .var 10, .var 11]] [.one] <|
                        .prim (.bin .eql) [.var 38, .int .i64 (0)] <|
                        .ret [.one (.var 39)]) (
                        .ret [.one (.bol false)])) (
                       .call F.penumbraref03_Sign [.agg [.var 6, .var 7, .var 8]] [.one] <|
                       .prim (.bin .gtr) [.var 36, .int .i64 (0)] <|
                       .ite (.var 37) (
                        .call F.penumbraref03_Sign [.agg [.var 9, .var 10, .var 11]] [.one] <|
                        .prim (.bin .gtr) [.var 38, .int .i64 (0)] <|
                        .ite (.var 39) (
                         .call F.penumbraref03_One [] [.agg 3] <|
                         .call F.penumbraref03_Cmp [.agg [.var 9, .var 10, .var 11], .agg [.var 40, .var 41, .var 42]] [.one] <|
                         .prim (.bin .lss) [.var 43, .int .i64 (0)] <|
                         .ret [.one (.var 44)]) (
                         .ret [.one (.bol false)])) (
                        .ret [.one (.bol false)]))))) (
                    .prim (.bin .eql) [.var 0, .int .i64 (0)] <|
                    .ite (.var 33) (
                     .call F.penumbraref03_Sign [.agg [.var 6, .var 7, .var 8]] [.one] <|
                     .prim (.bin .eql) [.var 34, .int .i64 (0)] <|
                     .ite (.var 35) (
                      .call F.penumbraref03_Sign [.agg [.var 9, .var 10, .var 11]] [.one] <|
                      .prim (.bin .eql) [.var 36, .int .i64 (0)] <|
                      .ret [.one (.var 37)]) (
                      .ret [.one (.bol false)])) (
                     .prim (.bin .eql) [.var 0, .int .i64 (3)] <|
                     .ite (.var 34) (
                      .call F.penumbraref03_Sign [.agg [.var 6, .var 7, .var 8]] [.one] <|
                      .prim (.bin .eql) [.var 35, .int .i64 (0)] <|
                      .ite (.var 36) (
                       .call F.penumbraref03_Sign [.agg [.var 9, .var 10, .var 11]] [.one] <|
                       .prim (.bin .eql) [.var 37, .int .i64 (0)] <|
                       .ret [.one (.var 38)]) (
                       .ret [.one (.bol false)])) (
                      .call F.penumbraref03_Sign [.agg [.var 6, .var 7, .var 8]] [.one] <|
                      .prim (.bin .gtr) [.var 35, .int .i64 (0)] <|
                      .ite (.var 36) (
                       .call F.penumbraref03_Sign [.agg [.var 9, .var 10, .var 11]] [.one] <|
                       .prim (.bin .gtr) [.var 37, .int .i64 (0)] <|
                       .ite (.var 38) (
                        .call F.penumbraref03_One [] [.agg 3] <|
                        .call F.penumbraref03_Cmp [.agg [.var 9, .var 10, .var 11], .agg [.var 39, .var 40, .var 41]] [.one] <|
                        .prim (.bin .lss) [.var 42, .int .i64 (0)] <|
                        .ret [.one (.var 43)]) (
                        .ret [.one (.bol false)])) (
                       .ret [.one (.bol false)]))))))) (
                 .prim (.bin .neq) [.var 0, .int .i64 (3)] <|
                 .ite (.var 30) (
                  .prim (.bin .neq) [.var 5, .int .i64 (0)] <|
                  .ite (.var 31) (
                   .ret [.one (.bol false)]) (
                   .prim (.bin .eql) [.var 0, .int .i64 (0)] <|
                   .ite (.var 32) (
                    .call F.penumbraref03_Sign [.agg [.var 6, .var 7, .var 8]] [.one] <|
                    .prim (.bin .eql) [.var 33, .int .i64 (0)] <|
                    .ite (.var 34) (
                     .call F.penumbraref03_Sign [.agg [.var 9, .var 10, .var 11]] [.one] <|
                     .prim (.bin .eql) [.var 35, .int .i64 (0)] <|
                     .ret [.one (.var 36)]) (
                     .ret [.one (.bol false)])) (
                    .prim (.bin .eql) [.var 0, .int .i64 (3)] <|
                    .ite (.var 33) (
                     .call F.penumbraref03_Sign [.agg [.var 6, .var 7, .var 8]] [.one] <|
                     .prim (.bin .eql) [.var 34, .int .i64 (0)] <|
                     .ite (.var 35) (
                      .call F.penumbraref03_Sign [.agg [.var 9, .var 10, .var 11]] [.one] <|
                      .prim (.bin .eql) [.var 36, .int .i64 (0)] <|
                      .ret [.one (.var 37)]) (
                      .ret [.one (.bol false)])) (
                     .call F.penumbraref03_Sign [.agg [.var 6, .var 7, .var 8]] [.one] <|
                     .prim (.bin .gtr) [.var 34, .int .i64 (0)] <|
                     .ite (.var 35) (
                      .call F.penumbraref03_Sign [.agg [.var 9, .var 10, .var 11]] [.one] <|
                      .prim (.bin .gtr) [.var 36, .int .i64 (0)] <|
                      .ite (.var 37) (
                       .call F.penumbraref03_One [] [.agg 3] <|
                       .call F.penumbraref03_Cmp [.agg [.var 9, .var 10, .var 11], .agg [.var 38, .var 39, .var 40]] [.one] <|
                       .prim (.bin .lss) [.var 41, .int .i64 (0)] <|
                       .ret [.one (.var 42)]) (
                       .ret [.one (.bol false)])) (
                      .ret [.one (.bol false)]))))) (
                  .prim (.bin .eql) [.var 0, .int .i64 (0)] <|
                  .ite (.var 31) (
                   .call F.penumbraref03_Sign [.agg [.var 6, .var 7, .var 8]] [.one] <|
                   .prim (.bin .eql) [.var 32, .int .i64 (0)] <|
                   .ite (.var 33) (
                    .call F.penumbraref03_Sign [.agg [.var 9, .var 10, .var 11]] [.one] <|
                    .prim (.bin .eql) [.var 34, .int .i64 (0)] <|
                    .ret [.one (.var 35)]) (
                    .ret [.one (.bol false)])) (
                   .prim (.bin .eql) [.var 0, .int .i64 (3)] <|
                   .ite (.var 32) (
                    .call F.penumbraref03_Sign [.agg [.var 6, .var 7, .var 8]] [.one] <|
                    .prim (.bin .eql) [.var 33, .int .i64 (0)] <|
                    .ite (.var 34) (
                     .call F.penumbraref03_Sign [.agg [.var 9, .var 10, .var 11]] [.one] <|
                     .prim (.bin .eql) [.var 35, .int .i64 (0)] <|
                     .ret [.one (.var 36)]) (
                     .ret [.one (.bol false)])) (
                    .call F.penumbraref03_Sign [.agg [.var 6, .var 7, .var 8]] [.one] <|
                    .prim (.bin .gtr) [.var 33, .int .i64 (0)] <|
                    .ite (.var 34) (
                     .call F.penumbraref03_Sign [.agg [.var 9, .var 10, .var 11]] [.one] <|
                     .prim (.bin .gtr) [.var 35, .int .i64 (0)] <|
                     .ite (.var 36) (
                      .call F.penumbraref03_One [] [.agg 3] <|
                      .call F.penumbraref03_Cmp [.agg [.var 9, .var 10, .var 11], .agg [.var 37, .var 38, .var 39]] [.one] <|
                      .prim (.bin .lss) [.var 40, .int .i64 (0)] <|
                      .ret [.one (.var 41)]) (
                      .ret [.one (.bol false)])) (
                     .ret [.one (.bol false)])))))))) (
              .prim (.bin .eql) [.var 0, .int .i64 (3)] <|
              .ite (.var 27) (
               .prim (.bin .lss) [.var 5, .int .i64 (1)] <|
               .ite (.var 28) (
                .ret [.one (.bol false)]) (
                .prim (.bin .gtr) [.var 5, .int .i64 (16)] <|
                .ite (.var 29) (
                 .ret [.one (.bol false)]) (
                 .prim (.bin .neq) [.var 0, .int .i64 (3)] <|
                 .ite (.var 30) (
                  .prim (.bin .neq) [.var 5, .int .i64 (0)] <|
                  .ite (.var 31) (
                   .ret [.one (.bol false)]) (
                   .prim (.bin .eql) [.var 0, .int .i64 (0)] <|
                   .ite (.var 32) (
                    .call F.penumbraref03_Sign [.agg [.var 6, .var 7, .var 8]] [.one] <|
                    .prim (.bin .eql) [.var 33, .int .i64 (0)] <|
                    .ite (.var 34) (
                     .call F.penumbraref03_Sign [.agg [.var 9, .var 10, .var 11]] [.one] <|
                     .prim (.bin .eql) [.var 35, .int .i64 (0)] <|
                     .ret [.one (.var 36)]) (
                     .ret [.one (.bol false)])) (
                    .prim (.bin .eql) [.var 0, .int .i64 (3)] <|
                    .ite (.var 33) (
                     .call F.penumbraref03_Sign [.agg [.var 6, .var 7, .var 8]] [.one] <|
                     .prim (.bin .eql) [.var 34, .int .i64 (0)] <|
                     .ite (.var 35) (
                      .call F.penumbraref03_Sign [.agg [.var 9, .var 10, .var 11]] [.one] <|
                      .prim (.bin .eql) [.var 36, .int .i64 (0)] <|
                      .ret [.one (.var 37)]) (
                      .ret [.one (.bol false)])) (
                     .call F.penumbraref03_Sign [.agg [.var 6, .var 7, .var 8]] [.one] <|
                     .prim (.bin .gtr) [.var 34, .int .i64 (0)] <|
                     .ite (.var 35) (
                      .call F.penumbraref03_Sign [.agg [.var 9, .var 10, .var 11]] [.one] <|
                      .prim (.bin .gtr) [.var 36, .int .i64 (0)] <|
                      .ite (.var 37) (
                       .call F.penumbraref03_One [] [.agg 3] <|
                       .call F.penumbraref03_Cmp [.agg [.var 9, .var 10, .var 11], .agg [.var 38, .var 39, .var 40]] [.one] <|
                       .prim (.bin .lss) [.var 41, .int .i64 (0)] <|
                       .ret [.one (.var 42)]) (
                       .ret [.one (.bol false)])) (
                      .ret [.one (.bol false)]))))) (
                  .prim (.bin .eql) [.var 0, .int .i64 (0)] <|
                  .ite (.var 31) (
                   .call F.penumbraref03_Sign [.agg [.var 6, .var 7, .var 8]] [.one] <|
                   .prim (.bin .eql) [.var 32, .int .i64 (0)] <|
                   .ite (.var 33) (
                    .call F.penumbraref03_Sign [.agg [.var 9, .var 10, .var 11]] [.one] <|
                    .prim (.bin .eql) [.var 34, .int .i64 (0)] <|
                    .ret [.one (.var 35)]) (
                    .ret [.one (.bol false)])) (
                   .prim (.bin .eql) [.var 0, .int .i64 (3)] <|
                   .ite (.var 32) (
                    .call F.penumbraref03_Sign [.agg [.var 6, .var 7, .var 8]] [.one] <|
                    .prim (.bin .eql) [.var 33, .int .i64 (0)] <|
                    .ite (.var 34) (
                     .call F.penumbraref03_Sign [.agg [.var 9, .var 10, .var 11]] [.one] <|
                     .prim (.bin .eql) [.var 35, .int .i64 (0)] <|
                     .ret [.one (.var 36)]) (
                     .ret [.one (.bol false)])) (
                    .call F.penumbraref03_Sign [.agg [.var 6, .var 7, .var 8]] [.one] <|
                    .prim (.bin .gtr) [.var 33, .int .i64 (0)] <|
                    .ite (.var 34) (
                     .call F.penumbraref03_Sign [.agg [.var 9, .var 10, .var 11]] [.one] <|
                     .prim (.bin .gtr) [.var 35, .int .i64 (0)] <|
                     .ite (.var 36) (
                      .call F.penumbraref03_One [] [.agg 3] <|
                      .call F.penumbraref03_Cmp [.agg [.var 9, .var 10, .var 11], .agg [.var 37, .var 38, .var 39]] [.one] <|
                      .prim (.bin .lss) [.var 40, .int .i64 (0)] <|
                      .ret [.one (.var 41)]) (
                      .ret [.one (.bol false)])) (
                     .ret [.one (.bol false)]))))))) (
               .prim (.bin .neq) [.var 0, .int .i64 (3)] <|
               .ite (.var 28) (
                .prim (.bin .neq) [.var 5, .int .i64 (0)] <|
                .ite (.var 29) (
                 .ret [.one (.bol false)]) (
                 .prim (.bin .eql) [.var 0, .int .i64 (0)] <|
                 .ite (.var 30) (
                  .call F.penumbraref03_Sign [.agg [.var 6, .var 7, .var 8]] [.one] <|
                  .prim (.bin .eql) [.var 31, .int .i64 (0)] <|
                  .ite (.var 32) (
                   .call F.penumbraref03_Sign [.agg [.var 9, .var 10, .var 11]] [.one] <|
                   .prim (.bin .eql) [.var 33, .int .i64 (0)] <|
                   .ret [.one (.var 34)]) (
                   .ret [.one (.bol false)])) (
                  .prim (.bin .eql) [.var 0, .int .i64 (3)] <|
                  .ite (.var 31) (
                   .call F.penumbraref03_Sign [.agg [.var 6, .var 7, .var 8]] [.one] <|
                   .prim (.bin .eql) [.var 32, .int .i64 (0)] <|
                   .ite (.var 33) (
                    .call F.penumbraref03_Sign [.agg [.var 9, .var 10, .var 11]] [.one] <|
                    .prim (.bin .eql) [.var 34, .int .i64 (0)] <|
                    .ret [.one (.var 35)]) (
                    .ret [.one (.bol false)])) (
                   .call F.penumbraref03_Sign [.agg [.var 6, .var 7, .var 8]] [.one] <|
                   .prim (.bin .gtr) [.var 32, .int .i64 (0)] <|
                   .ite (.var 33) (
                    .call F.penumbraref03_Sign [.agg [.var 9, .var 10, .var 11]] [.one] <|
                    .prim (.bin .gtr) [.var 34, .int .i64 (0)] <|
                    .ite (.var 35) (
                     .call F.penumbraref03_One [] [.agg 3] <|
                     .call F.penumbraref03_Cmp [.agg [.var 9, .var 10, .var 11], .agg [.var 36, .var 37, .var 38]] [.one] <|
                     .prim (.bin .lss) [.var 39, .int .i64 (0)] <|
                     .ret [.one (.var 40)]) (
                     .ret [.one (.bol false)])) (
                    .ret [.one (.bol false)]))))) (
                .prim (.bin .eql) [.var 0, .int .i64 (0)] <|
                .ite (.var 29) (
                 .call F.penumbraref03_Sign [.agg [.var 6, .var 7, .var 8]] [.one] <|
                 .prim (.bin .eql) [.var 30, .int .i64 (0)] <|
                 .ite (.var 31) (
                  .call F.penumbraref03_Sign [.agg [.var 9, .var 10, .var 11]] [.one] <|
                  .prim (.bin .eql) [.var 32, .int .i64 (0)] <|
                  .ret [.one (.var 33)]) (
                  .ret [.one (.bol false)])) (
                 .prim (.bin .eql) [.var 0, .int .i64 (3)] <|
                 .ite (.var 30) (
                  .call F.penumbraref03_Sign [.agg [.var 6, .var 7, .var 8]] [.one] <|
                  .prim (.bin .eql) [.var 31, .int .i64 (0)] <|
                  .ite (.var 32) (
                   .call F.penumbraref03_Sign [.agg [.var 9, .var 10, .var 11]] [.one] <|
                   .prim (.bin .eql) [.var 33, .int .i64 (0)] <|
                   .ret [.one (.var 34)]) (
                   .ret [.one (.bol false)])) (
                  .call F.penumbraref03_Sign [.agg [.var 6, .var 7, .var 8]] [.one] <|
                  .prim (.bin .gtr) [.var 31, .int .i64 (0)] <|
                  .ite (.var 32) (
                   .call F.penumbraref03_Sign [.agg [.var 9, .var 10, .var 11]] [.one] <|
                   .prim (.bin .gtr) [.var 33, .int .i64 (0)] <|
                   .ite (.var 34) (
                    .call F.penumbraref03_One [] [.agg 3] <|
                    .call F.penumbraref03_Cmp [.agg [.var 9, .var 10, .var 11], .agg [.var 35, .var 36, .var 37]] [.one] <|
                    .prim (.bin .lss) [.var 38, .int .i64 (0)] <|
                    .ret [.one (.var 39)]) (
                    .ret [.one (.bol false)])) (
                   .ret [.one (.bol false)])))))))) (
            .prim (.bin .neq) [.var 0, .int .i64 (0)] <|
            .ite (.var 25) (
             .prim (.bin .lss) [.var 2, .int .i64 (1)] <|
             .ite (.var 26) (
              .ret [.one (.bol false)]) (
              .prim (.bin .gtr) [.var 2, .int .i64 (64)] <|
              .ite (.var 27) (
               .ret [.one (.bol false)]) (
               .prim (.bin .eql) [.var 0, .int .i64 (3)] <|
               .ite (.var 28) (
                .prim (.bin .lss) [.var 5, .int .i64 (1)] <|
                .ite (.var 29) (
                 .ret [.one (.bol false)]) (
                 .prim (.bin .gtr) [.var 5, .int .i64 (16)] <|
                 .ite (.var 30) (
                  .ret [.one (.bol false)]) (
                  .prim (.bin .neq) [.var 0, .int .i64 (3)] <|
                  .ite (.var 31) (
                   .prim (.bin .neq) [.var 5, .int .i64 (0)] <|
                   .ite (.var 32) (
                    .ret [.one (.bol false)]) (
                    .prim (.bin .eql) [.var 0, .int .i64 (0)] <|
                    .ite (.var 33) (
                     .call F.penumbraref03_Sign [.agg [.var 6, .var 7, .var 8]] [.one] <|
                     .prim (.bin .eql) [.var 34, .int .i64 (0)] <|
                     .ite (.var 35) (
                      .call F.penumbraref03_Sign [.agg [.var 9, .var 10, .var 11]] [.one] <|
                      .prim (.bin .eql) [.var 36, .int .i64 (0)] <|
                      .ret [.one (.var 37)]) (
                      .ret [.one (.bol false)])) (
                     .prim (.bin .eql) [.var 0, .int .i64 (3)] <|
                     .ite (.var 34) (
                      .call F.penumbraref03_Sign [.agg [.var 6, .var 7, .var 8]] [.one] <|
                      .prim (.bin .eql) [.var 35, .int .i64 (0)] <|
                      .ite (.var 36) (
                       .call F.penumbraref03_Sign [.agg [.var 9, .var 10, .var 11]] [.one] <|
                       .prim (.bin .eql) [.var 37, .int .i64 (0)] <|
                       .ret [.one (.var 38)]) (
                       .ret [.one (.bol false)])) (
                      .call F.penumbraref03_Sign [.agg [.var 6, .var 7, .var 8]] [.one] <|
                      .prim (.bin .gtr) [.var 35, .int .i64 (0)] <|
                      .ite (.var 36) (
                       .call F.penumbraref03_Sign [.agg [.var 9, .var 10, .var 11]] [.one] <|
                       .prim (.bin .gtr) [.var 37, .int .i64 (0)] <|
                       .ite (.var 38) (
                        .call F.penumbraref03_One [] [.agg 3] <|
                        .call F.penumbraref03_Cmp [.agg [.var 9, .var 10, .var 11], .agg [.var 39, .var 40, .var 41]] [.one] <|
                        .prim (.bin .lss) [.var 42, .int .i64 (0)] <|
                        .ret [.one (.var 43)]) (
                        .ret [.one (.bol false)])) (
                       .ret [.one (.bol false)]))))) (
                   .prim (.bin .eql) [.var 0, .int .i64 (0)] <|
                   .ite (.var 32) (
                    .call F.penumbraref03_Sign [.agg [.var 6, .var 7, .var 8]] [.one] <|
                    .prim (.bin .eql) [.var 33, .int .i64 (0)] <|
                    .ite (.var 34) (
                     .call F.penumbraref03_Sign [.agg [.var 9, .var 10, .var 11]] [.one] <|
                     .prim (.bin .eql) [.var 35, .int .i64 (0)] <|
                     .ret [.one (.var 36)]) (
                     .ret [.one (.bol false)])) (
                    .prim (.bin .eql) [.var 0, .int .i64 (3)] <|
                    .ite (.var 33) (
                     .call F.penumbraref03_Sign [.agg [.var 6, .var 7, .var 8]] [.one] <|
                     .prim (.bin .eql) [.var 34, .int .i64 (0)] <|
                     .ite (.var 35) (
                      .call F.penumbraref03_Sign [.agg [.var 9, .var 10, .var 11]] [.one] <|
                      .prim (.bin .eql) [.var 36, .int .i64 (0)] <|
                      .ret [.one (.var 37)]) (
                      .ret [.one (.bol false)])) (
                     .call F.penumbraref03_Sign [.agg [.var 6, .var 7, .var 8]] [.one] <|
                     .prim (.bin .gtr) [.var 34, .int .i64 (0)] <|
                     .ite (.var 35) (
                      .call F.penumbraref03_Sign [.agg [.var 9, .var 10, .var 11]] [.one] <|
                      .prim (.bin .gtr) [.var 36, .int .i64 (0)] <|
                      .ite (.var 37) (
                       .call F.penumbraref03_One [] [.agg 3] <|
                       .call F.penumbraref03_Cmp [.agg [.var 9, .var 10, .var 11], .agg [.var 38, .var 39, .var 40]] [.one] <|
                       .prim (.bin .lss) [.var 41, .int .i64 (0)] <|
                       .ret [.one (.var 42)]) (
                       .ret [.one (.bol false)])) (
                      .ret [.one (.bol false)]))))))) (
                .prim (.bin .neq) [.var 0, .int .i64 (3)] <|
                .ite (.var 29) (
                 .prim (.bin .neq) [.var 5, .int .i64 (0)] <|
                 .ite (.var 30) (
                  .ret [.one (.bol false)]) (
                  .prim (.bin .eql) [.var 0, .int .i64 (0)] <|
                  .ite (.var 31) (
                   .call F.penumbraref03_Sign [.agg [.var 6, .var 7, .var 8]] [.one] <|
                   .prim (.bin .eql) [.var 32, .int .i64 (0)] <|
                   .ite (.var 33) (
                    .call F.penumbraref03_Sign [.agg [.var 9, .var 10, .var 11]] [.one] <|
                    .prim (.bin .eql) [.var 34, .int .i64 (0)] <|
                    .ret [.one (.var 35)]) (
                    .ret [.one (.bol false)])) (
                   .prim (.bin .eql) [.var 0, .int .i64 (3)] <|
                   .ite (.var 32) (
                    .call F.penumbraref03_Sign [.agg [.var 6, .var 7, .var 8]] [.one] <|
                    .prim (.bin .eql) [.var 33, .int .i64 (0)] <|
                    .ite (.var 34) (
                     .call F.penumbraref03_Sign [.agg [.var 9, .var 10, .var 11]] [.one] <|
                     .prim (.bin .eql) [.var 35, .int .i64 (0)] <|
                     .ret [.one (.var 36)]) (
                     .ret [.one (.bol false)])) (
                    .call F.penumbraref03_Sign [.agg [.var 6, .var 7, .var 8]] [.one] <|
                    .prim (.bin .gtr) [.var 33, .int .i64 (0)] <|
                    .ite (.var 34) (
                     .call F.penumbraref03_Sign [.agg [.var 9, .var 10, .var 11]] [.one] <|
                     .prim (.bin .gtr) [.var 35, .int .i64 (0)] <|
                     .ite (.var 36) (
                      .call F.penumbraref03_One [] [.agg 3] <|
                      .call F.penumbraref03_Cmp [.agg [.var 9, .var 10, .var 11], .agg [.var 37, .var 38, .var 39]] [.one] <|
                      .prim (.bin .lss) [.var 40, .int .i64 (0)] <|
                      .ret [.one (.var 41)]) (
                      .ret [.one (.bol false)])) (
                     .ret [.one (.bol false)]))))) (
                 .prim (.bin .eql) [.var 0, .int .i64 (0)] <|
                 .ite (.var 30) (
                  .call F.penumbraref03_Sign [.agg [.var 6, .var 7, .var 8]] [.one] <|
                  .prim (.bin .eql) [.var 31, .int .i64 (0)] <|
                  .ite (.var 32) (
                   .call F.penumbraref03_Sign [.agg [.var 9, .var 10, .var 11]] [.one] <|
                   .prim (.bin .eql) [.var 33, .int .i64 (0)] <|
                   .ret [.one (.var 34)]) (
                   .ret [.one (.bol false)])) (
                  .prim (.bin .eql) [.var 0, .int .i64 (3)] <|
                  .ite (.var 31) (
                   .call F.penumbraref03_Sign [.agg [.var 6, .var 7, .var 8]] [.one] <|
                   .prim (.bin .eql) [.var 32, .int .i64 (0)] <|
                   .ite (.var 33) (
                    .call F.penumbraref03_Sign [.agg [.var 9, .var 10, .var 11]] [.one] <|
                    .prim (.bin .eql) [.var 34, .int .i64 (0)] <|
                    .ret [.one (.var 35)]) (
                    .ret [.one (.bol false)])) (
                   .call F.penumbraref03_Sign [.agg [.var 6, .var 7, .var 8]] [.one] <|
                   .prim (.bin .gtr) [.var 32, .int .i64 (0)] <|
                   .ite (.var 33) (
                    .call F.penumbraref03_Sign [.agg [.var 9, .var 10, .var 11]] [.one] <|
                    .prim (.bin .gtr) [.var 34, .int .i64 (0)] <|
                    .ite (.var 35) (
                     .call F.penumbraref03_One [] [.agg 3] <|
                     .call F.penumbraref03_Cmp [.agg [.var 9, .var 10, .var 11], .agg [.var 36, .var 37, .var 38]] [.one] <|
                     .prim (.bin .lss) [.var 39, .int .i64 (0)] <|
                     .ret [.one (.var 40)]) (
                     .ret [.one (.bol false)])) (
                    .ret [.one (.bol false)])))))))) (
             .prim (.bin .eql) [.var 0, .int .i64 (3)] <|
             .ite (.var 26) (
              .prim (.bin .lss) [.var 5, .int .i64 (1)] <|
              .ite (.var 27) (
               .ret [.one (.bol false)]) (
               .prim (.bin .gtr) [.var 5, .int .i64 (16)] <|
               .ite (.var 28) (
                .ret [.one (.bol false)]) (
                .prim (.bin .neq) [.var 0, .int .i64 (3)] <|
                .ite (.var 29) (
                 .prim (.bin .neq) [.var 5, .int .i64 (0)] <|
                 .ite (.var 30) (
                  .ret [.one (.bol false)]) (
                  .prim (.bin .eql) [.var 0, .int .i64 (0)] <|
                  .ite (.var 31) (
                   .call F.penumbraref03_Sign [.agg [.var 6, .var 7, .var 8]] [.one] <|
                   .prim (.bin .eql) [.var 32, .int .i64 (0)] <|
                   .ite (.var 33) (
                    .call F.penumbraref03_Sign [.agg [.var 9, .var 10, .var 11]] [.one] <|
                    .prim (.bin .eql) [.var 34, .int .i64 (0)] <|
                    .ret [.one (.var 35)]) (
                    .ret [.one (.bol false)])) (
                   .prim (.bin .eql) [.var 0, .int .i64 (3)] <|
                   .ite (.var 32) (
                    .call F.penumbraref03_Sign [.agg [.var 6, .var 7, .var 8]] [.one] <|
                    .prim (.bin .eql) [.var 33, .int .i64 (0)] <|
                    .ite (.var 34) (
                     .call F.penumbraref03_Sign [.agg [.var 9, .var 10, .var 11]] [.one] <|
                     .prim (.bin .eql) [.var 35, .int .i64 (0)] <|
                     .ret [.one (.var 36)]) (
                     .ret [.one (.bol false)])) (
                    .call F.penumbraref03_Sign [.agg [.var 6, .var 7, .var 8]] [.one] <|
                    .prim (.bin .gtr) [.var 33, .int .i64 (0)] <|
                    .ite (.var 34) (
                     .call F.penumbraref03_Sign [.agg [.var 9, .var 10, .var 11]] [.one] <|
                     .prim (.bin .gtr) [.var 35, .int .i64 (0)] <|
                     .ite (.var 36) (
                      .call F.penumbraref03_One [] [.agg 3] <|
                      .call F.penumbraref03_Cmp [.agg [.var 9, .var 10, .var 11], .agg [.var 37, .var 38, .var 39]] [.one] <|
                      .prim (.bin .lss) [.var 40, .int .i64 (0)] <|
                      .ret [.one (.var 41)]) (
                      .ret [.one (.bol false)])) (
                     .ret [.one (.bol false)]))))) (
                 .prim (.bin .eql) [.var 0, .int .i64 (0)] <|
                 .ite (.var 30) (
                  .call F.penumbraref03_Sign [.agg [.var 6, .var 7, .var 8]] [.one] <|
                  .prim (.bin .eql) [.var 31, .int .i64 (0)] <|
                  .ite (.var 32) (
                   .call F.penumbraref03_Sign [.agg [.var 9, .var 10, .var 11]] [.one] <|
                   .prim (.bin .eql) [.var 33, .int .i64 (0)] <|
                   .ret [.one (.var 34)]) (
                   .ret [.one (.bol false)])) (
                  .prim (.bin .eql) [.var 0, .int .i64 (3)] <|
                  .ite (.var 31) (
                   .call F.penumbraref03_Sign [.agg [.var 6, .var 7, .var 8]] [.one] <|
                   .prim (.bin .eql) [.var 32, .int .i64 (0)] <|
                   .ite (.var 33) (
                    .call F.penumbraref03_Sign [.agg [.var 9, .var 10, .var 11]] [.one] <|
                    .prim (.bin .eql) [.var 34, .int .i64 (0)] <|
                    .ret [.one (.var 35)]) (
                    .ret [.one (.bol false)])) (
                   .call F.penumbraref03_Sign [.agg [.var 6, .var 7, .var 8]] [.one] <|
                   .prim (.bin .gtr) [.var 32, .int .i64 (0)] <|
                   .ite (.var 33) (
                    .call F.penumbraref03_Sign [.agg [.var 9, .var 10, .var 11]] [.one] <|
                    .prim (.bin .gtr) [.var 34, .int .i64 (0)] <|
                    .ite (.var 35) (
                     .call F.penumbraref03_One [] [.agg 3] <|
                     .call F.penumbraref03_Cmp [.agg [.var 9, .var 10, .var 11], .agg [.var 36, .var 37, .var 38]] [.one] <|
                     .prim (.bin .lss) [.var 39, .int .i64 (0)] <|
                     .ret [.one (.var 40)]) (
                     .ret [.one (.bol false)])) (
                    .ret [.one (.bol false)]))))))) (
              .prim (.bin .neq) [.var 0, .int .i64 (3)] <|
              .ite (.var 27) (
               .prim (.bin .neq) [.var 5, .int .i64 (0)] <|
               .ite (.var 28) (
                .ret [.one (.bol false)]) (
                .prim (.bin .eql) [.var 0, .int .i64 (0)] <|
                .ite (.var 29) (
                 .call F.penumbraref03_Sign [.agg [.var 6, .var 7, .var 8]] [.one] <|
                 .prim (.bin .eql) [.var 30, .int .i64 (0)] <|
                 .ite (.var 31) (
                  .call F.penumbraref03_Sign [.agg [.var 9, .var 10, .var 11]] [.one] <|
                  .prim (.bin .eql) [.var 32, .int .i64 (0)] <|
                  .ret [.one (.var 33)]) (
                  .ret [.one (.bol false)])) (
                 .prim (.bin .eql) [.var 0, .int .i64 (3)] <|
                 .ite (.var 30) (
                  .call F.penumbraref03_Sign [.agg [.var 6, .var 7, .var 8]] [.one] <|
                  .prim (.bin .eql) [.var 31, .int .i64 (0)] <|
                  .ite (.var 32) (
                   .call F.penumbraref03_Sign [.agg [.var 9, .var 10, .var 11]] [.one] <|
                   .prim (.bin .eql) [.var 33, .int .i64 (0)] <|
                   .ret [.one (.var 34)]) (
                   .ret [.one (.bol false)])) (
                  .call F.penumbraref03_Sign [.agg [.var 6, .var 7, .var 8]] [.one] <|
                  .prim (.bin .gtr) [.var 31, .int .i64 (0)] <|
                  .ite (.var 32) (
                   .call F.penumbraref03_Sign [.agg [.var 9, .var 10, .var 11]] [.one] <|
                   .prim (.bin .gtr) [.var 33, .int .i64 (0)] <|
                   .ite (.var 34) (
                    .call F.penumbraref03_One [] [.agg 3] <|
                    .call F.penumbraref03_Cmp [.agg [.var 9, .var 10, .var 11], .agg [.var 35, .var 36, .var 37]] [.one] <|
                    .prim (.bin .lss) [.var 38, .int .i64 (0)] <|
                    .ret [.one (.var 39)]) (
                    .ret [.one (.bol false)])) (
                   .ret [.one (.bol false)]))))) (
               .prim (.bin .eql) [.var 0, .int .i64 (0)] <|
               .ite (.var 28) (
                .call F.penumbraref03_Sign [.agg [.var 6, .var 7, .var 8]] [.one] <|
                .prim (.bin .eql) [.var 29, .int .i64 (0)] <|
                .ite (.var 30) (
                 .call F.penumbraref03_Sign [.agg [.var 9, .var 10, .var 11]] [.one] <|
                 .prim (.bin .eql) [.var 31, .int .i64 (0)] <|
                 .ret [.one (.var 32)]) (
                 .ret [.one (.bol false)])) (
                .prim (.bin .eql) [.var 0, .int .i64 (3)] <|
                .ite (.var 29) (
                 .call F.penumbraref03_Sign [.agg [.var 6, .var 7, .var 8]] [.one] <|
                 .prim (.bin .eql) [.var 30, .int .i64 (0)] <|
                 .ite (.var 31) (
                  .call F.penumbraref03_Sign [.agg [.var 9, .var 10, .var 11]] [.one] <|
                  .prim (.bin .eql) [.var 32, .int .i64 (0)] <|
                  .ret [.one (.var 33)]) (
                  .ret [.one (.bol false)])) (
                 .call F.penumbraref03_Sign [.agg [.var 6, .var 7, .var 8]] [.one] <|
                 .prim (.bin .gtr) [.var 30, .int .i64 (0)] <|
                 .ite (.var 31) (
                  .call F.penumbraref03_Sign [.agg [.var 9, .var 10, .var 11]] [.one] <|
                  .prim (.bin .gtr) [.var 32, .int .i64 (0)] <|
                  .ite (.var 33) (
                   .call F.penumbraref03_One [] [.agg 3] <|
                   .call F.penumbraref03_Cmp [.agg [.var 9, .var 10, .var 11], .agg [.var 34, .var 35, .var 36]] [.one] <|
                   .prim (.bin .lss) [.var 37, .int .i64 (0)] <|
                   .ret [.one (.var 38)]) (
                   .ret [.one (.bol false)])) (
                  .ret [.one (.bol false)])))))))))))))))))

def ir_penumbraref13_small : IR :=
 .call F.penumbraref03_Check [.agg [.var 0, .var 1, .var 2]] [.one] <|
 .ite (.var 3) (
  .call F.penumbraref01_Bits [.one (.var 1)] [.one] <|
  .prim (.bin .leq) [.var 4, .int .i64 (64)] <|
  .ite (.var 5) (
   .call F.penumbraref01_Bits [.one (.var 2)] [.one] <|
   .prim (.bin .leq) [.var 6, .int .i64 (64)] <|
   .ret [.one (.var 7)]) (
   .ret [.one (.bol false)])) (
  .ret [.one (.bol false)])

theorem tree_penumbralaw13_DrawsUnits : symFunc Go.Proofs.Try.prog H0 400 F.penumbralaw13_DrawsUnits [.one, .one, .one] = some ir_penumbralaw13_DrawsUnits := by kernel_rfl
theorem tree_penumbralaw13_DrawsOnce : symFunc Go.Proofs.Try.prog H0 400 F.penumbralaw13_DrawsOnce [.agg 19] = some ir_penumbralaw13_DrawsOnce := by kernel_rfl
theorem tree_draws_Unit : symFunc Go.Proofs.Try.prog H0 400 F.draws_Unit [.one, .one] = some ir_draws_Unit := by kernel_rfl
theorem tree_penumbraref13_Unit : symFunc Go.Proofs.Try.prog H0 400 F.penumbraref13_Unit [.one, .one] = some ir_penumbraref13_Unit := by kernel_rfl
theorem tree_penumbralaw13_fixed : symFunc Go.Proofs.Try.prog H0 400 F.penumbralaw13_fixed [] = some ir_penumbralaw13_fixed := by kernel_rfl
theorem tree_draws_Need : symFunc Go.Proofs.Try.prog H0 400 F.draws_Need [.agg 12, .one, .one] = some ir_draws_Need := by kernel_rfl
theorem tree_draws_Where : symFunc Go.Proofs.Try.prog H0 400 F.draws_Where [.agg 12, .one, .one, .one] = some ir_draws_Where := by kernel_rfl
theorem tree_draws_Index : symFunc Go.Proofs.Try.prog H0 400 F.draws_Index [.agg 12, .one, .one, .agg 4] = some ir_draws_Index := by kernel_rfl
theorem tree_penumbralaw03_fixed : symFunc Go.Proofs.Try.prog H0 400 F.penumbralaw03_fixed [] = some ir_penumbralaw03_fixed := by kernel_rfl
theorem tree_draws_within : symFunc Go.Proofs.Try.prog H0 400 F.draws_within [.one, .one, .one] = some ir_draws_within := by kernel_rfl
theorem tree_penumbralaw13_some : symFunc Go.Proofs.Try.prog H0 400 F.penumbralaw13_some [] = some ir_penumbralaw13_some := by kernel_rfl
theorem tree_draws_Check : symFunc Go.Proofs.Try.prog H0 400 F.draws_Check [.agg 12] = some ir_draws_Check := by kernel_rfl
theorem tree_draws_lay : symFunc Go.Proofs.Try.prog H0 400 F.draws_lay [.agg 12, .one, .one] = some ir_draws_lay := by kernel_rfl
theorem tree__draws_layout__pass : symFunc Go.Proofs.Try.prog H0 400 F._draws_layout__pass [.agg 4] = some ir__draws_layout__pass := by kernel_rfl
theorem tree_draws_truth : symFunc Go.Proofs.Try.prog H0 400 F.draws_truth [.one] = some ir_draws_truth := by kernel_rfl
theorem tree_penumbraref13_Need : symFunc Go.Proofs.Try.prog H0 400 F.penumbraref13_Need [.agg 12, .one, .one] = some ir_penumbraref13_Need := by kernel_rfl
theorem tree_draws_small : symFunc Go.Proofs.Try.prog H0 400 F.draws_small [.agg 3] = some ir_draws_small := by kernel_rfl
theorem tree_penumbraref13_Check : symFunc Go.Proofs.Try.prog H0 400 F.penumbraref13_Check [.agg 12] = some ir_penumbraref13_Check := by kernel_rfl
theorem tree_penumbraref13_small : symFunc Go.Proofs.Try.prog H0 400 F.penumbraref13_small [.agg 3] = some ir_penumbraref13_small := by kernel_rfl
end Go.Px

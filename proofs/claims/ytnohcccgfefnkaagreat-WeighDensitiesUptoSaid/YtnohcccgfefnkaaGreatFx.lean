/- Fx: how likely each way finds a path: the program's function. -/
import Derived.Test.YtnohcccgfefnkaaGreatFw
set_option maxRecDepth 20000
set_option maxHeartbeats 40000000
set_option linter.unusedVariables false
set_option linter.unusedSimpArgs false
namespace Go.Px
open Go.RowKit
def ir_weigh_Densities : IR :=
 .call F.weigh_may [.agg [.var 0, .var 1, .var 2, .var 3, .var 4, .var 5, .var 6, .var 7, .var 8, .var 9, .var 10, .var 11, .var 12, .var 13, .var 14, .var 15, .var 16, .var 17, .var 18, .var 19, .var 20, .var 21, .var 22, .var 23, .var 24, .var 25, .var 26, .var 27, .var 28, .var 29, .var 30, .var 31, .var 32, .var 33, .var 34, .var 35, .var 36, .var 37, .var 38, .var 39, .var 40, .var 41, .var 42, .var 43, .var 44, .var 45, .var 46, .var 47, .var 48, .var 49, .var 50, .var 51, .var 52, .var 53, .var 54, .var 55, .var 56, .var 57, .var 58, .var 59, .var 60, .var 61, .var 62, .var 63, .var 64, .var 65, .var 66, .var 67, .var 68, .var 69, .var 70]] [.one] <|
 .prim .not [.var 71] <|
 .ite (.var 72) (
  .ret [.one (.nil), .one (.nil)]) (
  .prim .len [.var 3] <|
  .call F.weigh_fromLight [.agg [.var 0, .var 1, .var 2, .var 3, .var 4, .var 5, .var 6, .var 7, .var 8, .var 9, .var 10, .var 11, .var 12, .var 13, .var 14, .var 15, .var 16, .var 17, .var 18, .var 19, .var 20, .var 21, .var 22, .var 23, .var 24, .var 25, .var 26, .var 27, .var 28, .var 29, .var 30, .var 31, .var 32, .var 33, .var 34, .var 35, .var 36, .var 37, .var 38, .var 39, .var 40, .var 41, .var 42, .var 43, .var 44, .var 45, .var 46, .var 47, .var 48, .var 49, .var 50, .var 51, .var 52, .var 53, .var 54, .var 55, .var 56, .var 57, .var 58, .var 59, .var 60, .var 61, .var 62, .var 63, .var 64, .var 65, .var 66, .var 67, .var 68, .var 69, .var 70]] [.one] <|
  .call F.weigh_fromEye [.agg [.var 0, .var 1, .var 2, .var 3, .var 4, .var 5, .var 6, .var 7, .var 8, .var 9, .var 10, .var 11, .var 12, .var 13, .var 14, .var 15, .var 16, .var 17, .var 18, .var 19, .var 20, .var 21, .var 22, .var 23, .var 24, .var 25, .var 26, .var 27, .var 28, .var 29, .var 30, .var 31, .var 32, .var 33, .var 34, .var 35, .var 36, .var 37, .var 38, .var 39, .var 40, .var 41, .var 42, .var 43, .var 44, .var 45, .var 46, .var 47, .var 48, .var 49, .var 50, .var 51, .var 52, .var 53, .var 54, .var 55, .var 56, .var 57, .var 58, .var 59, .var 60, .var 61, .var 62, .var 63, .var 64, .var 65, .var 66, .var 67, .var 68, .var 69, .var 70]] [.one, .one] <|
  .prim (.inb 3) [.var 75, .int .i64 (0)] <|
  .prim (.get 3 0) [.var 75, .int .i64 (0)] <|
  .prim (.get 3 1) [.var 75, .int .i64 (0)] <|
  .prim (.get 3 2) [.var 75, .int .i64 (0)] <|
  .prim (.mk 1) [.var 78, .var 79, .var 80] <|
  .prim (.mk 0) [] <|
  .loop [.var 73, .var 74, .var 75, .var 76, .int .i64 (1), .var 0, .var 1, .var 2, .var 3, .var 4, .var 5, .var 6, .var 7, .var 8, .var 9, .var 10, .var 11, .var 12, .var 13, .var 14, .var 15, .var 16, .var 17, .var 18, .var 19, .var 20, .var 21, .var 22, .var 23, .var 24, .var 25, .var 26, .var 27, .var 28, .var 29, .var 30, .var 31, .var 32, .var 33, .var 34, .var 35, .var 36, .var 37, .var 38, .var 39, .var 40, .var 41, .var 42, .var 43, .var 44, .var 45, .var 46, .var 47, .var 48, .var 49, .var 50, .var 51, .var 52, .var 53, .var 54, .var 55, .var 56, .var 57, .var 58, .var 59, .var 60, .var 61, .var 62, .var 63, .var 64, .var 65, .var 66, .var 67, .var 68, .var 69, .var 70, .var 81, .var 82] (
   .prim (.bin .leq) [.var 4, .var 0] <|
   .ite (.var 78) (
    .call F.rat_Of [.one (.int .i64 (0)), .one (.int .i64 (1))] [.agg 3] <|
    .prim (.bin .lss) [.var 4, .var 0] <|
    .ite (.var 82) (
     .prim (.bin .sub) [.var 4, .int .i64 (1)] <|
     .prim (.inb 40) [.var 9, .var 83] <|
     .prim (.get 40 36) [.var 9, .var 83] <|
     .prim (.bin .eql) [.var 85, .int .i64 (0)] <|
     .ite (.var 86) (
      .prim (.inb 3) [.var 1, .var 4] <|
      .prim (.get 3 0) [.var 1, .var 4] <|
      .prim (.get 3 1) [.var 1, .var 4] <|
      .prim (.get 3 2) [.var 1, .var 4] <|
      .prim (.inb 3) [.var 2, .var 4] <|
      .prim (.get 3 0) [.var 2, .var 4] <|
      .prim (.get 3 1) [.var 2, .var 4] <|
      .prim (.get 3 2) [.var 2, .var 4] <|
      .prim (.mk 2) [.var 88, .var 89, .var 90, .var 92, .var 93, .var 94] <|
      .call F.rat_Product [.one (.var 95)] [.agg 3] <|
      .prim (.mk 1) [.var 96, .var 97, .var 98] <|
      .prim (.app 3 56) [.var 76, .var 99] <|
      .prim (.bin .lss) [.var 4, .var 0] <|
      .ite (.var 101) (
       .prim (.bin .add) [.var 4, .int .i64 (1)] <|
       .prim (.inb 3) [.var 1, .var 102] <|
       .prim (.get 3 0) [.var 1, .var 102] <|
       .prim (.get 3 1) [.var 1, .var 102] <|
       .prim (.get 3 2) [.var 1, .var 102] <|
       .prim (.inb 3) [.var 2, .var 4] <|
       .prim (.get 3 0) [.var 2, .var 4] <|
       .prim (.get 3 1) [.var 2, .var 4] <|
       .prim (.get 3 2) [.var 2, .var 4] <|
       .prim (.mk 3) [.var 73, .var 74, .var 75, .var 104, .var 105, .var 106, .var 108, .var 109, .var 110] <|
       .call F.rat_Product [.one (.var 111)] [.agg 3] <|
       .prim (.mk 1) [.var 112, .var 113, .var 114] <|
       .prim (.app 3 56) [.var 77, .var 115] <|
       .prim (.bin .add) [.var 4, .int .i64 (1)] <|
       .jump 0 [.var 0, .var 1, .var 2, .var 3, .var 117, .var 5, .var 6, .var 7, .var 8, .var 9, .var 10, .var 11, .var 12, .var 13, .var 14, .var 15, .var 16, .var 17, .var 18, .var 19, .var 20, .var 21, .var 22, .var 23, .var 24, .var 25, .var 26, .var 27, .var 28, .var 29, .var 30, .var 31, .var 32, .var 33, .var 34, .var 35, .var 36, .var 37, .var 38, .var 39, .var 40, .var 41, .var 42, .var 43, .var 44, .var 45, .var 46, .var 47, .var 48, .var 49, .var 50, .var 51, .var 52, .var 53, .var 54, .var 55, .var 56, .var 57, .var 58, .var 59, .var 60, .var 61, .var 62, .var 63, .var 64, .var 65, .var 66, .var 67, .var 68, .var 69, .var 70, .var 71, .var 72, .var 73, .var 74, .var 75, .var 100, .var 116]) (
       .prim (.bin .add) [.var 4, .int .i64 (1)] <|
       .jump 0 [.var 0, .var 1, .var 2, .var 3, .var 102, .var 5, .var 6, .var 7, .var 8, .var 9, .var 10, .var 11, .var 12, .var 13, .var 14, .var 15, .var 16, .var 17, .var 18, .var 19, .var 20, .var 21, .var 22, .var 23, .var 24, .var 25, .var 26, .var 27, .var 28, .var 29, .var 30, .var 31, .var 32, .var 33, .var 34, .var 35, .var 36, .var 37, .var 38, .var 39, .var 40, .var 41, .var 42, .var 43, .var 44, .var 45, .var 46, .var 47, .var 48, .var 49, .var 50, .var 51, .var 52, .var 53, .var 54, .var 55, .var 56, .var 57, .var 58, .var 59, .var 60, .var 61, .var 62, .var 63, .var 64, .var 65, .var 66, .var 67, .var 68, .var 69, .var 70, .var 71, .var 72, .var 73, .var 74, .var 75, .var 100, .var 77])) (
      .prim (.bin .eql) [.var 4, .var 0] <|
      .ite (.var 87) (
       .prim (.bin .eql) [.var 46, .int .i64 (0)] <|
       .ite (.var 88) (
        .ite (.var 3) (
         .prim (.inb 3) [.var 1, .var 0] <|
         .prim (.get 3 0) [.var 1, .var 0] <|
         .prim (.get 3 1) [.var 1, .var 0] <|
         .prim (.get 3 2) [.var 1, .var 0] <|
         .prim (.bin .mul) [.var 68, .var 69] <|
         .call F.rat_Of [.one (.var 93), .one (.int .i64 (1))] [.agg 3] <|
         .prim (.mk 2) [.var 90, .var 91, .var 92, .var 94, .var 95, .var 96] <|
         .call F.rat_Product [.one (.var 97)] [.agg 3] <|
         .prim (.mk 1) [.var 98, .var 99, .var 100] <|
         .prim (.app 3 56) [.var 76, .var 101] <|
         .prim (.bin .lss) [.var 4, .var 0] <|
         .ite (.var 103) (
          .prim (.bin .add) [.var 4, .int .i64 (1)] <|
          .prim (.inb 3) [.var 1, .var 104] <|
          .prim (.get 3 0) [.var 1, .var 104] <|
          .prim (.get 3 1) [.var 1, .var 104] <|
          .prim (.get 3 2) [.var 1, .var 104] <|
          .prim (.inb 3) [.var 2, .var 4] <|
          .prim (.get 3 0) [.var 2, .var 4] <|
          .prim (.get 3 1) [.var 2, .var 4] <|
          .prim (.get 3 2) [.var 2, .var 4] <|
          .prim (.mk 3) [.var 73, .var 74, .var 75, .var 106, .var 107, .var 108, .var 110, .var 111, .var 112] <|
          .call F.rat_Product [.one (.var 113)] [.agg 3] <|
          .prim (.mk 1) [.var 114, .var 115, .var 116] <|
          .prim (.app 3 56) [.var 77, .var 117] <|
          .prim (.bin .add) [.var 4, .int .i64 (1)] <|
          .jump 0 [.var 0, .var 1, .var 2, .var 3, .var 119, .var 5, .var 6, .var 7, .var 8, .var 9, .var 10, .var 11, .var 12, .var 13, .var 14, .var 15, .var 16, .var 17, .var 18, .var 19, .var 20, .var 21, .var 22, .var 23, .var 24, .var 25, .var 26, .var 27, .var 28, .var 29, .var 30, .var 31, .var 32, .var 33, .var 34, .var 35, .var 36, .var 37, .var 38, .var 39, .var 40, .var 41, .var 42, .var 43, .var 44, .var 45, .var 46, .var 47, .var 48, .var 49, .var 50, .var 51, .var 52, .var 53, .var 54, .var 55, .var 56, .var 57, .var 58, .var 59, .var 60, .var 61, .var 62, .var 63, .var 64, .var 65, .var 66, .var 67, .var 68, .var 69, .var 70, .var 71, .var 72, .var 73, .var 74, .var 75, .var 102, .var 118]) (
          .prim (.bin .add) [.var 4, .int .i64 (1)] <|
          .jump 0 [.var 0, .var 1, .var 2, .var 3, .var 104, .var 5, .var 6, .var 7, .var 8, .var 9, .var 10, .var 11, .var 12, .var 13, .var 14, .var 15, .var 16, .var 17, .var 18, .var 19, .var 20, .var 21, .var 22, .var 23, .var 24, .var 25, .var 26, .var 27, .var 28, .var 29, .var 30, .var 31, .var 32, .var 33, .var 34, .var 35, .var 36, .var 37, .var 38, .var 39, .var 40, .var 41, .var 42, .var 43, .var 44, .var 45, .var 46, .var 47, .var 48, .var 49, .var 50, .var 51, .var 52, .var 53, .var 54, .var 55, .var 56, .var 57, .var 58, .var 59, .var 60, .var 61, .var 62, .var 63, .var 64, .var 65, .var 66, .var 67, .var 68, .var 69, .var 70, .var 71, .var 72, .var 73, .var 74, .var 75, .var 102, .var 77])) (
         .prim (.mk 1) [.var 79, .var 80, .var 81] <|
         .prim (.app 3 56) [.var 76, .var 89] <|
         .prim (.bin .lss) [.var 4, .var 0] <|
         .ite (.var 91) (
          .prim (.bin .add) [.var 4, .int .i64 (1)] <|
          .prim (.inb 3) [.var 1, .var 92] <|
          .prim (.get 3 0) [.var 1, .var 92] <|
          .prim (.get 3 1) [.var 1, .var 92] <|
          .prim (.get 3 2) [.var 1, .var 92] <|
          .prim (.inb 3) [.var 2, .var 4] <|
          .prim (.get 3 0) [.var 2, .var 4] <|
          .prim (.get 3 1) [.var 2, .var 4] <|
          .prim (.get 3 2) [.var 2, .var 4] <|
          .prim (.mk 3) [.var 73, .var 74, .var 75, .var 94, .var 95, .var 96, .var 98, .var 99, .var 100] <|
          .call F.rat_Product [.one (.var 101)] [.agg 3] <|
          .prim (.mk 1) [.var 102, .var 103, .var 104] <|
          .prim (.app 3 56) [.var 77, .var 105] <|
          .prim (.bin .add) [.var 4, .int .i64 (1)] <|
          .jump 0 [.var 0, .var 1, .var 2, .var 3, .var 107, .var 5, .var 6, .var 7, .var 8, .var 9, .var 10, .var 11, .var 12, .var 13, .var 14, .var 15, .var 16, .var 17, .var 18, .var 19, .var 20, .var 21, .var 22, .var 23, .var 24, .var 25, .var 26, .var 27, .var 28, .var 29, .var 30, .var 31, .var 32, .var 33, .var 34, .var 35, .var 36, .var 37, .var 38, .var 39, .var 40, .var 41, .var 42, .var 43, .var 44, .var 45, .var 46, .var 47, .var 48, .var 49, .var 50, .var 51, .var 52, .var 53, .var 54, .var 55, .var 56, .var 57, .var 58, .var 59, .var 60, .var 61, .var 62, .var 63, .var 64, .var 65, .var 66, .var 67, .var 68, .var 69, .var 70, .var 71, .var 72, .var 73, .var 74, .var 75, .var 90, .var 106]) (
          .prim (.bin .add) [.var 4, .int .i64 (1)] <|
          .jump 0 [.var 0, .var 1, .var 2, .var 3, .var 92, .var 5, .var 6, .var 7, .var 8, .var 9, .var 10, .var 11, .var 12, .var 13, .var 14, .var 15, .var 16, .var 17, .var 18, .var 19, .var 20, .var 21, .var 22, .var 23, .var 24, .var 25, .var 26, .var 27, .var 28, .var 29, .var 30, .var 31, .var 32, .var 33, .var 34, .var 35, .var 36, .var 37, .var 38, .var 39, .var 40, .var 41, .var 42, .var 43, .var 44, .var 45, .var 46, .var 47, .var 48, .var 49, .var 50, .var 51, .var 52, .var 53, .var 54, .var 55, .var 56, .var 57, .var 58, .var 59, .var 60, .var 61, .var 62, .var 63, .var 64, .var 65, .var 66, .var 67, .var 68, .var 69, .var 70, .var 71, .var 72, .var 73, .var 74, .var 75, .var 90, .var 77]))) (
        .prim (.mk 1) [.var 79, .var 80, .var 81] <|
        .prim (.app 3 56) [.var 76, .var 89] <|
        .prim (.bin .lss) [.var 4, .var 0] <|
        .ite (.var 91) (
         .prim (.bin .add) [.var 4, .int .i64 (1)] <|
         .prim (.inb 3) [.var 1, .var 92] <|
         .prim (.get 3 0) [.var 1, .var 92] <|
         .prim (.get 3 1) [.var 1, .var 92] <|
         .prim (.get 3 2) [.var 1, .var 92] <|
         .prim (.inb 3) [.var 2, .var 4] <|
         .prim (.get 3 0) [.var 2, .var 4] <|
         .prim (.get 3 1) [.var 2, .var 4] <|
         .prim (.get 3 2) [.var 2, .var 4] <|
         .prim (.mk 3) [.var 73, .var 74, .var 75, .var 94, .var 95, .var 96, .var 98, .var 99, .var 100] <|
         .call F.rat_Product [.one (.var 101)] [.agg 3] <|
         .prim (.mk 1) [.var 102, .var 103, .var 104] <|
         .prim (.app 3 56) [.var 77, .var 105] <|
         .prim (.bin .add) [.var 4, .int .i64 (1)] <|
         .jump 0 [.var 0, .var 1, .var 2, .var 3, .var 107, .var 5, .var 6, .var 7, .var 8, .var 9, .var 10, .var 11, .var 12, .var 13, .var 14, .var 15, .var 16, .var 17, .var 18, .var 19, .var 20, .var 21, .var 22, .var 23, .var 24, .var 25, .var 26, .var 27, .var 28, .var 29, .var 30, .var 31, .var 32, .var 33, .var 34, .var 35, .var 36, .var 37, .var 38, .var 39, .var 40, .var 41, .var 42, .var 43, .var 44, .var 45, .var 46, .var 47, .var 48, .var 49, .var 50, .var 51, .var 52, .var 53, .var 54, .var 55, .var 56, .var 57, .var 58, .var 59, .var 60, .var 61, .var 62, .var 63, .var 64, .var 65, .var 66, .var 67, .var 68, .var 69, .var 70, .var 71, .var 72, .var 73, .var 74, .var 75, .var 90, .var 106]) (
         .prim (.bin .add) [.var 4, .int .i64 (1)] <|
         .jump 0 [.var 0, .var 1, .var 2, .var 3, .var 92, .var 5, .var 6, .var 7, .var 8, .var 9, .var 10, .var 11, .var 12, .var 13, .var 14, .var 15, .var 16, .var 17, .var 18, .var 19, .var 20, .var 21, .var 22, .var 23, .var 24, .var 25, .var 26, .var 27, .var 28, .var 29, .var 30, .var 31, .var 32, .var 33, .var 34, .var 35, .var 36, .var 37, .var 38, .var 39, .var 40, .var 41, .var 42, .var 43, .var 44, .var 45, .var 46, .var 47, .var 48, .var 49, .var 50, .var 51, .var 52, .var 53, .var 54, .var 55, .var 56, .var 57, .var 58, .var 59, .var 60, .var 61, .var 62, .var 63, .var 64, .var 65, .var 66, .var 67, .var 68, .var 69, .var 70, .var 71, .var 72, .var 73, .var 74, .var 75, .var 90, .var 77]))) (
       .prim (.mk 1) [.var 79, .var 80, .var 81] <|
       .prim (.app 3 56) [.var 76, .var 88] <|
       .prim (.bin .lss) [.var 4, .var 0] <|
       .ite (.var 90) (
        .prim (.bin .add) [.var 4, .int .i64 (1)] <|
        .prim (.inb 3) [.var 1, .var 91] <|
        .prim (.get 3 0) [.var 1, .var 91] <|
        .prim (.get 3 1) [.var 1, .var 91] <|
        .prim (.get 3 2) [.var 1, .var 91] <|
        .prim (.inb 3) [.var 2, .var 4] <|
        .prim (.get 3 0) [.var 2, .var 4] <|
        .prim (.get 3 1) [.var 2, .var 4] <|
        .prim (.get 3 2) [.var 2, .var 4] <|
        .prim (.mk 3) [.var 73, .var 74, .var 75, .var 93, .var 94, .var 95, .var 97, .var 98, .var 99] <|
        .call F.rat_Product [.one (.var 100)] [.agg 3] <|
        .prim (.mk 1) [.var 101, .var 102, .var 103] <|
        .prim (.app 3 56) [.var 77, .var 104] <|
        .prim (.bin .add) [.var 4, .int .i64 (1)] <|
        .jump 0 [.var 0, .var 1, .var 2, .var 3, .var 106, .var 5, .var 6, .var 7, .var 8, .var 9, .var 10, .var 11, .var 12, .var 13, .var 14, .var 15, .var 16, .var 17, .var 18, .var 19, .var 20, .var 21, .var 22, .var 23, .var 24, .var 25, .var 26, .var 27, .var 28, .var 29, .var 30, .var 31, .var 32, .var 33, .var 34, .var 35, .var 36, .var 37, .var 38, .var 39, .var 40, .var 41, .var 42, .var 43, .var 44, .var 45, .var 46, .var 47, .var 48, .var 49, .var 50, .var 51, .var 52, .var 53, .var 54, .var 55, .var 56, .var 57, .var 58, .var 59, .var 60, .var 61, .var 62, .var 63, .var 64, .var 65, .var 66, .var 67, .var 68, .var 69, .var 70, .var 71, .var 72, .var 73, .var 74, .var 75, .var 89, .var 105]) (
        .prim (.bin .add) [.var 4, .int .i64 (1)] <|
        .jump 0 [.var 0, .var 1, .var 2, .var 3, .var 91, .var 5, .var 6, .var 7, .var 8, .var 9, .var 10, .var 11, .var 12, .var 13, .var 14, .var 15, .var 16, .var 17, .var 18, .var 19, .var 20, .var 21, .var 22, .var 23, .var 24, .var 25, .var 26, .var 27, .var 28, .var 29, .var 30, .var 31, .var 32, .var 33, .var 34, .var 35, .var 36, .var 37, .var 38, .var 39, .var 40, .var 41, .var 42, .var 43, .var 44, .var 45, .var 46, .var 47, .var 48, .var 49, .var 50, .var 51, .var 52, .var 53, .var 54, .var 55, .var 56, .var 57, .var 58, .var 59, .var 60, .var 61, .var 62, .var 63, .var 64, .var 65, .var 66, .var 67, .var 68, .var 69, .var 70, .var 71, .var 72, .var 73, .var 74, .var 75, .var 89, .var 77])))) (
     .prim (.bin .eql) [.var 4, .var 0] <|
     .ite (.var 83) (
      .prim (.bin .eql) [.var 46, .int .i64 (0)] <|
      .ite (.var 84) (
       .ite (.var 3) (
        .prim (.inb 3) [.var 1, .var 0] <|
        .prim (.get 3 0) [.var 1, .var 0] <|
        .prim (.get 3 1) [.var 1, .var 0] <|
        .prim (.get 3 2) [.var 1, .var 0] <|
        .prim (.bin .mul) [.var 68, .var 69] <|
        .call F.rat_Of [.one (.var 89), .one (.int .i64 (1))] [.agg 3] <|
        .prim (.mk 2) [.var 86, .var 87, .var 88, .var 90, .var 91, .var 92] <|
        .call F.rat_Product [.one (.var 93)] [.agg 3] <|
        .prim (.mk 1) [.var 94, .var 95, .var 96] <|
        .prim (.app 3 56) [.var 76, .var 97] <|
        .prim (.bin .lss) [.var 4, .var 0] <|
        .ite (.var 99) (
         .prim (.bin .add) [.var 4, .int .i64 (1)] <|
         .prim (.inb 3) [.var 1, .var 100] <|
         .prim (.get 3 0) [.var 1, .var 100] <|
         .prim (.get 3 1) [.var 1, .var 100] <|
         .prim (.get 3 2) [.var 1, .var 100] <|
         .prim (.inb 3) [.var 2, .var 4] <|
         .prim (.get 3 0) [.var 2, .var 4] <|
         .prim (.get 3 1) [.var 2, .var 4] <|
         .prim (.get 3 2) [.var 2, .var 4] <|
         .prim (.mk 3) [.var 73, .var 74, .var 75, .var 102, .var 103, .var 104, .var 106, .var 107, .var 108] <|
         .call F.rat_Product [.one (.var 109)] [.agg 3] <|
         .prim (.mk 1) [.var 110, .var 111, .var 112] <|
         .prim (.app 3 56) [.var 77, .var 113] <|
         .prim (.bin .add) [.var 4, .int .i64 (1)] <|
         .jump 0 [.var 0, .var 1, .var 2, .var 3, .var 115, .var 5, .var 6, .var 7, .var 8, .var 9, .var 10, .var 11, .var 12, .var 13, .var 14, .var 15, .var 16, .var 17, .var 18, .var 19, .var 20, .var 21, .var 22, .var 23, .var 24, .var 25, .var 26, .var 27, .var 28, .var 29, .var 30, .var 31, .var 32, .var 33, .var 34, .var 35, .var 36, .var 37, .var 38, .var 39, .var 40, .var 41, .var 42, .var 43, .var 44, .var 45, .var 46, .var 47, .var 48, .var 49, .var 50, .var 51, .var 52, .var 53, .var 54, .var 55, .var 56, .var 57, .var 58, .var 59, .var 60, .var 61, .var 62, .var 63, .var 64, .var 65, .var 66, .var 67, .var 68, .var 69, .var 70, .var 71, .var 72, .var 73, .var 74, .var 75, .var 98, .var 114]) (
         .prim (.bin .add) [.var 4, .int .i64 (1)] <|
         .jump 0 [.var 0, .var 1, .var 2, .var 3, .var 100, .var 5, .var 6, .var 7, .var 8, .var 9, .var 10, .var 11, .var 12, .var 13, .var 14, .var 15, .var 16, .var 17, .var 18, .var 19, .var 20, .var 21, .var 22, .var 23, .var 24, .var 25, .var 26, .var 27, .var 28, .var 29, .var 30, .var 31, .var 32, .var 33, .var 34, .var 35, .var 36, .var 37, .var 38, .var 39, .var 40, .var 41, .var 42, .var 43, .var 44, .var 45, .var 46, .var 47, .var 48, .var 49, .var 50, .var 51, .var 52, .var 53, .var 54, .var 55, .var 56, .var 57, .var 58, .var 59, .var 60, .var 61, .var 62, .var 63, .var 64, .var 65, .var 66, .var 67, .var 68, .var 69, .var 70, .var 71, .var 72, .var 73, .var 74, .var 75, .var 98, .var 77])) (
        .prim (.mk 1) [.var 79, .var 80, .var 81] <|
        .prim (.app 3 56) [.var 76, .var 85] <|
        .prim (.bin .lss) [.var 4, .var 0] <|
        .ite (.var 87) (
         .prim (.bin .add) [.var 4, .int .i64 (1)] <|
         .prim (.inb 3) [.var 1, .var 88] <|
         .prim (.get 3 0) [.var 1, .var 88] <|
         .prim (.get 3 1) [.var 1, .var 88] <|
         .prim (.get 3 2) [.var 1, .var 88] <|
         .prim (.inb 3) [.var 2, .var 4] <|
         .prim (.get 3 0) [.var 2, .var 4] <|
         .prim (.get 3 1) [.var 2, .var 4] <|
         .prim (.get 3 2) [.var 2, .var 4] <|
         .prim (.mk 3) [.var 73, .var 74, .var 75, .var 90, .var 91, .var 92, .var 94, .var 95, .var 96] <|
         .call F.rat_Product [.one (.var 97)] [.agg 3] <|
         .prim (.mk 1) [.var 98, .var 99, .var 100] <|
         .prim (.app 3 56) [.var 77, .var 101] <|
         .prim (.bin .add) [.var 4, .int .i64 (1)] <|
         .jump 0 [.var 0, .var 1, .var 2, .var 3, .var 103, .var 5, .var 6, .var 7, .var 8, .var 9, .var 10, .var 11, .var 12, .var 13, .var 14, .var 15, .var 16, .var 17, .var 18, .var 19, .var 20, .var 21, .var 22, .var 23, .var 24, .var 25, .var 26, .var 27, .var 28, .var 29, .var 30, .var 31, .var 32, .var 33, .var 34, .var 35, .var 36, .var 37, .var 38, .var 39, .var 40, .var 41, .var 42, .var 43, .var 44, .var 45, .var 46, .var 47, .var 48, .var 49, .var 50, .var 51, .var 52, .var 53, .var 54, .var 55, .var 56, .var 57, .var 58, .var 59, .var 60, .var 61, .var 62, .var 63, .var 64, .var 65, .var 66, .var 67, .var 68, .var 69, .var 70, .var 71, .var 72, .var 73, .var 74, .var 75, .var 86, .var 102]) (
         .prim (.bin .add) [.var 4, .int .i64 (1)] <|
         .jump 0 [.var 0, .var 1, .var 2, .var 3, .var 88, .var 5, .var 6, .var 7, .var 8, .var 9, .var 10, .var 11, .var 12, .var 13, .var 14, .var 15, .var 16, .var 17, .var 18, .var 19, .var 20, .var 21, .var 22, .var 23, .var 24, .var 25, .var 26, .var 27, .var 28, .var 29, .var 30, .var 31, .var 32, .var 33, .var 34, .var 35, .var 36, .var 37, .var 38, .var 39, .var 40, .var 41, .var 42, .var 43, .var 44, .var 45, .var 46, .var 47, .var 48, .var 49, .var 50, .var 51, .var 52, .var 53, .var 54, .var 55, .var 56, .var 57, .var 58, .var 59, .var 60, .var 61, .var 62, .var 63, .var 64, .var 65, .var 66, .var 67, .var 68, .var 69, .var 70, .var 71, .var 72, .var 73, .var 74, .var 75, .var 86, .var 77]))) (
       .prim (.mk 1) [.var 79, .var 80, .var 81] <|
       .prim (.app 3 56) [.var 76, .var 85] <|
       .prim (.bin .lss) [.var 4, .var 0] <|
       .ite (.var 87) (
        .prim (.bin .add) [.var 4, .int .i64 (1)] <|
        .prim (.inb 3) [.var 1, .var 88] <|
        .prim (.get 3 0) [.var 1, .var 88] <|
        .prim (.get 3 1) [.var 1, .var 88] <|
        .prim (.get 3 2) [.var 1, .var 88] <|
        .prim (.inb 3) [.var 2, .var 4] <|
        .prim (.get 3 0) [.var 2, .var 4] <|
        .prim (.get 3 1) [.var 2, .var 4] <|
        .prim (.get 3 2) [.var 2, .var 4] <|
        .prim (.mk 3) [.var 73, .var 74, .var 75, .var 90, .var 91, .var 92, .var 94, .var 95, .var 96] <|
        .call F.rat_Product [.one (.var 97)] [.agg 3] <|
        .prim (.mk 1) [.var 98, .var 99, .var 100] <|
        .prim (.app 3 56) [.var 77, .var 101] <|
        .prim (.bin .add) [.var 4, .int .i64 (1)] <|
        .jump 0 [.var 0, .var 1, .var 2, .var 3, .var 103, .var 5, .var 6, .var 7, .var 8, .var 9, .var 10, .var 11, .var 12, .var 13, .var 14, .var 15, .var 16, .var 17, .var 18, .var 19, .var 20, .var 21, .var 22, .var 23, .var 24, .var 25, .var 26, .var 27, .var 28, .var 29, .var 30, .var 31, .var 32, .var 33, .var 34, .var 35, .var 36, .var 37, .var 38, .var 39, .var 40, .var 41, .var 42, .var 43, .var 44, .var 45, .var 46, .var 47, .var 48, .var 49, .var 50, .var 51, .var 52, .var 53, .var 54, .var 55, .var 56, .var 57, .var 58, .var 59, .var 60, .var 61, .var 62, .var 63, .var 64, .var 65, .var 66, .var 67, .var 68, .var 69, .var 70, .var 71, .var 72, .var 73, .var 74, .var 75, .var 86, .var 102]) (
        .prim (.bin .add) [.var 4, .int .i64 (1)] <|
        .jump 0 [.var 0, .var 1, .var 2, .var 3, .var 88, .var 5, .var 6, .var 7, .var 8, .var 9, .var 10, .var 11, .var 12, .var 13, .var 14, .var 15, .var 16, .var 17, .var 18, .var 19, .var 20, .var 21, .var 22, .var 23, .var 24, .var 25, .var 26, .var 27, .var 28, .var 29, .var 30, .var 31, .var 32, .var 33, .var 34, .var 35, .var 36, .var 37, .var 38, .var 39, .var 40, .var 41, .var 42, .var 43, .var 44, .var 45, .var 46, .var 47, .var 48, .var 49, .var 50, .var 51, .var 52, .var 53, .var 54, .var 55, .var 56, .var 57, .var 58, .var 59, .var 60, .var 61, .var 62, .var 63, .var 64, .var 65, .var 66, .var 67, .var 68, .var 69, .var 70, .var 71, .var 72, .var 73, .var 74, .var 75, .var 86, .var 77]))) (
      .prim (.mk 1) [.var 79, .var 80, .var 81] <|
      .prim (.app 3 56) [.var 76, .var 84] <|
      .prim (.bin .lss) [.var 4, .var 0] <|
      .ite (.var 86) (
       .prim (.bin .add) [.var 4, .int .i64 (1)] <|
       .prim (.inb 3) [.var 1, .var 87] <|
       .prim (.get 3 0) [.var 1, .var 87] <|
       .prim (.get 3 1) [.var 1, .var 87] <|
       .prim (.get 3 2) [.var 1, .var 87] <|
       .prim (.inb 3) [.var 2, .var 4] <|
       .prim (.get 3 0) [.var 2, .var 4] <|
       .prim (.get 3 1) [.var 2, .var 4] <|
       .prim (.get 3 2) [.var 2, .var 4] <|
       .prim (.mk 3) [.var 73, .var 74, .var 75, .var 89, .var 90, .var 91, .var 93, .var 94, .var 95] <|
       .call F.rat_Product [.one (.var 96)] [.agg 3] <|
       .prim (.mk 1) [.var 97, .var 98, .var 99] <|
       .prim (.app 3 56) [.var 77, .var 100] <|
       .prim (.bin .add) [.var 4, .int .i64 (1)] <|
       .jump 0 [.var 0, .var 1, .var 2, .var 3, .var 102, .var 5, .var 6, .var 7, .var 8, .var 9, .var 10, .var 11, .var 12, .var 13, .var 14, .var 15, .var 16, .var 17, .var 18, .var 19, .var 20, .var 21, .var 22, .var 23, .var 24, .var 25, .var 26, .var 27, .var 28, .var 29, .var 30, .var 31, .var 32, .var 33, .var 34, .var 35, .var 36, .var 37, .var 38, .var 39, .var 40, .var 41, .var 42, .var 43, .var 44, .var 45, .var 46, .var 47, .var 48, .var 49, .var 50, .var 51, .var 52, .var 53, .var 54, .var 55, .var 56, .var 57, .var 58, .var 59, .var 60, .var 61, .var 62, .var 63, .var 64, .var 65, .var 66, .var 67, .var 68, .var 69, .var 70, .var 71, .var 72, .var 73, .var 74, .var 75, .var 85, .var 101]) (
       .prim (.bin .add) [.var 4, .int .i64 (1)] <|
       .jump 0 [.var 0, .var 1, .var 2, .var 3, .var 87, .var 5, .var 6, .var 7, .var 8, .var 9, .var 10, .var 11, .var 12, .var 13, .var 14, .var 15, .var 16, .var 17, .var 18, .var 19, .var 20, .var 21, .var 22, .var 23, .var 24, .var 25, .var 26, .var 27, .var 28, .var 29, .var 30, .var 31, .var 32, .var 33, .var 34, .var 35, .var 36, .var 37, .var 38, .var 39, .var 40, .var 41, .var 42, .var 43, .var 44, .var 45, .var 46, .var 47, .var 48, .var 49, .var 50, .var 51, .var 52, .var 53, .var 54, .var 55, .var 56, .var 57, .var 58, .var 59, .var 60, .var 61, .var 62, .var 63, .var 64, .var 65, .var 66, .var 67, .var 68, .var 69, .var 70, .var 71, .var 72, .var 73, .var 74, .var 75, .var 85, .var 77])))) (
    .ret [.one (.var 76), .one (.var 77)])))

theorem tree_weigh_Densities : symFunc Go.Proofs.Tryz.prog ⟨fun f => [].contains f, fun f i => if f = 4 ∧ i = 8 then [⟨[(1, .s (.one (.lp 0 0))), (4, .s (.one (.at (.var 0)))), (5, .s (.one (.at (.var 1)))), (6, .s (.one (.at (.var 2)))), (7, .s (.one (.at (.var 3)))), (8, .s (.one (.own 1))), (9, .s (.one (.own 2))), (10, .s (.one (.at (.var 4))))], [], [(0, .box [.at (.var 5), .at (.var 6), .at (.var 7), .at (.var 8), .at (.var 9), .at (.var 10), .at (.var 11), .at (.var 12), .at (.var 13), .at (.var 14), .at (.var 15), .at (.var 16), .at (.var 17), .at (.var 18), .at (.var 19), .at (.var 20), .at (.var 21), .at (.var 22), .at (.var 23), .at (.var 24), .at (.var 25), .at (.var 26), .at (.var 27), .at (.var 28), .at (.var 29), .at (.var 30), .at (.var 31), .at (.var 32), .at (.var 33), .at (.var 34), .at (.var 35), .at (.var 36), .at (.var 37), .at (.var 38), .at (.var 39), .at (.var 40), .at (.var 41), .at (.var 42), .at (.var 43), .at (.var 44), .at (.var 45), .at (.var 46), .at (.var 47), .at (.var 48), .at (.var 49), .at (.var 50), .at (.var 51), .at (.var 52), .at (.var 53), .at (.var 54), .at (.var 55), .at (.var 56), .at (.var 57), .at (.var 58), .at (.var 59), .at (.var 60), .at (.var 61), .at (.var 62), .at (.var 63), .at (.var 64), .at (.var 65), .at (.var 66), .at (.var 67), .at (.var 68), .at (.var 69), .at (.var 70), .at (.var 71), .at (.var 72), .at (.var 73), .at (.var 74), .at (.var 75)] 36 false), (1, .own (.var 76) 3 24), (2, .own (.var 77) 3 24)], 3, 78⟩] else [], fun f i => [], fun f => [].contains f, fun f => none⟩ 400 F.weigh_Densities [.agg 71] = some ir_weigh_Densities := by kernel_rfl
end Go.Px
namespace Go.Px.Na
open Go.RowKit
open Go.Proofs.Tryz (prog)
/-- How likely a way to join finds a path. -/
def Pa.q (p : Pa) (s : Nat) : Rat :=
  if s = 0 then p.b 0 else if s < p.n ∧ (p.e (s - 1)).hops = 0 then p.a s * p.b s else if s = p.n ∧ p.last.hops = 0 ∧ p.on then p.a p.n * ((p.cam.w * p.cam.h : Int) : Rat) else 0
/-- How likely a way to merge finds a path. -/
def Pa.m (p : Pa) (s : Nat) : Rat := p.merge * p.a (s + 1) * p.b s
def Pa.rowQ (p : Pa) (n : Nat) : List RR := (List.range n).map fun i => cr (p.q i)
def Pa.rowM (p : Pa) (n : Nat) : List RR := (List.range n).map fun i => cr (p.m (i + 1))
def Pa.stM (p : Pa) (i : Nat) : List RR := p.rowM (min i (p.n - 1))
section
variable {r : RP} {p : Pa}
theorem rowQ_len (n : Nat) : (p.rowQ n).length = n := by simp [Pa.rowQ]
theorem rowQ_1 : p.rowQ 1 = [cr (p.b 0)] := rfl
theorem rowQ_succ {i : Nat} : p.rowQ (i + 1 + 1) = p.rowQ (i + 1) ++ [cr (p.q (i + 1))] := by rw [Pa.rowQ, List.range_succ, List.map_append]; rfl
theorem rowM_len (n : Nat) : (p.rowM n).length = n := by simp [Pa.rowM]
theorem stM_len (n : Nat) : (p.stM n).length = min n (p.n - 1) := rowM_len _
theorem stM_0 : p.stM 0 = [] := by rw [Pa.stM, Nat.zero_min]; rfl
theorem stM_succ {i : Nat} (h : i + 1 < p.n) : p.stM i ++ [cr (p.m (i + 1))] = p.stM (i + 1) := by
  rw [Pa.stM, Pa.stM, show min i (p.n - 1) = i by omega, show min (i + 1) (p.n - 1) = i + 1 by omega, Pa.rowM, Pa.rowM, List.range_succ, List.map_append]; rfl
theorem stM_last {i : Nat} (h : p.n ≤ i + 1) : p.stM i = p.stM (i + 1) := by
  rw [Pa.stM, Pa.stM, show min i (p.n - 1) = min (i + 1) (p.n - 1) by omega]
theorem stM_all : p.stM p.n = p.rowM (p.n - 1) := by rw [Pa.stM, show min p.n (p.n - 1) = p.n - 1 by omega]
theorem rowB_len : p.rowB.length = p.n + 1 := by simp [Pa.rowB]
theorem rowB_get {i : Nat} (h : i < p.n + 1) : p.rowB[i]? = some (cr (p.b i)) := by simp [Pa.rowB, h]
theorem ed_hops {l : List RE} {i : Nat} {x : RE} {k : IntKind} (hx : l[i]? = some x) : Prim.den (.get 40 36) [edl l, .int k (i : Int)] = some (.int .i64 x.hops) := by
  have hi := (List.getElem?_eq_some_iff.1 hx).1
  simp only [edl, Prim.den]
  rw [if_pos ⟨by omega, by omega⟩, Int.toNat_natCast, fm_get RE.len 36 hx (by decide)]
  rfl
theorem f_weigh_Densities (h : NP 1048576 r p) : PureCalls prog F.weigh_Densities [.agg r.c] [.one (rl (if p.may then p.rowQ (p.n + 1) else [])), .one (rl (if p.may then p.rowM (p.n - 1) else []))] := by
  refine symFunc_sound hmix tree_weigh_Densities (by kernel_rfl) rfl ?_
  unfold ir_weigh_Densities
  have hn : r.sp.length = p.n := h.spn
  have he := h.edn
  have hS := h.sm
  simp only [RP.c, RP.tl, RE.c, RCam.c]
  simp only [JJ]
  refine call_step (f_weigh_may h) rfl ?_
  try simp only [JJ]
  refine primS (.bool (!_)) rfl ?_
  refine itN rfl (fun c0 => ?_) (fun c0 => ?_)
  · rw [if_neg c0, if_neg c0]
    exact ret_step rfl
  rw [if_pos c0, if_pos c0]
  have hm := c0
  obtain ⟨⟨h1, h16⟩, hE, ⟨hw1, hw2⟩, hh1, hh2⟩ := c0
  refine primS (.int .i64 (p.n : Int)) (by rw [← hn]; rfl) ?_
  refine call_step (f_weigh_fromLight h (by omega) (by omega)) rfl ?_
  rw [show r.ed.length + 2 = p.n + 1 by omega]
  try simp only [JJ]
  refine call_step (f_weigh_fromEye h hm) rfl ?_
  try simp only [JJ]
  refine primS (.bool true) (rl_inb (i := 0) (by rw [rowB_len]; omega)) ?_
  try simp only [JJ]
  refine get_rr (x := .var 75) (i := .int .i64 0) (rowB_get (i := 0) (by omega)) (fun _ => rfl) (fun _ => rfl) ?_
  simp only [JJ]
  refine primS (rl (p.rowQ 1)) (by rw [rowQ_1]; rfl) ?_
  refine primS (rl (p.stM 0)) (by rw [stM_0]; rfl) ?_
  refine loop_st (fun i : Nat => [.int .i64 (p.n : Int), rl (p.rowA (p.n + 1)), rl p.rowB, .bool (decide p.on), .int .i64 ((i + 1 : Nat) : Int)] ++ gW [r.start] ++ [spl r.sp, edl r.ed] ++ r.tl ++ [rl (p.rowQ (i + 1)), rl (p.stM i)]) (fun i => i ≤ p.n) (fun i => p.n - i) 0 (Nat.zero_le _) rfl (fun _ => rfl) fun i hi X hX => ?_
  simp only [RP.tl, RE.c, RCam.c]
  simp only [JJ]
  rw [h.cam.w, h.cam.h, h.last.hops]
  refine primS (.bool (decide _)) d_leq ?_
  refine itD rfl (fun c1 => ?_) (fun c1 => ?_)
  · have hlt : i + 1 ≤ p.n := by omega
    have hX1 := hX (i + 1) (by omega) (by omega)
    simp only [RP.tl, RE.c, RCam.c] at hX1
    rw [h.cam.w, h.cam.h, h.last.hops] at hX1
    have nA1 := Num.of (hS.a' (i := i + 1) (by omega))
    have nA2 : i + 2 ≤ 16 → Num _ _ _ := fun z => Num.of (hS.a' (i := i + 2) z)
    have nB1 := Num.of (hS.b h16 (i + 1))
    refine cs1 (n_rat_Of (k0 := 0) 0 1 (by decide) (by decide) (by decide) (by decide) (by decide +kernel)) ?_
    simp only [JJ]
    refine primS (.bool (decide _)) d_lss ?_
    refine itD rfl (fun c2 => ?_) (fun c2 => ?_)
    · replace nA2 := nA2 (by omega)
      obtain ⟨e, he', hE'⟩ := h.ed' (i := i) (by omega)
      refine primS (.int .i64 (i : Int)) ((d_sub64 (by omega) (by omega)).trans (by congr 2; omega)) ?_
      refine primS (.bool true) (edl_inb (by omega)) ?_
      refine primS (.int .i64 e.hops) (ed_hops he') ?_
      rw [hE'.hops]
      refine primS (.bool (decide _)) d_eql ?_
      refine itD rfl (fun c3 => ?_) (fun c3 => ?_)
      · have hq : p.q (i + 1) = p.a (i + 1) * p.b (i + 1) := by rw [Pa.q, if_neg (by omega), if_pos ⟨by omega, c3⟩]
        refine primS (.bool true) (rl_inb (by rw [rowA_len]; omega)) ?_
        try simp only [JJ]
        refine get_rr (x := .var 1) (i := .var 4) (rowA_get (by omega)) (fun _ => rfl) (fun _ => rfl) ?_
        simp only [JJ]
        refine primS (.bool true) (rl_inb (by rw [rowB_len]; omega)) ?_
        try simp only [JJ]
        refine get_rr (x := .var 2) (i := .var 4) (rowB_get (by omega)) (fun _ => rfl) (fun _ => rfl) ?_
        simp only [JJ]
        refine primS (rlN2 nA1 nB1) rfl ?_
        refine cs1 (n_rat_Product_2 (nA1.mono (by decide)) (nB1.mono (by decide)) rfl) ?_
        simp only [JJ]
        refine primS (rl [cr (p.a (i + 1) * p.b (i + 1))]) rfl ?_
        refine primS (rl (p.rowQ (i + 1) ++ [cr (p.a (i + 1) * p.b (i + 1))])) (rl_app (by rw [rowQ_len]; simp; omega)) ?_
        rw [← hq, ← rowQ_succ]
        refine primS (.bool true) (d_lss.trans (by rw [decide_eq_true (by omega)])) ?_
        refine itT rfl ?_
        refine primS (.int .i64 ((i + 2 : Nat) : Int)) ((d_add64 (by omega) (by omega)).trans (by simp; omega)) ?_
        refine primS (.bool true) (rl_inb (by rw [rowA_len]; omega)) ?_
        try simp only [JJ]
        refine get_rr (x := .var 1) (i := .var 102) (rowA_get (by omega)) (fun _ => rfl) (fun _ => rfl) ?_
        simp only [JJ]
        refine primS (.bool true) (rl_inb (by rw [rowB_len]; omega)) ?_
        try simp only [JJ]
        refine get_rr (x := .var 2) (i := .var 4) (rowB_get (by omega)) (fun _ => rfl) (fun _ => rfl) ?_
        simp only [JJ]
        refine primS (rlN3 h.merge nA2 nB1) rfl ?_
        refine cs1 (n_rat_Product_3 (h.merge.mono (by decide)) (nA2.mono (by decide)) (nB1.mono (by decide)) rfl) ?_
        rw [show p.merge * p.a (i + 2) * p.b (i + 1) = p.m (i + 1) from rfl]
        simp only [JJ]
        refine primS (rl [cr (p.m (i + 1))]) rfl ?_
        refine primS (rl (p.stM i ++ [cr (p.m (i + 1))])) (rl_app (by rw [stM_len]; simp; omega)) ?_
        rw [stM_succ (by omega)]
        refine primS (.int .i64 ((i + 1 + 1 : Nat) : Int)) ((d_add64 (by omega) (by omega)).trans (by simp)) ?_
        exact jump_step rfl hX1
      · have hq : p.q (i + 1) = 0 := by rw [Pa.q, if_neg (by omega), if_neg (fun z => c3 z.2), if_neg (fun z => by omega)]
        refine primS (.bool false) (d_eql.trans (by rw [decide_eq_false (by omega)])) ?_
        refine itF rfl ?_
        refine primS (rl [cr (0)]) rfl ?_
        refine primS (rl (p.rowQ (i + 1) ++ [cr (0)])) (rl_app (by rw [rowQ_len]; simp; omega)) ?_
        rw [← hq, ← rowQ_succ]
        refine primS (.bool true) (d_lss.trans (by rw [decide_eq_true (by omega)])) ?_
        refine itT rfl ?_
        refine primS (.int .i64 ((i + 2 : Nat) : Int)) ((d_add64 (by omega) (by omega)).trans (by simp; omega)) ?_
        refine primS (.bool true) (rl_inb (by rw [rowA_len]; omega)) ?_
        try simp only [JJ]
        refine get_rr (x := .var 1) (i := .var 91) (rowA_get (by omega)) (fun _ => rfl) (fun _ => rfl) ?_
        simp only [JJ]
        refine primS (.bool true) (rl_inb (by rw [rowB_len]; omega)) ?_
        try simp only [JJ]
        refine get_rr (x := .var 2) (i := .var 4) (rowB_get (by omega)) (fun _ => rfl) (fun _ => rfl) ?_
        simp only [JJ]
        refine primS (rlN3 h.merge nA2 nB1) rfl ?_
        refine cs1 (n_rat_Product_3 (h.merge.mono (by decide)) (nA2.mono (by decide)) (nB1.mono (by decide)) rfl) ?_
        rw [show p.merge * p.a (i + 2) * p.b (i + 1) = p.m (i + 1) from rfl]
        simp only [JJ]
        refine primS (rl [cr (p.m (i + 1))]) rfl ?_
        refine primS (rl (p.stM i ++ [cr (p.m (i + 1))])) (rl_app (by rw [stM_len]; simp; omega)) ?_
        rw [stM_succ (by omega)]
        refine primS (.int .i64 ((i + 1 + 1 : Nat) : Int)) ((d_add64 (by omega) (by omega)).trans (by simp)) ?_
        exact jump_step rfl hX1
    · have hin : i + 1 = p.n := by omega
      refine primS (.bool true) (d_eql.trans (by rw [decide_eq_true (by omega)])) ?_
      refine itT rfl ?_
      refine primS (.bool (decide _)) d_eql ?_
      refine itD rfl (fun c4 => ?_) (fun c4 => ?_)
      · refine itD rfl (fun c5 => ?_) (fun c5 => ?_)
        · have hq : p.q (i + 1) = p.a p.n * ((p.cam.w * p.cam.h : Int) : Rat) := by rw [Pa.q, if_neg (by omega), if_neg (fun z => by omega), if_pos ⟨hin, c4, c5⟩]
          have nAn := Num.of (hS.a' (i := p.n) h16)
          have b1 : p.cam.w * p.cam.h ≤ 16 * 16 := Int.le_trans (Int.mul_le_mul_of_nonneg_right hw2 (by omega)) (Int.mul_le_mul_of_nonneg_left hh2 (by decide))
          have b2 : 0 ≤ p.cam.w * p.cam.h := Int.mul_nonneg (by omega) (by omega)
          have nw : Num 1 (cr ((p.cam.w * p.cam.h : Int) : Rat)) ((p.cam.w * p.cam.h : Int) : Rat) := Num.of (Sm_int (by omega) (by decide))
          refine primS (.bool true) (rl_inb (i := p.n) (by rw [rowA_len]; omega)) ?_
          try simp only [JJ]
          refine get_rr (x := .var 1) (i := .var 0) (rowA_get (i := p.n) (by omega)) (fun _ => rfl) (fun _ => rfl) ?_
          simp only [JJ]
          refine primS (.int .i64 (p.cam.w * p.cam.h)) (d_mul64 (by omega) (by omega)) ?_
          refine cs1 (n_rat_Of (k0 := ((p.cam.w * p.cam.h : Int) : Rat)) (p.cam.w * p.cam.h) 1 (by omega) (by omega) (by decide) (by decide) (ofQ_1 _).symm) ?_
          simp only [JJ]
          refine primS (rlN2 nAn nw) rfl ?_
          refine cs1 (n_rat_Product_2 (nAn.mono (by decide)) (nw.mono (by decide)) rfl) ?_
          simp only [JJ]
          refine primS (rl [cr (p.a p.n * ((p.cam.w * p.cam.h : Int) : Rat))]) rfl ?_
          refine primS (rl (p.rowQ (i + 1) ++ [cr (p.a p.n * ((p.cam.w * p.cam.h : Int) : Rat))])) (rl_app (by rw [rowQ_len]; simp; omega)) ?_
          rw [← hq, ← rowQ_succ]
          refine primS (.bool false) (d_lss.trans (by rw [decide_eq_false (by omega)])) ?_
          refine itF rfl ?_
          refine primS (.int .i64 ((i + 1 + 1 : Nat) : Int)) ((d_add64 (by omega) (by omega)).trans (by simp)) ?_
          rw [← stM_last (by omega)] at hX1
          exact jump_step rfl hX1
        · have hq : p.q (i + 1) = 0 := by rw [Pa.q, if_neg (by omega), if_neg (fun z => by omega), if_neg (fun z => c5 z.2.2)]
          refine primS (rl [cr (0)]) rfl ?_
          refine primS (rl (p.rowQ (i + 1) ++ [cr (0)])) (rl_app (by rw [rowQ_len]; simp; omega)) ?_
          rw [← hq, ← rowQ_succ]
          refine primS (.bool false) (d_lss.trans (by rw [decide_eq_false (by omega)])) ?_
          refine itF rfl ?_
          refine primS (.int .i64 ((i + 1 + 1 : Nat) : Int)) ((d_add64 (by omega) (by omega)).trans (by simp)) ?_
          rw [← stM_last (by omega)] at hX1
          exact jump_step rfl hX1
      · have hq : p.q (i + 1) = 0 := by rw [Pa.q, if_neg (by omega), if_neg (fun z => by omega), if_neg (fun z => c4 z.2.1)]
        refine primS (rl [cr (0)]) rfl ?_
        refine primS (rl (p.rowQ (i + 1) ++ [cr (0)])) (rl_app (by rw [rowQ_len]; simp; omega)) ?_
        rw [← hq, ← rowQ_succ]
        refine primS (.bool false) (d_lss.trans (by rw [decide_eq_false (by omega)])) ?_
        refine itF rfl ?_
        refine primS (.int .i64 ((i + 1 + 1 : Nat) : Int)) ((d_add64 (by omega) (by omega)).trans (by simp)) ?_
        rw [← stM_last (by omega)] at hX1
        exact jump_step rfl hX1
  · obtain rfl : i = p.n := by omega
    rw [stM_all]
    exact ret_step rfl
end
end Go.Px.Na

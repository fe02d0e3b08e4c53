/- QKdFirst: the first ones of the nearest are the nearest ones of a lesser number; none is nearer than the last one that is told; a point that is there is its own nearest one, or one of a lesser number in the same place. -/
import Derived.Test.YtdkifeiejkikdaaKq
import Derived.Test.YtdkifeiejkikdaaJw
import Derived.Test.YtdkifeiejkikdaaJs
set_option maxRecDepth 40000
set_option maxHeartbeats 40000000
set_option linter.unusedVariables false
set_option linter.unusedSimpArgs false
namespace Go.Px
open Go.RowKit
def ir_penumbralaw23_KdFirst : IR :=
 .call F.kd_Build [.one (.var 0)] [.agg 1, .one] <|
 .call F.penumbralaw23_fixed [] [.one] <|
 .prim .not [.var 14] <|
 .ite (.var 15) (
  .call F.penumbralaw23_fixed [] [.one] <|
  .ret [.one (.var 16)]) (
  .prim .len [.var 0] <|
  .prim (.bin .gtr) [.var 16, .int .i64 (100)] <|
  .ite (.var 17) (
   .call F.penumbralaw23_fixed [] [.one] <|
   .ret [.one (.var 18)]) (
   .prim (.bin .lss) [.var 11, .int .i64 (0)] <|
   .ite (.var 18) (
    .call F.penumbralaw23_fixed [] [.one] <|
    .ret [.one (.var 19)]) (
    .prim (.bin .gtr) [.var 11, .var 10] <|
    .ite (.var 19) (
     .call F.penumbralaw23_fixed [] [.one] <|
     .ret [.one (.var 20)]) (
     .call F.kd_Nearest [.agg [.var 12], .one (.var 0), .agg [.var 1, .var 2, .var 3, .var 4, .var 5, .var 6, .var 7, .var 8, .var 9], .one (.var 10)] [.one] <|
     .call F.kd_Nearest [.agg [.var 12], .one (.var 0), .agg [.var 1, .var 2, .var 3, .var 4, .var 5, .var 6, .var 7, .var 8, .var 9], .one (.var 11)] [.one] <|
     .prim .not [.var 13] <|
     .ite (.var 22) (
      .ret [.one (.bol false)]) (
      .prim .len [.var 20] <|
      .prim .len [.var 0] <|
      .prim .min2 [.var 10, .var 24] <|
      .prim .max2 [.int .i64 (0), .var 25] <|
      .prim (.bin .neq) [.var 23, .var 26] <|
      .ite (.var 27) (
       .ret [.one (.bol false)]) (
       .prim .len [.var 21] <|
       .prim .len [.var 20] <|
       .prim (.bin .gtr) [.var 28, .var 29] <|
       .ite (.var 30) (
        .ret [.one (.bol false)]) (
        .prim .len [.var 21] <|
        .prim (.slc 1) [.var 20, .int .i64 (0), .var 31] <|
        .call F.penumbraref15_Ints [.one (.var 21), .one (.var 32)] [.one] <|
        .prim .not [.var 33] <|
        .ite (.var 34) (
         .ret [.one (.bol false)]) (
         .prim .len [.var 0] <|
         .prim (.make 1) [.var 35, .var 35, .bol false] <|
         .loop [.var 0, .var 20, .int .i64 (0), .var 1, .var 2, .var 3, .var 4, .var 5, .var 6, .var 7, .var 8, .var 9, .var 12, .var 36] (
          .prim .len [.var 1] <|
          .prim (.bin .lss) [.var 2, .var 14] <|
          .ite (.var 15) (
           .prim (.inb 1) [.var 1, .var 2] <|
           .prim (.get 1 0) [.var 1, .var 2] <|
           .prim (.bin .lss) [.var 17, .int .i64 (0)] <|
           .ite (.var 18) (
            .ret [.one (.bol false)]) (
            .prim (.inb 1) [.var 1, .var 2] <|
            .prim (.get 1 0) [.var 1, .var 2] <|
            .prim .len [.var 0] <|
            .prim (.bin .geq) [.var 20, .var 21] <|
            .ite (.var 22) (
             .ret [.one (.bol false)]) (
             .prim (.inb 1) [.var 1, .var 2] <|
             .prim (.get 1 0) [.var 1, .var 2] <|
             .prim (.inb 1) [.var 13, .var 24] <|
             .prim (.get 1 0) [.var 13, .var 24] <|
             .ite (.var 26) (
              .ret [.one (.bol false)]) (
              .prim (.bin .gtr) [.var 2, .int .i64 (0)] <|
              .ite (.var 27) (
               .prim (.bin .sub) [.var 2, .int .i64 (1)] <|
               .prim (.inb 1) [.var 1, .var 28] <|
               .prim (.get 1 0) [.var 1, .var 28] <|
               .prim (.inb 9) [.var 0, .var 30] <|
               .prim (.get 9 0) [.var 0, .var 30] <|
               .prim (.get 9 1) [.var 0, .var 30] <|
               .prim (.get 9 2) [.var 0, .var 30] <|
               .prim (.get 9 3) [.var 0, .var 30] <|
               .prim (.get 9 4) [.var 0, .var 30] <|
               .prim (.get 9 5) [.var 0, .var 30] <|
               .prim (.get 9 6) [.var 0, .var 30] <|
               .prim (.get 9 7) [.var 0, .var 30] <|
               .prim (.get 9 8) [.var 0, .var 30] <|
               .call F.ball_Far [.agg [.var 32, .var 33, .var 34, .var 35, .var 36, .var 37, .var 38, .var 39, .var 40], .agg [.var 3, .var 4, .var 5, .var 6, .var 7, .var 8, .var 9, .var 10, .var 11]] [.agg 3] <|
               .prim (.inb 1) [.var 1, .var 2] <|
               .prim (.get 1 0) [.var 1, .var 2] <|
               .prim (.inb 9) [.var 0, .var 45] <|
               .prim (.get 9 0) [.var 0, .var 45] <|
               .prim (.get 9 1) [.var 0, .var 45] <|
               .prim (.get 9 2) [.var 0, .var 45] <|
               .prim (.get 9 3) [.var 0, .var 45] <|
               .prim (.get 9 4) [.var 0, .var 45] <|
               .prim (.get 9 5) [.var 0, .var 45] <|
               .prim (.get 9 6) [.var 0, .var 45] <|
               .prim (.get 9 7) [.var 0, .var 45] <|
               .prim (.get 9 8) [.var 0, .var 45] <|
               .call F.ball_Far [.agg [.var 47, .var 48, .var 49, .var 50, .var 51, .var 52, .var 53, .var 54, .var 55], .agg [.var 3, .var 4, .var 5, .var 6, .var 7, .var 8, .var 9, .var 10, .var 11]] [.agg 3] <|
               .call F.rat_Cmp [.agg [.var 41, .var 42, .var 43], .agg [.var 56, .var 57, .var 58]] [.one] <|
               .prim (.bin .gtr) [.var 59, .int .i64 (0)] <|
               .ite (.var 60) (
                .ret [.one (.bol false)]) (
                .prim (.inb 1) [.var 1, .var 2] <|
                .prim (.get 1 0) [.var 1, .var 2] <|
                .prim (.inb 1) [.var 13, .var 62] <|
                .prim (.setl 1 0) [.var 13, .var 62, .bol true] <|
                .prim (.bin .add) [.var 2, .int .i64 (1)] <|
                .jump 0 [.var 0, .var 1, .var 65, .var 3, .var 4, .var 5, .var 6, .var 7, .var 8, .var 9, .var 10, .var 11, .var 12, .var 64])) (
               .prim (.inb 1) [.var 1, .var 2] <|
               .prim (.get 1 0) [.var 1, .var 2] <|
               .prim (.inb 1) [.var 13, .var 29] <|
               .prim (.setl 1 0) [.var 13, .var 29, .bol true] <|
               .prim (.bin .add) [.var 2, .int .i64 (1)] <|
               .jump 0 [.var 0, .var 1, .var 32, .var 3, .var 4, .var 5, .var 6, .var 7, .var 8, .var 9, .var 10, .var 11, .var 12, .var 31]))))) (
           .loop [.var 0, .var 1, .int .i64 (0), .var 3, .var 4, .var 5, .var 6, .var 7, .var 8, .var 9, .var 10, .var 11, .var 12, .var 13] (
            .prim .len [.var 0] <|
            .prim (.bin .lss) [.var 2, .var 14] <|
            .ite (.var 15) (
             .prim (.inb 1) [.var 13, .var 2] <|
             .prim (.get 1 0) [.var 13, .var 2] <|
             .prim .not [.var 17] <|
             .ite (.var 18) (
              .prim .len [.var 1] <|
              .prim (.bin .gtr) [.var 19, .int .i64 (0)] <|
              .ite (.var 20) (
               .prim (.inb 9) [.var 0, .var 2] <|
               .prim (.get 9 0) [.var 0, .var 2] <|
               .prim (.get 9 1) [.var 0, .var 2] <|
               .prim (.get 9 2) [.var 0, .var 2] <|
               .prim (.get 9 3) [.var 0, .var 2] <|
               .prim (.get 9 4) [.var 0, .var 2] <|
               .prim (.get 9 5) [.var 0, .var 2] <|
               .prim (.get 9 6) [.var 0, .var 2] <|
               .prim (.get 9 7) [.var 0, .var 2] <|
               .prim (.get 9 8) [.var 0, .var 2] <|
               .call F.ball_Far [.agg [.var 22, .var 23, .var 24, .var 25, .var 26, .var 27, .var 28, .var 29, .var 30], .agg [.var 3, .var 4, .var 5, .var 6, .var 7, .var 8, .var 9, .var 10, .var 11]] [.agg 3] <|
               .prim .len [.var 1] <|
               .prim (.bin .sub) [.var 34, .int .i64 (1)] <|
               .prim (.inb 1) [.var 1, .var 35] <|
               .prim (.get 1 0) [.var 1, .var 35] <|
               .prim (.inb 9) [.var 0, .var 37] <|
               .prim (.get 9 0) [.var 0, .var 37] <|
               .prim (.get 9 1) [.var 0, .var 37] <|
               .prim (.get 9 2) [.var 0, .var 37] <|
               .prim (.get 9 3) [.var 0, .var 37] <|
               .prim (.get 9 4) [.var 0, .var 37] <|
               .prim (.get 9 5) [.var 0, .var 37] <|
               .prim (.get 9 6) [.var 0, .var 37] <|
               .prim (.get 9 7) [.var 0, .var 37] <|
               .prim (.get 9 8) [.var 0, .var 37] <|
               .call F.ball_Far [.agg [.var 39, .var 40, .var 41, .var 42, .var 43, .var 44, .var 45, .var 46, .var 47], .agg [.var 3, .var 4, .var 5, .var 6, .var 7, .var 8, .var 9, .var 10, .var 11]] [.agg 3] <|
               .call F.rat_Cmp [.agg [.var 31, .var 32, .var 33], .agg [.var 48, .var 49, .var 50]] [.one] <|
               .prim (.bin .lss) [.var 51, .int .i64 (0)] <|
               .ite (.var 52) (
                .ret [.one (.bol false)]) (
                .prim (.inb 9) [.var 0, .var 2] <|
                .prim (.get 9 0) [.var 0, .var 2] <|
                .prim (.get 9 1) [.var 0, .var 2] <|
                .prim (.get 9 2) [.var 0, .var 2] <|
                .prim (.get 9 3) [.var 0, .var 2] <|
                .prim (.get 9 4) [.var 0, .var 2] <|
                .prim (.get 9 5) [.var 0, .var 2] <|
                .prim (.get 9 6) [.var 0, .var 2] <|
                .prim (.get 9 7) [.var 0, .var 2] <|
                .prim (.get 9 8) [.var 0, .var 2] <|
                .call F.kd_Nearest [.agg [.var 12], .one (.var 0), .agg [.var 54, .var 55, .var 56, .var 57, .var 58, .var 59, .var 60, .var 61, .var 62], .one (.int .i64 (1))] [.one] <|
                .prim (.bin .lss) [.var 2, .int .i64 (10)] <|
                .ite (.var 64) (
                 .prim .len [.var 63] <|
                 .prim (.bin .neq) [.var 65, .int .i64 (1)] <|
                 .ite (.var 66) (
                  .ret [.one (.bol false)]) (
                  .prim (.inb 1) [.var 63, .int .i64 (0)] <|
                  .prim (.get 1 0) [.var 63, .int .i64 (0)] <|
                  .prim (.bin .lss) [.var 68, .int .i64 (0)] <|
                  .ite (.var 69) (
                   .ret [.one (.bol false)]) (
                   .prim (.inb 1) [.var 63, .int .i64 (0)] <|
                   .prim (.get 1 0) [.var 63, .int .i64 (0)] <|
                   .prim (.bin .gtr) [.var 71, .var 2] <|
                   .ite (.var 72) (
                    .ret [.one (.bol false)]) (
                    .prim (.inb 1) [.var 63, .int .i64 (0)] <|
                    .prim (.get 1 0) [.var 63, .int .i64 (0)] <|
                    .prim (.inb 9) [.var 0, .var 74] <|
                    .prim (.get 9 0) [.var 0, .var 74] <|
                    .prim (.get 9 1) [.var 0, .var 74] <|
                    .prim (.get 9 2) [.var 0, .var 74] <|
                    .prim (.get 9 3) [.var 0, .var 74] <|
                    .prim (.get 9 4) [.var 0, .var 74] <|
                    .prim (.get 9 5) [.var 0, .var 74] <|
                    .prim (.get 9 6) [.var 0, .var 74] <|
                    .prim (.get 9 7) [.var 0, .var 74] <|
                    .prim (.get 9 8) [.var 0, .var 74] <|
                    .prim (.inb 9) [.var 0, .var 2] <|
                    .prim (.get 9 0) [.var 0, .var 2] <|
                    .prim (.get 9 1) [.var 0, .var 2] <|
                    .prim (.get 9 2) [.var 0, .var 2] <|
                    .prim (.get 9 3) [.var 0, .var 2] <|
                    .prim (.get 9 4) [.var 0, .var 2] <|
                    .prim (.get 9 5) [.var 0, .var 2] <|
                    .prim (.get 9 6) [.var 0, .var 2] <|
                    .prim (.get 9 7) [.var 0, .var 2] <|
                    .prim (.get 9 8) [.var 0, .var 2] <|
                    .call F.ball_Far [.agg [.var 76, .var 77, .var 78, .var 79, .var 80, .var 81, .var 82, .var 83, .var 84], .agg [.var 86, .var 87, .var 88, .var 89, .var 90, .var 91, .var 92, .var 93, .var 94]] [.agg 3] <|
                    .call F.rat_Sign [.agg [.var 95, .var 96, .var 97]] [.one] <|
                    .prim (.bin .neq) [.var 98, .int .i64 (0)] <|
                    .ite (.var 99) (
                     .ret [.one (.bol false)]) (
                     .prim (.bin .add) [.var 2, .int .i64 (1)] <|
                     .jump 1 [.var 0, .var 1, .var 100, .var 3, .var 4, .var 5, .var 6, .var 7, .var 8, .var 9, .var 10, .var 11, .var 12, .var 13]))))) (
                 .prim (.bin .add) [.var 2, .int .i64 (1)] <|
                 .jump 1 [.var 0, .var 1, .var 65, .var 3, .var 4, .var 5, .var 6, .var 7, .var 8, .var 9, .var 10, .var 11, .var 12, .var 13]))) (
               .prim (.inb 9) [.var 0, .var 2] <|
               .prim (.get 9 0) [.var 0, .var 2] <|
               .prim (.get 9 1) [.var 0, .var 2] <|
               .prim (.get 9 2) [.var 0, .var 2] <|
               .prim (.get 9 3) [.var 0, .var 2] <|
               .prim (.get 9 4) [.var 0, .var 2] <|
               .prim (.get 9 5) [.var 0, .var 2] <|
               .prim (.get 9 6) [.var 0, .var 2] <|
               .prim (.get 9 7) [.var 0, .var 2] <|
               .prim (.get 9 8) [.var 0, .var 2] <|
               .call F.kd_Nearest [.agg [.var 12], .one (.var 0), .agg [.var 22, .var 23, .var 24, .var 25, .var 26, .var 27, .var 28, .var 29, .var 30], .one (.int .i64 (1))] [.one] <|
               .prim (.bin .lss) [.var 2, .int .i64 (10)] <|
               .ite (.var 32) (
                .prim .len [.var 31] <|
                .prim (.bin .neq) [.var 33, .int .i64 (1)] <|
                .ite (.var 34) (
                 .ret [.one (.bol false)]) (
                 .prim (.inb 1) [.var 31, .int .i64 (0)] <|
                 .prim (.get 1 0) [.var 31, .int .i64 (0)] <|
                 .prim (.bin .lss) [.var 36, .int .i64 (0)] <|
                 .ite (.var 37) (
                  .ret [.one (.bol false)]) (
                  .prim (.inb 1) [.var 31, .int .i64 (0)] <|
                  .prim (.get 1 0) [.var 31, .int .i64 (0)] <|
                  .prim (.bin .gtr) [.var 39, .var 2] <|
                  .ite (.var 40) (
                   .ret [.one (.bol false)]) (
                   .prim (.inb 1) [.var 31, .int .i64 (0)] <|
                   .prim (.get 1 0) [.var 31, .int .i64 (0)] <|
                   .prim (.inb 9) [.var 0, .var 42] <|
                   .prim (.get 9 0) [.var 0, .var 42] <|
                   .prim (.get 9 1) [.var 0, .var 42] <|
                   .prim (.get 9 2) [.var 0, .var 42] <|
                   .prim (.get 9 3) [.var 0, .var 42] <|
                   .prim (.get 9 4) [.var 0, .var 42] <|
                   .prim (.get 9 5) [.var 0, .var 42] <|
                   .prim (.get 9 6) [.var 0, .var 42] <|
                   .prim (.get 9 7) [.var 0, .var 42] <|
                   .prim (.get 9 8) [.var 0, .var 42] <|
                   .prim (.inb 9) [.var 0, .var 2] <|
                   .prim (.get 9 0) [.var 0, .var 2] <|
                   .prim (.get 9 1) [.var 0, .var 2] <|
                   .prim (.get 9 2) [.var 0, .var 2] <|
                   .prim (.get 9 3) [.var 0, .var 2] <|
                   .prim (.get 9 4) [.var 0, .var 2] <|
                   .prim (.get 9 5) [.var 0, .var 2] <|
                   .prim (.get 9 6) [.var 0, .var 2] <|
                   .prim (.get 9 7) [.var 0, .var 2] <|
                   .prim (.get 9 8) [.var 0, .var 2] <|
                   .call F.ball_Far [.agg [.var 44, .var 45, .var 46, .var 47, .var 48, .var 49, .var 50, .var 51, .var 52], .agg [.var 54, .var 55, .var 56, .var 57, .var 58, .var 59, .var 60, .var 61, .var 62]] [.agg 3] <|
                   .call F.rat_Sign [.agg [.var 63, .var 64, .var 65]] [.one] <|
                   .prim (.bin .neq) [.var 66, .int .i64 (0)] <|
                   .ite (.var 67) (
                    .ret [.one (.bol false)]) (
                    .prim (.bin .add) [.var 2, .int .i64 (1)] <|
                    .jump 1 [.var 0, .var 1, .var 68, .var 3, .var 4, .var 5, .var 6, .var 7, .var 8, .var 9, .var 10, .var 11, .var 12, .var 13]))))) (
                .prim (.bin .add) [.var 2, .int .i64 (1)] <|
                .jump 1 [.var 0, .var 1, .var 33, .var 3, .var 4, .var 5, .var 6, .var 7, .var 8, .var 9, .var 10, .var 11, .var 12, .var 13]))) (
              .prim (.inb 9) [.var 0, .var 2] <|
              .prim (.get 9 0) [.var 0, .var 2] <|
              .prim (.get 9 1) [.var 0, .var 2] <|
              .prim (.get 9 2) [.var 0, .var 2] <|
              .prim (.get 9 3) [.var 0, .var 2] <|
              .prim (.get 9 4) [.var 0, .var 2] <|
              .prim (.get 9 5) [.var 0, .var 2] <|
              .prim (.get 9 6) [.var 0, .var 2] <|
              .prim (.get 9 7) [.var 0, .var 2] <|
              .prim (.get 9 8) [.var 0, .var 2] <|
              .call F.kd_Nearest [.agg [.var 12], .one (.var 0), .agg [.var 20, .var 21, .var 22, .var 23, .var 24, .var 25, .var 26, .var 27, .var 28], .one (.int .i64 (1))] [.one] <|
              .prim (.bin .lss) [.var 2, .int .i64 (10)] <|
              .ite (.var 30) (
               .prim .len [.var 29] <|
               .prim (.bin .neq) [.var 31, .int .i64 (1)] <|
               .ite (.var 32) (
                .ret [.one (.bol false)]) (
                .prim (.inb 1) [.var 29, .int .i64 (0)] <|
                .prim (.get 1 0) [.var 29, .int .i64 (0)] <|
                .prim (.bin .lss) [.var 34, .int .i64 (0)] <|
                .ite (.var 35) (
                 .ret [.one (.bol false)]) (
                 .prim (.inb 1) [.var 29, .int .i64 (0)] <|
                 .prim (.get 1 0) [.var 29, .int .i64 (0)] <|
                 .prim (.bin .gtr) [.var 37, .var 2] <|
                 .ite (.var 38) (
                  .ret [.one (.bol false)]) (
                  .prim (.inb 1) [.var 29, .int .i64 (0)] <|
                  .prim (.get 1 0) [.var 29, .int .i64 (0)] <|
                  .prim (.inb 9) [.var 0, .var 40] <|
                  .prim (.get 9 0) [.var 0, .var 40] <|
                  .prim (.get 9 1) [.var 0, .var 40] <|
                  .prim (.get 9 2) [.var 0, .var 40] <|
                  .prim (.get 9 3) [.var 0, .var 40] <|
                  .prim (.get 9 4) [.var 0, .var 40] <|
                  .prim (.get 9 5) [.var 0, .var 40] <|
                  .prim (.get 9 6) [.var 0, .var 40] <|
                  .prim (.get 9 7) [.var 0, .var 40] <|
                  .prim (.get 9 8) [.var 0, .var 40] <|
                  .prim (.inb 9) [.var 0, .var 2] <|
                  .prim (.get 9 0) [.var 0, .var 2] <|
                  .prim (.get 9 1) [.var 0, .var 2] <|
                  .prim (.get 9 2) [.var 0, .var 2] <|
                  .prim (.get 9 3) [.var 0, .var 2] <|
                  .prim (.get 9 4) [.var 0, .var 2] <|
                  .prim (.get 9 5) [.var 0, .var 2] <|
                  .prim (.get 9 6) [.var 0, .var 2] <|
                  .prim (.get 9 7) [.var 0, .var 2] <|
                  .prim (.get 9 8) [.var 0, .var 2] <|
                  .call F.ball_Far [.agg [.var 42, .var 43, .var 44, .var 45, .var 46, .var 47, .var 48, .var 49, .var 50], .agg [.var 52, .var 53, .var 54, .var 55, .var 56, .var 57, .var 58, .var 59, .var 60]] [.agg 3] <|
                  .call F.rat_Sign [.agg [.var 61, .var 62, .var 63]] [.one] <|
                  .prim (.bin .neq) [.var 64, .int .i64 (0)] <|
                  .ite (.var 65) (
                   .ret [.one (.bol false)]) (
                   .prim (.bin .add) [.var 2, .int .i64 (1)] <|
                   .jump 1 [.var 0, .var 1, .var 66, .var 3, .var 4, .var 5, .var 6, .var 7, .var 8, .var 9, .var 10, .var 11, .var 12, .var 13]))))) (
               .prim (.bin .add) [.var 2, .int .i64 (1)] <|
               .jump 1 [.var 0, .var 1, .var 31, .var 3, .var 4, .var 5, .var 6, .var 7, .var 8, .var 9, .var 10, .var 11, .var 12, .var 13]))) (
             .ret [.one (.bol true)]))))))))))))

theorem tree_penumbralaw23_KdFirst : symFunc Go.Proofs.Try.prog ⟨fun f => [69, 46, 23, 61].contains f, fun f i => if f = 6 ∧ i = 10 then [⟨[(0, .s (.one (.at (.var 0)))), (4, .s (.one (.lp 0 0))), (9, .s (.one (.lp 1 0))), (11, .s (.one (.at (.var 1)))), (13, .s (.one (.own 2))), (14, .s (.one (.at (.var 2))))], [], [(0, .box [.at (.var 3), .at (.var 4), .at (.var 5), .at (.var 6), .at (.var 7), .at (.var 8), .at (.var 9), .at (.var 10), .at (.var 11)] 27 false), (1, .box [.at (.var 12)] 49 false), (2, .own (.var 13) 1 4)], 3, 14⟩] else if f = 6 ∧ i = 16 then [⟨[(0, .s (.one (.at (.var 0)))), (4, .s (.one (.lp 0 0))), (9, .s (.one (.lp 1 0))), (11, .s (.one (.at (.var 1)))), (13, .s (.one (.own 2))), (15, .s (.one (.at (.var 2))))], [], [(0, .box [.at (.var 3), .at (.var 4), .at (.var 5), .at (.var 6), .at (.var 7), .at (.var 8), .at (.var 9), .at (.var 10), .at (.var 11)] 27 false), (1, .box [.at (.var 12)] 49 false), (2, .own (.var 13) 1 4)], 3, 14⟩] else [], fun f i => [], fun f => [22, 64].contains f, fun f => if f = 35 then some ([.row 4 92, .pl], [.row 1 3, .pl], 1) else if f = 38 then some ([.pl, .pl, .pl, .pl, .pl, .pl, .pl, .pl, .pl, .pl, .pl, .pl, .row 4 87, .row 1 4, .row 1 4], [.pl], 0) else if f = 89 then some ([.pl, .pl, .pl, .pl, .pl, .pl, .pl, .pl, .pl, .pl, .pl, .pl, .row 4 87, .row 1 4, .row 1 4], [], 0) else if f = 90 then some ([.pl, .pl, .pl, .pl, .pl, .pl, .pl, .pl, .pl, .pl, .pl, .pl, .row 4 87, .row 1 4, .row 1 4], [], 0) else none⟩ 400 F.penumbralaw23_KdFirst [.one, .agg 9, .agg 2] = some ir_penumbralaw23_KdFirst := by kernel_rfl
end Go.Px
namespace Go.Px.Na
open Go.RowKit
open Go.Proofs.Try (prog)
theorem f_Build_no {rs : List RV} (hm : 1000 < rs.length) : PureCalls prog F.kd_Build [.one (vl rs)] [.agg [kl []], .one (.bool false)] := by
  refine symFunc_sound hmix tree_kd_Build (by kernel_rfl) rfl ?_
  unfold ir_kd_Build
  try simp only [HH, gW, gD, V3.l, M4.l, Fr.l, Sp.l, RV.l, RM.l, RF.l, RS.l]
  refine primS (.int .i64 (rs.length : Int)) rfl ?_
  refine primS (.bool true) (d_gtr.trans (by rw [decide_eq_true (by omega)])) ?_
  refine itT rfl ?_
  exact ret_step rfl
/-! ### The points, by how far they are -/
def ord (ps : List V3) (c : V3) : List Int := (srtF (allF ps c)).map FD.pt
def fq (ps : List V3) (c : V3) (x : Int) : Rat := far (ps.getD x.toNat o3) c
section
variable {ps : List V3} {c : V3}
theorem all_far {f : FD} (h : f ∈ srtF (allF ps c)) : f.far = fq ps c f.pt ∧ 0 ≤ f.pt ∧ f.pt < (ps.length : Int) := by
  have h := (srtF_perm _).mem_iff.1 h
  obtain ⟨i, hi, rfl⟩ := List.mem_map.1 h
  have := List.mem_range.1 hi
  exact ⟨rfl, by simp, by simp; exact this⟩
theorem ord_len : (ord ps c).length = ps.length := by unfold ord; rw [List.length_map, srtF_len]; simp [allF]
theorem ord_perm : (ord ps c).Perm (iz (List.range ps.length)) := by
  refine ((srtF_perm (allF ps c)).map FD.pt).trans ?_
  unfold allF iz
  rw [List.map_map]
  exact .refl _
theorem ord_nd : (ord ps c).Nodup := by
  refine ord_perm.nodup_iff.2 ?_
  unfold iz
  rw [List.nodup_iff_pairwise_ne, List.pairwise_map]
  exact List.nodup_range.imp fun h e => h (by omega)
theorem ord_mem {x : Int} : x ∈ ord ps c ↔ 0 ≤ x ∧ x < (ps.length : Int) := by
  rw [ord_perm.mem_iff]
  constructor
  · intro h
    obtain ⟨i, hi, rfl⟩ := List.mem_map.1 h
    have := List.mem_range.1 hi
    omega
  · rintro ⟨h0, h1⟩
    exact List.mem_map.2 ⟨x.toNat, List.mem_range.2 (by omega), by omega⟩
theorem ord_lt {i j : Nat} {x y : Int} (hij : i < j) (hx : (ord ps c)[i]? = some x) (hy : (ord ps c)[j]? = some y) : fq ps c x < fq ps c y ∨ fq ps c x = fq ps c y ∧ x ≤ y := by
  unfold ord at hx hy
  rw [List.getElem?_map] at hx hy
  obtain ⟨f, hf, rfl⟩ := Option.map_eq_some_iff.1 hx
  obtain ⟨g, hg, rfl⟩ := Option.map_eq_some_iff.1 hy
  have hs := srtF_sorted (allF ps c)
  rw [List.pairwise_iff_getElem] at hs
  have il := (List.getElem?_eq_some_iff.1 hf).1
  have jl := (List.getElem?_eq_some_iff.1 hg).1
  have h := hs i j il jl hij
  rw [(List.getElem?_eq_some_iff.1 hf).2, (List.getElem?_eq_some_iff.1 hg).2] at h
  have e1 := (all_far (List.mem_of_getElem? hf)).1
  have e2 := (all_far (List.mem_of_getElem? hg)).1
  rw [← e1, ← e2]
  have t : ∀ p q : Rat, p < q ∨ p = q ∨ q < p := fun p q => by grind
  rcases t f.far g.far with z | z | z
  · exact .inl z
  · refine .inr ⟨z, ?_⟩
    have : ¬g.pt < f.pt := fun w => h (.inr ⟨z, w⟩)
    omega
  · exact absurd (.inl z) h
theorem ord_le {i j : Nat} {x y : Int} (hij : i < j) (hx : (ord ps c)[i]? = some x) (hy : (ord ps c)[j]? = some y) : fq ps c x ≤ fq ps c y := by
  rcases ord_lt hij hx hy with h | h
  · exact Rat.le_of_lt h
  · rw [h.1]; exact Rat.le_refl
theorem near_tre (hps : ps.length ≤ 1000) (k : Int) : nearF (tre ps) ps c k = (ord ps c).take k.toNat := by
  unfold nearF ord
  split
  · rename_i hk
    have := near_all (c := c) (k := k.toNat) (tre_fits hps) (by omega)
    rw [Int.toNat_of_nonneg (by omega)] at this
    rw [this, List.map_take]
  · rename_i hk
    rw [show k.toNat = 0 by omega]
    rfl
theorem far_nn {a b : V3} : 0 ≤ far a b := by
  have hx := sq_nonneg (b.x - a.x)
  have hy := sq_nonneg (b.y - a.y)
  have hz := sq_nonneg (b.z - a.z)
  simp only [far, V3.dot, V3.sub]
  grind
theorem far_oneself (a : V3) : far a a = 0 := by simp only [far, V3.dot, V3.sub]; grind
theorem own_one (hps : ps.length ≤ 1000) {i : Nat} (hi : i < ps.length) : ∃ x : Int, nearF (tre ps) ps (ps.getD i o3) 1 = [x] ∧ 0 ≤ x ∧ x ≤ (i : Int) ∧ far (ps.getD x.toNat o3) (ps.getD i o3) = 0 := by
  rw [near_tre hps]
  have hl := ord_len (ps := ps) (c := ps.getD i o3)
  obtain ⟨x, hx⟩ : ∃ x, (ord ps (ps.getD i o3))[0]? = some x := ⟨_, List.getElem?_eq_getElem (by omega)⟩
  have hxr := ord_mem.1 (List.mem_of_getElem? hx)
  refine ⟨x, ?_, hxr.1, ?_⟩
  · match h : ord ps (ps.getD i o3), hx with
    | y :: r, hx => simp at hx; subst hx; rfl
  obtain ⟨j, hj⟩ := List.mem_iff_getElem?.1 (ord_mem (ps := ps) (c := ps.getD i o3).2 ⟨by omega, show (i : Int) < _ by omega⟩)
  have e0 : fq ps (ps.getD i o3) (i : Int) = 0 := by unfold fq; rw [Int.toNat_natCast]; exact far_oneself _
  have e1 : 0 ≤ fq ps (ps.getD i o3) x := far_nn
  by_cases h0 : j = 0
  · subst h0
    rw [hx] at hj
    cases hj
    exact ⟨Int.le_refl _, e0⟩
  · rcases ord_lt (by omega) hx hj with h | ⟨h, h2⟩
    · rw [e0] at h; grind
    · rw [e0] at h; exact ⟨h2, h⟩
end
theorem pure_KdFirst {rs : List RV} {ps : List V3} {rc : RV} {c : V3} {k less : Int} (hp : NVs 1048576 rs ps) (hc : NV 1048576 rc c) :
    PureCalls prog F.penumbralaw23_KdFirst [.one (vl rs), .agg (gW rc.l), .agg [.int .i64 k, .int .i64 less]] [.one (.bool true)] := by
  have hlen := hp.len
  refine symFunc_sound hmix tree_penumbralaw23_KdFirst (by kernel_rfl) rfl ?_
  unfold ir_penumbralaw23_KdFirst
  simp only [flatAll, List.flatMap_cons, List.flatMap_nil, AV.flat, gW, RV.l, List.cons_append, List.nil_append, List.append_nil]
  by_cases hbig : 1000 < rs.length
  · refine call_step (f_Build_no hbig) rfl ?_
    simp only [fa_agg, fa_one, fa_nil, List.cons_append, List.nil_append]
    refine call_step f_fixed23 rfl ?_
    simp only [fa_agg, fa_one, fa_nil, List.cons_append, List.nil_append]
    refine primS (.bool false) rfl ?_
    refine itF rfl ?_
    refine primS (.int .i64 (rs.length : Int)) rfl ?_
    refine primS (.bool true) (d_gtr.trans (by rw [decide_eq_true (by omega)])) ?_
    refine itT rfl ?_
    refine call_step f_fixed23 rfl ?_
    simp only [HH, gW, gD, V3.l, M4.l, Fr.l, Sp.l, RV.l, RM.l, RF.l, RS.l]
    exact ret_step rfl
  have hps : ps.length ≤ 1000 := by omega
  refine call_step (f_Build hp (by decide) (by omega)) rfl ?_
  simp only [fa_agg, fa_one, fa_nil, List.cons_append, List.nil_append]
  refine call_step f_fixed23 rfl ?_
  simp only [fa_agg, fa_one, fa_nil, List.cons_append, List.nil_append]
  refine primS (.bool false) rfl ?_
  refine itF rfl ?_
  refine primS (.int .i64 (rs.length : Int)) rfl ?_
  refine primS (.bool (decide ((100 : Int) < (rs.length : Int)))) d_gtr ?_
  refine itD rfl (fun c1 => ?_) (fun c1 => ?_)
  ·
    refine call_step f_fixed23 rfl ?_
    simp only [HH, gW, gD, V3.l, M4.l, Fr.l, Sp.l, RV.l, RM.l, RF.l, RS.l]
    exact ret_step rfl
  refine primS (.bool (decide (less < 0))) d_lss ?_
  refine itD rfl (fun c2 => ?_) (fun c2 => ?_)
  ·
    refine call_step f_fixed23 rfl ?_
    simp only [HH, gW, gD, V3.l, M4.l, Fr.l, Sp.l, RV.l, RM.l, RF.l, RS.l]
    exact ret_step rfl
  refine primS (.bool (decide (k < less))) d_gtr ?_
  refine itD rfl (fun c3 => ?_) (fun c3 => ?_)
  ·
    refine call_step f_fixed23 rfl ?_
    simp only [HH, gW, gD, V3.l, M4.l, Fr.l, Sp.l, RV.l, RM.l, RF.l, RS.l]
    exact ret_step rfl
  have htl := tre_len ps
  have kA := f_near (ns := tre ps) (k := k) hp hc (by decide) (by decide) (by omega) (by omega)
  have kB := f_near (ns := tre ps) (k := less) hp hc (by decide) (by decide) (by omega) (by omega)
  rw [near_tre hps] at kA kB
  have hol := ord_len (ps := ps) (c := c)
  refine call_step kA rfl ?_
  simp only [fa_agg, fa_one, fa_nil, List.cons_append, List.nil_append]
  refine call_step kB rfl ?_
  simp only [fa_agg, fa_one, fa_nil, List.cons_append, List.nil_append]
  refine primS (.bool false) rfl ?_
  refine itF rfl ?_
  have hAl : ((ord ps c).take k.toNat).length = min k.toNat rs.length := by rw [List.length_take, hol, hlen]
  have hBl : ((ord ps c).take less.toNat).length = min less.toNat rs.length := by rw [List.length_take, hol, hlen]
  have hBA : (ord ps c).take less.toNat = (((ord ps c).take k.toNat).drop 0).take ((((ord ps c).take less.toNat).length : Int) - 0).toNat := by
    rw [List.drop_zero, List.take_take, hBl]
    refine List.ext_getElem? fun j => ?_
    rw [List.getElem?_take, List.getElem?_take]
    by_cases hj : j < ps.length
    · by_cases hj2 : j < less.toNat
      · rw [if_pos hj2, if_pos (by omega)]
      · rw [if_neg hj2, if_neg (by omega)]
    · rw [List.getElem?_eq_none (by omega)]; simp
  have a1 : ∀ x ∈ (ord ps c).take k.toNat, 0 ≤ x ∧ x < (rs.length : Int) := fun x hx => by rw [hlen]; exact ord_mem.1 (List.mem_of_mem_take hx)
  have a2 : ((ord ps c).take k.toNat).Nodup := List.Nodup.sublist (List.take_sublist _ _) ord_nd
  have a3 : ∀ (i : Nat) (x y : Int), ((ord ps c).take k.toNat)[i]? = some x → ((ord ps c).take k.toNat)[i + 1]? = some y → fq ps c x ≤ fq ps c y := fun i x y hx hy => by
    have l1 := (List.getElem?_eq_some_iff.1 hx).1
    have l2 := (List.getElem?_eq_some_iff.1 hy).1
    rw [List.length_take] at l1 l2
    rw [List.getElem?_take_of_lt (by omega)] at hx hy
    exact ord_le (by omega) hx hy
  have a4 : ∀ (x y : Int) (n : Nat), 0 ≤ x → x < (rs.length : Int) → x ∉ (ord ps c).take k.toNat → ((ord ps c).take k.toNat)[n]? = some y → fq ps c y ≤ fq ps c x := fun x y n h0 h1 hx hy => by
    have l1 := (List.getElem?_eq_some_iff.1 hy).1
    rw [List.length_take] at l1
    rw [List.getElem?_take_of_lt (by omega)] at hy
    obtain ⟨j, hj⟩ := List.mem_iff_getElem?.1 (ord_mem (ps := ps) (c := c).2 ⟨h0, by omega⟩)
    have hjk : ¬j < k.toNat := fun z => hx (List.mem_iff_getElem?.2 ⟨j, by rw [List.getElem?_take_of_lt z]; exact hj⟩)
    exact ord_le (by omega) hy hj
  generalize (ord ps c).take less.toNat = B at kB hBl hBA ⊢
  generalize (ord ps c).take k.toNat = A at kA hAl hBA a1 a2 a3 a4 ⊢
  have mn : ∀ a b : Int, Prim.den .min2 [.int .i64 a, .int .i64 b] = some (.int .i64 (if b < a then b else a)) := fun a b => by
    simp [Prim.den]
  refine primS (.int .i64 (A.length : Int)) rfl ?_
  refine primS (.int .i64 (rs.length : Int)) rfl ?_
  refine primS (.int .i64 (if (rs.length : Int) < k then (rs.length : Int) else k)) (mn _ _) ?_
  try simp only [List.cons_append, List.nil_append]
  refine primS (.int .i64 (A.length : Int)) (d_max.trans (by congr 2; split <;> split <;> omega)) ?_
  refine primS (.bool false) (d_neq.trans (by rw [decide_eq_false (by simp)])) ?_
  refine itF rfl ?_
  refine primS (.int .i64 (B.length : Int)) rfl ?_
  refine primS (.int .i64 (A.length : Int)) rfl ?_
  refine primS (.bool false) (d_gtr.trans (by rw [decide_eq_false (by omega)])) ?_
  try simp only [List.cons_append, List.nil_append]
  refine itF rfl ?_
  refine primS (.int .i64 (B.length : Int)) rfl ?_
  refine primS (il B) ((il_slc (by omega) (by omega) (by omega)).trans (by rw [Int.toNat_zero, ← hBA])) ?_
  try simp only [List.cons_append, List.nil_append]
  have ki := f_Ints B B (by omega)
  rw [decide_eq_true rfl] at ki
  refine call_step ki rfl ?_
  simp only [fa_agg, fa_one, fa_nil, List.cons_append, List.nil_append]
  refine primS (.bool false) rfl ?_
  refine itF rfl ?_
  refine primS (.int .i64 (rs.length : Int)) rfl ?_
  refine primS (bl (mrk [] rs.length)) (by rw [mrk_nil]; exact bl_make _ (by omega)) ?_
  try simp only [List.cons_append, List.nil_append]
  have hOwn : ∀ (i : Nat) (hi : i < rs.length), ∃ x : Int, PureCalls prog F.kd_Nearest [.agg [kl (tre ps)], .one (vl rs), .agg (gW (rs[i]'hi).l), .one (.int .i64 1)] [.one (il [x])] ∧ 0 ≤ x ∧ x ≤ (i : Int) ∧ far (ps.getD x.toNat o3) (ps.getD i o3) = 0 := fun i hi => by
    obtain ⟨x, e, h0, h1, h2⟩ := own_one hps (i := i) (by omega)
    refine ⟨x, ?_, h0, h1, h2⟩
    rw [← e]
    exact f_near hp (nvs_at hp hi) (by decide) (by decide) (by omega) (by omega)
  generalize tre ps = T at hOwn htl ⊢
  refine loop_st (fun i : Nat => [vl rs, il A, .int .i64 (i : Int), .bool rc.x.neg, nl rc.x.num, nl rc.x.den, .bool rc.y.neg, nl rc.y.num, nl rc.y.den, .bool rc.z.neg, nl rc.z.num, nl rc.z.den, kl T, bl (mrk (A.take i) rs.length)]) (fun i => i ≤ A.length) (fun i => A.length - i) 0 (Nat.zero_le _) rfl (fun _ => rfl) fun i hi X hX => ?_
  refine primS (.int .i64 (A.length : Int)) rfl ?_
  by_cases hlt : i < A.length
  · refine primS (.bool true) (d_lss.trans (by rw [decide_eq_true (by omega)])) ?_
    refine itT rfl ?_
    obtain ⟨x, hx⟩ : ∃ x, A[i]? = some x := ⟨_, List.getElem?_eq_getElem hlt⟩
    have hxr := a1 x (List.mem_of_getElem? hx)
    have gt : ∀ (j : Nat) (y : Int), A[j]? = some y → Prim.den (.get 1 0) [il A, .int .i64 (j : Int)] = some (.int .i64 y) := fun j y hy => by
      have := (List.getElem?_eq_some_iff.1 hy).1
      rw [il_get (by omega) (by omega), Int.toNat_natCast, List.getD_eq_getElem?_getD, hy]; rfl
    have hg := gt i x hx
    have hxl : x.toNat < rs.length := by omega
    refine primS (.bool true) (il_inb (by omega) (by omega)) ?_
    refine primS (.int .i64 x) hg ?_
    refine primS (.bool false) (d_lss.trans (by rw [decide_eq_false (by omega)])) ?_
    try simp only [List.cons_append, List.nil_append]
    refine itF rfl ?_
    refine primS (.bool true) (il_inb (by omega) (by omega)) ?_
    refine primS (.int .i64 x) hg ?_
    refine primS (.int .i64 (rs.length : Int)) rfl ?_
    try simp only [List.cons_append, List.nil_append]
    refine primS (.bool false) (d_geq.trans (by rw [decide_eq_false (by omega)])) ?_
    refine itF rfl ?_
    refine primS (.bool true) (il_inb (by omega) (by omega)) ?_
    refine primS (.int .i64 x) hg ?_
    refine primS (.bool true) (bl_inb (by omega) (by rw [mrk_len]; omega)) ?_
    try simp only [List.cons_append, List.nil_append]
    refine primS (.bool false) ((bl_get (by omega) (by rw [mrk_len]; omega)).trans (by rw [mrk_get (by omega), Int.toNat_of_nonneg (by omega), decide_eq_false (tk_nd hx a2)])) ?_
    refine itF rfl ?_
    have hX' := hX (i + 1) hlt (by omega)
    rw [tk1 hx] at hX'
    refine primS (.bool (decide ((0 : Int) < (i : Int)))) d_gtr ?_
    refine itD rfl (fun e1 => ?_) (fun e1 => ?_)
    · obtain ⟨j, rfl⟩ : ∃ j, i = j + 1 := ⟨i - 1, by omega⟩
      obtain ⟨y, hy⟩ : ∃ y, A[j]? = some y := ⟨_, List.getElem?_eq_getElem (by omega)⟩
      have hyr := a1 y (List.mem_of_getElem? hy)
      have hyl : y.toNat < rs.length := by omega
      refine primS (.int .i64 (j : Int)) ((d_sub64 (by omega) (by omega)).trans (by rw [show ((j + 1 : Nat) : Int) - 1 = (j : Int) by omega])) ?_
      refine primS (.bool true) (il_inb (by omega) (by omega)) ?_
      refine primS (.int .i64 y) (gt j y hy) ?_
      try simp only [List.cons_append, List.nil_append]
      refine primS (.bool true) (vl_inb (by omega) (by omega)) ?_
      try simp only [List.cons_append, List.nil_append]
      refine get_ptZ hyr.1 (List.getElem?_eq_getElem hyl) (fun _ => rfl) (fun _ => rfl) ?_
      simp only [gW, RV.l, List.cons_append, List.nil_append]
      refine call_step (f_ball_Far (nvs_at hp hyl) hc (by decide)) rfl ?_
      simp only [fa_agg, fa_nil, gD, List.cons_append, List.nil_append, List.append_nil]
      refine primS (.bool true) (il_inb (by omega) (by omega)) ?_
      refine primS (.int .i64 x) hg ?_
      refine primS (.bool true) (vl_inb (by omega) (by omega)) ?_
      try simp only [List.cons_append, List.nil_append]
      try simp only [List.cons_append, List.nil_append]
      refine get_ptZ hxr.1 (List.getElem?_eq_getElem hxl) (fun _ => rfl) (fun _ => rfl) ?_
      simp only [gW, RV.l, List.cons_append, List.nil_append]
      refine call_step (f_ball_Far (nvs_at hp hxl) hc (by decide)) rfl ?_
      simp only [fa_agg, fa_nil, gD, List.cons_append, List.nil_append, List.append_nil]
      refine call_step (n_rat_Cmp ((Num.of (Sm_far (nvs_at hp hyl).sm hc.sm)).mono (by decide)) ((Num.of (Sm_far (nvs_at hp hxl).sm hc.sm)).mono (by decide))) rfl ?_
      simp only [fa_one, fa_nil, List.cons_append, List.nil_append]
      have h3 := a3 j y x hy hx
      unfold fq at h3
      refine primS (.bool false) (d_gtr.trans (by rw [decide_eq_false fun z => absurd h3 (Rat.not_le.2 (cq_gt.1 z))])) ?_
      refine itF rfl ?_
      refine primS (.bool true) (il_inb (by omega) (by omega)) ?_
      refine primS (.int .i64 x) hg ?_
      refine primS (.bool true) (bl_inb (by omega) (by rw [mrk_len]; omega)) ?_
      try simp only [List.cons_append, List.nil_append]
      refine primS (bl (mrk (A.take (j + 1) ++ [x]) rs.length)) ((bl_set (by omega) (by rw [mrk_len]; omega)).trans (by rw [mrk_add (by omega) (by omega)])) ?_
      refine primS (.int .i64 ((j + 1 + 1 : Nat) : Int)) ((d_add64 (by omega) (by omega)).trans (by simp)) ?_
      exact jump_step rfl hX'
    · refine primS (.bool true) (il_inb (by omega) (by omega)) ?_
      try simp only [List.cons_append, List.nil_append]
      refine primS (.int .i64 x) hg ?_
      refine primS (.bool true) (bl_inb (by omega) (by rw [mrk_len]; omega)) ?_
      refine primS (bl (mrk (A.take i ++ [x]) rs.length)) ((bl_set (by omega) (by rw [mrk_len]; omega)).trans (by rw [mrk_add (by omega) (by omega)])) ?_
      try simp only [List.cons_append, List.nil_append]
      refine primS (.int .i64 ((i + 1 : Nat) : Int)) ((d_add64 (by omega) (by omega)).trans (by simp)) ?_
      exact jump_step rfl hX'
  refine primS (.bool false) (d_lss.trans (by rw [decide_eq_false (by omega)])) ?_
  refine itF rfl ?_
  rw [show A.take i = A from List.take_of_length_le (by omega)]
  try simp only [List.cons_append, List.nil_append]
  refine loop_st (fun i : Nat => [vl rs, il A, .int .i64 (i : Int), .bool rc.x.neg, nl rc.x.num, nl rc.x.den, .bool rc.y.neg, nl rc.y.num, nl rc.y.den, .bool rc.z.neg, nl rc.z.num, nl rc.z.den, kl T, bl (mrk A rs.length)]) (fun i => i ≤ rs.length) (fun i => rs.length - i) 0 (Nat.zero_le _) rfl (fun _ => rfl) fun i hi X hX => ?_
  refine primS (.int .i64 (rs.length : Int)) rfl ?_
  by_cases hlt : i < rs.length
  · refine primS (.bool true) (d_lss.trans (by rw [decide_eq_true (by omega)])) ?_
    refine itT rfl ?_
    obtain ⟨x, kO, x0, x1, x2⟩ := hOwn i hlt
    have xl : x.toNat < rs.length := by omega
    have kF := f_ball_Far (nvs_at hp xl) (nvs_at hp hlt) (by decide)
    rw [x2] at kF
    refine primS (.bool true) (bl_inb (by omega) (by rw [mrk_len]; omega)) ?_
    refine primS (.bool (decide ((i : Int) ∈ A))) ((bl_get (by omega) (by rw [mrk_len]; omega)).trans (by rw [Int.toNat_natCast, mrk_get hlt])) ?_
    refine primS (.bool (!decide ((i : Int) ∈ A))) rfl ?_
    try simp only [List.cons_append, List.nil_append]
    refine itN rfl (fun e1 => ?_) (fun e1 => ?_)
    · refine primS (.int .i64 (A.length : Int)) rfl ?_
      refine primS (.bool (decide ((0 : Int) < (A.length : Int)))) d_gtr ?_
      refine itD rfl (fun e2 => ?_) (fun e2 => ?_)
      · obtain ⟨n, hn⟩ : ∃ n, A.length = n + 1 := ⟨A.length - 1, by omega⟩
        obtain ⟨y, hy⟩ : ∃ y, A[n]? = some y := ⟨_, List.getElem?_eq_getElem (by omega)⟩
        have hyr := a1 y (List.mem_of_getElem? hy)
        have hyl : y.toNat < rs.length := by omega
        refine primS (.bool true) (vl_inb (by omega) (by omega)) ?_
        try simp only [List.cons_append, List.nil_append]
        refine get_pt (List.getElem?_eq_getElem hlt) (fun _ => rfl) (fun _ => rfl) ?_
        simp only [gW, RV.l, List.cons_append, List.nil_append]
        refine call_step (f_ball_Far (nvs_at hp hlt) hc (by decide)) rfl ?_
        simp only [fa_agg, fa_nil, gD, List.cons_append, List.nil_append, List.append_nil]
        refine primS (.int .i64 (A.length : Int)) rfl ?_
        refine primS (.int .i64 (n : Int)) ((d_sub64 (by omega) (by omega)).trans (by rw [show (A.length : Int) - 1 = (n : Int) by omega])) ?_
        refine primS (.bool true) (il_inb (by omega) (by omega)) ?_
        try simp only [List.cons_append, List.nil_append]
        refine primS (.int .i64 y) (by rw [show (List.map _ _ : List DV) = [il A, .int .i64 (n : Int)] from rfl, il_get (by omega) (by omega), Int.toNat_natCast, List.getD_eq_getElem?_getD, hy]; rfl) ?_
        refine primS (.bool true) (vl_inb (by omega) (by omega)) ?_
        try simp only [List.cons_append, List.nil_append]
        refine get_ptZ hyr.1 (List.getElem?_eq_getElem hyl) (fun _ => rfl) (fun _ => rfl) ?_
        simp only [gW, RV.l, List.cons_append, List.nil_append]
        refine call_step (f_ball_Far (nvs_at hp hyl) hc (by decide)) rfl ?_
        simp only [fa_agg, fa_nil, gD, List.cons_append, List.nil_append, List.append_nil]
        refine call_step (n_rat_Cmp ((Num.of (Sm_far (nvs_at hp hlt).sm hc.sm)).mono (by decide)) ((Num.of (Sm_far (nvs_at hp hyl).sm hc.sm)).mono (by decide))) rfl ?_
        simp only [fa_one, fa_nil, List.cons_append, List.nil_append]
        have h4 := a4 (i : Int) y n (by omega) (by omega) e1 hy
        unfold fq at h4
        rw [Int.toNat_natCast] at h4
        refine primS (.bool false) (d_lss.trans (by rw [decide_eq_false fun z => absurd h4 (Rat.not_le.2 (cq_lt.1 z))])) ?_
        refine itF rfl ?_
        refine primS (.bool true) (vl_inb (by omega) (by omega)) ?_
        try simp only [List.cons_append, List.nil_append]
        refine get_pt (List.getElem?_eq_getElem hlt) (fun _ => rfl) (fun _ => rfl) ?_
        simp only [gW, RV.l, List.cons_append, List.nil_append]
        refine call_step kO rfl ?_
        simp only [fa_one, fa_nil, List.cons_append, List.nil_append]
        refine primS (.bool (decide ((i : Int) < 10))) d_lss ?_
        refine itD rfl (fun e9 => ?_) (fun e9 => ?_)
        · refine primS (.int .i64 1) rfl ?_
          refine primS (.bool false) rfl ?_
          refine itF rfl ?_
          refine primS (.bool true) rfl ?_
          refine primS (.int .i64 x) rfl ?_
          refine primS (.bool false) (d_lss.trans (by rw [decide_eq_false (by omega)])) ?_
          try simp only [List.cons_append, List.nil_append]
          refine itF rfl ?_
          refine primS (.bool true) rfl ?_
          refine primS (.int .i64 x) rfl ?_
          refine primS (.bool false) (d_gtr.trans (by rw [decide_eq_false (by omega)])) ?_
          try simp only [List.cons_append, List.nil_append]
          refine itF rfl ?_
          refine primS (.bool true) rfl ?_
          refine primS (.int .i64 x) rfl ?_
          refine primS (.bool true) (vl_inb x0 (by omega)) ?_
          try simp only [List.cons_append, List.nil_append]
          try simp only [List.cons_append, List.nil_append]
          refine get_ptZ x0 (List.getElem?_eq_getElem xl) (fun _ => rfl) (fun _ => rfl) ?_
          simp only [gW, RV.l, List.cons_append, List.nil_append]
          refine primS (.bool true) (vl_inb (by omega) (by omega)) ?_
          try simp only [List.cons_append, List.nil_append]
          refine get_pt (List.getElem?_eq_getElem hlt) (fun _ => rfl) (fun _ => rfl) ?_
          simp only [gW, RV.l, List.cons_append, List.nil_append]
          refine call_step kF rfl ?_
          simp only [fa_agg, fa_nil, gD, List.cons_append, List.nil_append, List.append_nil]
          refine call_step (f_rat_Sign (Num.of Sm0) (by decide)) rfl ?_
          simp only [fa_one, fa_nil, List.cons_append, List.nil_append]
          refine primS (.bool false) (d_neq.trans (by rw [decide_eq_false (by decide +kernel)])) ?_
          refine itF rfl ?_
          refine primS (.int .i64 ((i + 1 : Nat) : Int)) ((d_add64 (by omega) (by omega)).trans (by simp)) ?_
          exact jump_step rfl (hX (i + 1) hlt (by omega))
        · refine primS (.int .i64 ((i + 1 : Nat) : Int)) ((d_add64 (by omega) (by omega)).trans (by simp)) ?_
          exact jump_step rfl (hX (i + 1) hlt (by omega))
      ·
        refine primS (.bool true) (vl_inb (by omega) (by omega)) ?_
        try simp only [List.cons_append, List.nil_append]
        try simp only [List.cons_append, List.nil_append]
        refine get_pt (List.getElem?_eq_getElem hlt) (fun _ => rfl) (fun _ => rfl) ?_
        simp only [gW, RV.l, List.cons_append, List.nil_append]
        refine call_step kO rfl ?_
        simp only [fa_one, fa_nil, List.cons_append, List.nil_append]
        refine primS (.bool (decide ((i : Int) < 10))) d_lss ?_
        refine itD rfl (fun e9 => ?_) (fun e9 => ?_)
        · refine primS (.int .i64 1) rfl ?_
          refine primS (.bool false) rfl ?_
          refine itF rfl ?_
          refine primS (.bool true) rfl ?_
          refine primS (.int .i64 x) rfl ?_
          refine primS (.bool false) (d_lss.trans (by rw [decide_eq_false (by omega)])) ?_
          try simp only [List.cons_append, List.nil_append]
          refine itF rfl ?_
          refine primS (.bool true) rfl ?_
          refine primS (.int .i64 x) rfl ?_
          refine primS (.bool false) (d_gtr.trans (by rw [decide_eq_false (by omega)])) ?_
          try simp only [List.cons_append, List.nil_append]
          refine itF rfl ?_
          refine primS (.bool true) rfl ?_
          refine primS (.int .i64 x) rfl ?_
          refine primS (.bool true) (vl_inb x0 (by omega)) ?_
          try simp only [List.cons_append, List.nil_append]
          try simp only [List.cons_append, List.nil_append]
          refine get_ptZ x0 (List.getElem?_eq_getElem xl) (fun _ => rfl) (fun _ => rfl) ?_
          simp only [gW, RV.l, List.cons_append, List.nil_append]
          refine primS (.bool true) (vl_inb (by omega) (by omega)) ?_
          try simp only [List.cons_append, List.nil_append]
          refine get_pt (List.getElem?_eq_getElem hlt) (fun _ => rfl) (fun _ => rfl) ?_
          simp only [gW, RV.l, List.cons_append, List.nil_append]
          refine call_step kF rfl ?_
          simp only [fa_agg, fa_nil, gD, List.cons_append, List.nil_append, List.append_nil]
          refine call_step (f_rat_Sign (Num.of Sm0) (by decide)) rfl ?_
          simp only [fa_one, fa_nil, List.cons_append, List.nil_append]
          refine primS (.bool false) (d_neq.trans (by rw [decide_eq_false (by decide +kernel)])) ?_
          refine itF rfl ?_
          refine primS (.int .i64 ((i + 1 : Nat) : Int)) ((d_add64 (by omega) (by omega)).trans (by simp)) ?_
          exact jump_step rfl (hX (i + 1) hlt (by omega))
        · refine primS (.int .i64 ((i + 1 : Nat) : Int)) ((d_add64 (by omega) (by omega)).trans (by simp)) ?_
          exact jump_step rfl (hX (i + 1) hlt (by omega))
    ·
      refine primS (.bool true) (vl_inb (by omega) (by omega)) ?_
      try simp only [List.cons_append, List.nil_append]
      try simp only [List.cons_append, List.nil_append]
      refine get_pt (List.getElem?_eq_getElem hlt) (fun _ => rfl) (fun _ => rfl) ?_
      simp only [gW, RV.l, List.cons_append, List.nil_append]
      refine call_step kO rfl ?_
      simp only [fa_one, fa_nil, List.cons_append, List.nil_append]
      refine primS (.bool (decide ((i : Int) < 10))) d_lss ?_
      refine itD rfl (fun e9 => ?_) (fun e9 => ?_)
      · refine primS (.int .i64 1) rfl ?_
        refine primS (.bool false) rfl ?_
        refine itF rfl ?_
        refine primS (.bool true) rfl ?_
        refine primS (.int .i64 x) rfl ?_
        refine primS (.bool false) (d_lss.trans (by rw [decide_eq_false (by omega)])) ?_
        try simp only [List.cons_append, List.nil_append]
        refine itF rfl ?_
        refine primS (.bool true) rfl ?_
        refine primS (.int .i64 x) rfl ?_
        refine primS (.bool false) (d_gtr.trans (by rw [decide_eq_false (by omega)])) ?_
        try simp only [List.cons_append, List.nil_append]
        refine itF rfl ?_
        refine primS (.bool true) rfl ?_
        refine primS (.int .i64 x) rfl ?_
        refine primS (.bool true) (vl_inb x0 (by omega)) ?_
        try simp only [List.cons_append, List.nil_append]
        try simp only [List.cons_append, List.nil_append]
        refine get_ptZ x0 (List.getElem?_eq_getElem xl) (fun _ => rfl) (fun _ => rfl) ?_
        simp only [gW, RV.l, List.cons_append, List.nil_append]
        refine primS (.bool true) (vl_inb (by omega) (by omega)) ?_
        try simp only [List.cons_append, List.nil_append]
        refine get_pt (List.getElem?_eq_getElem hlt) (fun _ => rfl) (fun _ => rfl) ?_
        simp only [gW, RV.l, List.cons_append, List.nil_append]
        refine call_step kF rfl ?_
        simp only [fa_agg, fa_nil, gD, List.cons_append, List.nil_append, List.append_nil]
        refine call_step (f_rat_Sign (Num.of Sm0) (by decide)) rfl ?_
        simp only [fa_one, fa_nil, List.cons_append, List.nil_append]
        refine primS (.bool false) (d_neq.trans (by rw [decide_eq_false (by decide +kernel)])) ?_
        refine itF rfl ?_
        refine primS (.int .i64 ((i + 1 : Nat) : Int)) ((d_add64 (by omega) (by omega)).trans (by simp)) ?_
        exact jump_step rfl (hX (i + 1) hlt (by omega))
      · refine primS (.int .i64 ((i + 1 : Nat) : Int)) ((d_add64 (by omega) (by omega)).trans (by simp)) ?_
        exact jump_step rfl (hX (i + 1) hlt (by omega))
  · refine primS (.bool false) (d_lss.trans (by rw [decide_eq_false (by omega)])) ?_
    try simp only [List.cons_append, List.nil_append]
    refine itF rfl ?_
    exact ret_step rfl
end Go.Px.Na

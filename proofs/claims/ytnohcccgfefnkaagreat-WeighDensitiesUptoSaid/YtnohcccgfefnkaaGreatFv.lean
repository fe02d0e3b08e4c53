/- Fv: the document's answers: on which pixel a spot is seen; how densely a spot is met; the inverse of a map. -/
import Derived.Test.YtnohcccgfefnkaaGreatFz
set_option maxRecDepth 40000
set_option maxHeartbeats 40000000
set_option linter.unusedVariables false
set_option linter.unusedSimpArgs false
namespace Go.Px
open Go.RowKit
def ir_penumbraref16_Film : IR :=
 .prim (.bin .lss) [.var 18, .int .i64 (1)] <|
 .ite (.var 77) (
  .call F.penumbraref03_Zero [] [.agg 3] <|
  .ret [.one (.int .i64 (0)), .agg [.var 78, .var 79, .var 80], .one (.bol false)]) (
  .prim (.bin .gtr) [.var 18, .int .i64 (16)] <|
  .ite (.var 78) (
   .call F.penumbraref03_Zero [] [.agg 3] <|
   .ret [.one (.int .i64 (0)), .agg [.var 79, .var 80, .var 81], .one (.bol false)]) (
   .prim (.bin .lss) [.var 19, .int .i64 (1)] <|
   .ite (.var 79) (
    .call F.penumbraref03_Zero [] [.agg 3] <|
    .ret [.one (.int .i64 (0)), .agg [.var 80, .var 81, .var 82], .one (.bol false)]) (
    .prim (.bin .gtr) [.var 19, .int .i64 (16)] <|
    .ite (.var 80) (
     .call F.penumbraref03_Zero [] [.agg 3] <|
     .ret [.one (.int .i64 (0)), .agg [.var 81, .var 82, .var 83], .one (.bol false)]) (
     .call F.penumbraref03_Sign [.agg [.var 20, .var 21, .var 22]] [.one] <|
     .prim (.bin .leq) [.var 81, .int .i64 (0)] <|
     .ite (.var 82) (
      .call F.penumbraref03_Zero [] [.agg 3] <|
      .ret [.one (.int .i64 (0)), .agg [.var 83, .var 84, .var 85], .one (.bol false)]) (
      .call F.penumbraref16_Seen [.agg [.var 0, .var 1, .var 2, .var 3, .var 4, .var 5, .var 6, .var 7, .var 8, .var 9, .var 10, .var 11, .var 12, .var 13, .var 14, .var 15, .var 16, .var 17], .agg [.var 23, .var 24, .var 25, .var 26, .var 27, .var 28, .var 29, .var 30, .var 31, .var 32, .var 33, .var 34, .var 35, .var 36, .var 37, .var 38, .var 39, .var 40], .agg [.var 41, .var 42, .var 43, .var 44, .var 45, .var 46, .var 47, .var 48, .var 49, .var 50, .var 51, .var 52, .var 53, .var 54, .var 55, .var 56, .var 57, .var 58, .var 59, .var 60, .var 61, .var 62, .var 63, .var 64, .var 65, .var 66, .var 67, .var 68, .var 69, .var 70, .var 71, .var 72, .var 73, .var 74, .var 75, .var 76]] [.one] <|
      .prim .not [.var 83] <|
      .ite (.var 84) (
       .call F.penumbraref03_Zero [] [.agg 3] <|
       .ret [.one (.int .i64 (0)), .agg [.var 85, .var 86, .var 87], .one (.bol false)]) (
       .call F.penumbraref16_Slopes [.agg [.var 0, .var 1, .var 2, .var 3, .var 4, .var 5, .var 6, .var 7, .var 8, .var 9, .var 10, .var 11, .var 12, .var 13, .var 14, .var 15, .var 16, .var 17], .agg [.var 23, .var 24, .var 25, .var 26, .var 27, .var 28, .var 29, .var 30, .var 31, .var 32, .var 33, .var 34, .var 35, .var 36, .var 37, .var 38, .var 39, .var 40], .agg [.var 41, .var 42, .var 43, .var 44, .var 45, .var 46, .var 47, .var 48, .var 49, .var 50, .var 51, .var 52, .var 53, .var 54, .var 55, .var 56, .var 57, .var 58, .var 59, .var 60, .var 61, .var 62, .var 63, .var 64, .var 65, .var 66, .var 67, .var 68, .var 69, .var 70, .var 71, .var 72, .var 73, .var 74, .var 75, .var 76]] [.agg 3, .agg 3, .agg 3] <|
       .call F.penumbraref16_Side [.agg [.var 20, .var 21, .var 22], .one (.var 18)] [.agg 3] <|
       .call F.penumbraref16_Side [.agg [.var 20, .var 21, .var 22], .one (.var 19)] [.agg 3] <|
       .loop [.int .i64 (0), .var 0, .var 1, .var 2, .var 3, .var 4, .var 5, .var 6, .var 7, .var 8, .var 9, .var 10, .var 11, .var 12, .var 13, .var 14, .var 15, .var 16, .var 17, .var 18, .var 19, .var 20, .var 21, .var 22, .var 23, .var 24, .var 25, .var 26, .var 27, .var 28, .var 29, .var 30, .var 31, .var 32, .var 33, .var 34, .var 35, .var 36, .var 37, .var 38, .var 39, .var 40, .var 41, .var 42, .var 43, .var 44, .var 45, .var 46, .var 47, .var 48, .var 49, .var 50, .var 51, .var 52, .var 53, .var 54, .var 55, .var 56, .var 57, .var 58, .var 59, .var 60, .var 61, .var 62, .var 63, .var 64, .var 65, .var 66, .var 67, .var 68, .var 69, .var 70, .var 71, .var 72, .var 73, .var 74, .var 75, .var 76, .var 85, .var 86, .var 87, .var 88, .var 89, .var 90, .var 91, .var 92, .var 93, .var 94, .var 95, .var 96, .var 97, .var 98, .var 99] (
        .prim (.bin .lss) [.var 0, .var 20] <|
        .ite (.var 93) (
         .loop [.var 0, .int .i64 (0), .var 1, .var 2, .var 3, .var 4, .var 5, .var 6, .var 7, .var 8, .var 9, .var 10, .var 11, .var 12, .var 13, .var 14, .var 15, .var 16, .var 17, .var 18, .var 19, .var 20, .var 21, .var 22, .var 23, .var 24, .var 25, .var 26, .var 27, .var 28, .var 29, .var 30, .var 31, .var 32, .var 33, .var 34, .var 35, .var 36, .var 37, .var 38, .var 39, .var 40, .var 41, .var 42, .var 43, .var 44, .var 45, .var 46, .var 47, .var 48, .var 49, .var 50, .var 51, .var 52, .var 53, .var 54, .var 55, .var 56, .var 57, .var 58, .var 59, .var 60, .var 61, .var 62, .var 63, .var 64, .var 65, .var 66, .var 67, .var 68, .var 69, .var 70, .var 71, .var 72, .var 73, .var 74, .var 75, .var 76, .var 77, .var 78, .var 79, .var 80, .var 81, .var 82, .var 83, .var 84, .var 85, .var 86, .var 87, .var 88, .var 89, .var 90, .var 91, .var 92] (
          .prim (.bin .lss) [.var 1, .var 20] <|
          .ite (.var 94) (
           .call F.penumbraref03_Add [.agg [.var 79, .var 80, .var 81], .agg [.var 22, .var 23, .var 24]] [.agg 3] <|
           .call F.penumbraref03_Of [.one (.var 1), .one (.int .i64 (1))] [.agg 3] <|
           .call F.penumbraref03_Mul [.agg [.var 98, .var 99, .var 100], .agg [.var 88, .var 89, .var 90]] [.agg 3] <|
           .call F.penumbraref03_Sub [.agg [.var 95, .var 96, .var 97], .agg [.var 101, .var 102, .var 103]] [.agg 3] <|
           .call F.penumbraref03_Add [.agg [.var 82, .var 83, .var 84], .agg [.var 22, .var 23, .var 24]] [.agg 3] <|
           .call F.penumbraref03_Of [.one (.var 0), .one (.int .i64 (1))] [.agg 3] <|
           .call F.penumbraref03_Mul [.agg [.var 110, .var 111, .var 112], .agg [.var 91, .var 92, .var 93]] [.agg 3] <|
           .call F.penumbraref03_Sub [.agg [.var 107, .var 108, .var 109], .agg [.var 113, .var 114, .var 115]] [.agg 3] <|
           .call F.penumbraref03_Sign [.agg [.var 104, .var 105, .var 106]] [.one] <|
           .prim (.bin .geq) [.var 119, .int .i64 (0)] <|
           .ite (.var 120) (
            .call F.penumbraref03_Cmp [.agg [.var 104, .var 105, .var 106], .agg [.var 88, .var 89, .var 90]] [.one] <|
            .prim (.bin .lss) [.var 121, .int .i64 (0)] <|
            .ite (.var 122) (
             .call F.penumbraref03_Sign [.agg [.var 116, .var 117, .var 118]] [.one] <|
             .prim (.bin .geq) [.var 123, .int .i64 (0)] <|
             .ite (.var 124) (
              .call F.penumbraref03_Cmp [.agg [.var 116, .var 117, .var 118], .agg [.var 91, .var 92, .var 93]] [.one] <|
              .prim (.bin .lss) [.var 125, .int .i64 (0)] <|
              .ite (.var 126) (
               .prim (.bin .mul) [.var 0, .var 20] <|
               .prim (.bin .add) [.var 127, .var 1] <|
               .call F.penumbraref16_Wide [.agg [.var 2, .var 3, .var 4, .var 5, .var 6, .var 7, .var 8, .var 9, .var 10, .var 11, .var 12, .var 13, .var 14, .var 15, .var 16, .var 17, .var 18, .var 19], .agg [.var 25, .var 26, .var 27, .var 28, .var 29, .var 30, .var 31, .var 32, .var 33, .var 34, .var 35, .var 36, .var 37, .var 38, .var 39, .var 40, .var 41, .var 42], .agg [.var 43, .var 44, .var 45, .var 46, .var 47, .var 48, .var 49, .var 50, .var 51, .var 52, .var 53, .var 54, .var 55, .var 56, .var 57, .var 58, .var 59, .var 60, .var 61, .var 62, .var 63, .var 64, .var 65, .var 66, .var 67, .var 68, .var 69, .var 70, .var 71, .var 72, .var 73, .var 74, .var 75, .var 76, .var 77, .var 78]] [.agg 3] <|
               .call F.penumbraref03_Abs [.agg [.var 129, .var 130, .var 131]] [.agg 3] <|
               .call F.penumbraref16_three [.agg [.var 85, .var 86, .var 87]] [.agg 3] <|
               .call F.penumbraref03_Mul [.agg [.var 88, .var 89, .var 90], .agg [.var 91, .var 92, .var 93]] [.agg 3] <|
               .call F.penumbraref03_Mul [.agg [.var 135, .var 136, .var 137], .agg [.var 138, .var 139, .var 140]] [.agg 3] <|
               .call F.penumbraref03_Over [.agg [.var 132, .var 133, .var 134], .agg [.var 141, .var 142, .var 143]] [.agg 3] <|
               .ret [.one (.var 128), .agg [.var 144, .var 145, .var 146], .one (.bol true)]) (
               .prim (.bin .add) [.var 1, .int .i64 (1)] <|
               .jump 1 [.var 0, .var 127, .var 2, .var 3, .var 4, .var 5, .var 6, .var 7, .var 8, .var 9, .var 10, .var 11, .var 12, .var 13, .var 14, .var 15, .var 16, .var 17, .var 18, .var 19, .var 20, .var 21, .var 22, .var 23, .var 24, .var 25, .var 26, .var 27, .var 28, .var 29, .var 30, .var 31, .var 32, .var 33, .var 34, .var 35, .var 36, .var 37, .var 38, .var 39, .var 40, .var 41, .var 42, .var 43, .var 44, .var 45, .var 46, .var 47, .var 48, .var 49, .var 50, .var 51, .var 52, .var 53, .var 54, .var 55, .var 56, .var 57, .var 58, .var 59, .var 60, .var 61, .var 62, .var 63, .var 64, .var 65, .var 66, .var 67, .var 68, .var 69, .var 70, .var 71, .var 72, .var 73, .var 74, .var 75, .var 76, .var 77, .var 78, .var 79, .var 80, .var 81, .var 82, .var 83, .var 84, .var 85, .var 86, .var 87, .var 88, .var 89, .var 90, .var 91, .var 92, .var 93])) (
              .prim (.bin .add) [.var 1, .int .i64 (1)] <|
              .jump 1 [.var 0, .var 125, .var 2, .var 3, .var 4, .var 5, .var 6, .var 7, .var 8, .var 9, .var 10, .var 11, .var 12, .var 13, .var 14, .var 15, .var 16, .var 17, .var 18, .var 19, .var 20, .var 21, .var 22, .var 23, .var 24, .var 25, .var 26, .var 27, .var 28, .var 29, .var 30, .var 31, .var 32, .var 33, .var 34, .var 35, .var 36, .var 37, .var 38, .var 39, .var 40, .var 41, .var 42, .var 43, .var 44, .var 45, .var 46, .var 47, .var 48, .var 49, .var 50, .var 51, .var 52, .var 53, .var 54, .var 55, .var 56, .var 57, .var 58, .var 59, .var 60, .var 61, .var 62, .var 63, .var 64, .var 65, .var 66, .var 67, .var 68, .var 69, .var 70, .var 71, .var 72, .var 73, .var 74, .var 75, .var 76, .var 77, .var 78, .var 79, .var 80, .var 81, .var 82, .var 83, .var 84, .var 85, .var 86, .var 87, .var 88, .var 89, .var 90, .var 91, .var 92, .var 93])) (
             .prim (.bin .add) [.var 1, .int .i64 (1)] <|
             .jump 1 [.var 0, .var 123, .var 2, .var 3, .var 4, .var 5, .var 6, .var 7, .var 8, .var 9, .var 10, .var 11, .var 12, .var 13, .var 14, .var 15, .var 16, .var 17, .var 18, .var 19, .var 20, .var 21, .var 22, .var 23, .var 24, .var 25, .var 26, .var 27, .var 28, .var 29, .var 30, .var 31, .var 32, .var 33, .var 34, .var 35, .var 36, .var 37, .var 38, .var 39, .var 40, .var 41, .var 42, .var 43, .var 44, .var 45, .var 46, .var 47, .var 48, .var 49, .var 50, .var 51, .var 52, .var 53, .var 54, .var 55, .var 56, .var 57, .var 58, .var 59, .var 60, .var 61, .var 62, .var 63, .var 64, .var 65, .var 66, .var 67, .var 68, .var 69, .var 70, .var 71, .var 72, .var 73, .var 74, .var 75, .var 76, .var 77, .var 78, .var 79, .var 80, .var 81, .var 82, .var 83, .var 84, .var 85, .var 86, .var 87, .var 88, .var 89, .var 90, .var 91, .var 92, .var 93])) (
            .prim (.bin .add) [.var 1, .int .i64 (1)] <|
            .jump 1 [.var 0, .var 121, .var 2, .var 3, .var 4, .var 5, .var 6, .var 7, .var 8, .var 9, .var 10, .var 11, .var 12, .var 13, .var 14, .var 15, .var 16, .var 17, .var 18, .var 19, .var 20, .var 21, .var 22, .var 23, .var 24, .var 25, .var 26, .var 27, .var 28, .var 29, .var 30, .var 31, .var 32, .var 33, .var 34, .var 35, .var 36, .var 37, .var 38, .var 39, .var 40, .var 41, .var 42, .var 43, .var 44, .var 45, .var 46, .var 47, .var 48, .var 49, .var 50, .var 51, .var 52, .var 53, .var 54, .var 55, .var 56, .var 57, .var 58, .var 59, .var 60, .var 61, .var 62, .var 63, .var 64, .var 65, .var 66, .var 67, .var 68, .var 69, .var 70, .var 71, .var 72, .var 73, .var 74, .var 75, .var 76, .var 77, .var 78, .var 79, .var 80, .var 81, .var 82, .var 83, .var 84, .var 85, .var 86, .var 87, .var 88, .var 89, .var 90, .var 91, .var 92, .var 93])) (
           .prim (.bin .add) [.var 0, .int .i64 (1)] <|
           .jump 0 [.var 95, .var 2, .var 3, .var 4, .var 5, .var 6, .var 7, .var 8, .var 9, .var 10, .var 11, .var 12, .var 13, .var 14, .var 15, .var 16, .var 17, .var 18, .var 19, .var 20, .var 21, .var 22, .var 23, .var 24, .var 25, .var 26, .var 27, .var 28, .var 29, .var 30, .var 31, .var 32, .var 33, .var 34, .var 35, .var 36, .var 37, .var 38, .var 39, .var 40, .var 41, .var 42, .var 43, .var 44, .var 45, .var 46, .var 47, .var 48, .var 49, .var 50, .var 51, .var 52, .var 53, .var 54, .var 55, .var 56, .var 57, .var 58, .var 59, .var 60, .var 61, .var 62, .var 63, .var 64, .var 65, .var 66, .var 67, .var 68, .var 69, .var 70, .var 71, .var 72, .var 73, .var 74, .var 75, .var 76, .var 77, .var 78, .var 79, .var 80, .var 81, .var 82, .var 83, .var 84, .var 85, .var 86, .var 87, .var 88, .var 89, .var 90, .var 91, .var 92, .var 93]))) (
         .call F.penumbraref03_Zero [] [.agg 3] <|
         .ret [.one (.int .i64 (0)), .agg [.var 94, .var 95, .var 96], .one (.bol false)]))))))))

def ir_penumbraref14_Density : IR :=
 .call F.penumbraref03_One [] [.agg 3] <|
 .call F.penumbraref03_Abs [.agg [.var 0, .var 1, .var 2]] [.agg 3] <|
 .call F.penumbraref03_Add [.agg [.var 3, .var 4, .var 5], .agg [.var 6, .var 7, .var 8]] [.agg 3] <|
 .call F.penumbraref03_One [] [.agg 3] <|
 .call F.penumbraref03_Of [.one (.int .i64 (2)), .one (.int .i64 (1))] [.agg 3] <|
 .call F.penumbraref03_Mul [.agg [.var 9, .var 10, .var 11], .agg [.var 9, .var 10, .var 11]] [.agg 3] <|
 .call F.penumbraref03_Mul [.agg [.var 15, .var 16, .var 17], .agg [.var 18, .var 19, .var 20]] [.agg 3] <|
 .call F.penumbraref03_Over [.agg [.var 12, .var 13, .var 14], .agg [.var 21, .var 22, .var 23]] [.agg 3] <|
 .ret [.agg [.var 24, .var 25, .var 26]]

def ir_penumbraref16_Ahead : IR :=
 .call F.penumbraref16_Seen [.agg [.var 0, .var 1, .var 2, .var 3, .var 4, .var 5, .var 6, .var 7, .var 8, .var 9, .var 10, .var 11, .var 12, .var 13, .var 14, .var 15, .var 16, .var 17], .agg [.var 18, .var 19, .var 20, .var 21, .var 22, .var 23, .var 24, .var 25, .var 26, .var 27, .var 28, .var 29, .var 30, .var 31, .var 32, .var 33, .var 34, .var 35], .agg [.var 36, .var 37, .var 38, .var 39, .var 40, .var 41, .var 42, .var 43, .var 44, .var 45, .var 46, .var 47, .var 48, .var 49, .var 50, .var 51, .var 52, .var 53, .var 54, .var 55, .var 56, .var 57, .var 58, .var 59, .var 60, .var 61, .var 62, .var 63, .var 64, .var 65, .var 66, .var 67, .var 68, .var 69, .var 70, .var 71]] [.one] <|
 .prim .not [.var 72] <|
 .ite (.var 73) (
  .call F.penumbraref03_Zero [] [.agg 3] <|
  .ret [.agg [.var 74, .var 75, .var 76]]) (
  .call F.penumbraref16_Slopes [.agg [.var 0, .var 1, .var 2, .var 3, .var 4, .var 5, .var 6, .var 7, .var 8, .var 9, .var 10, .var 11, .var 12, .var 13, .var 14, .var 15, .var 16, .var 17], .agg [.var 18, .var 19, .var 20, .var 21, .var 22, .var 23, .var 24, .var 25, .var 26, .var 27, .var 28, .var 29, .var 30, .var 31, .var 32, .var 33, .var 34, .var 35], .agg [.var 36, .var 37, .var 38, .var 39, .var 40, .var 41, .var 42, .var 43, .var 44, .var 45, .var 46, .var 47, .var 48, .var 49, .var 50, .var 51, .var 52, .var 53, .var 54, .var 55, .var 56, .var 57, .var 58, .var 59, .var 60, .var 61, .var 62, .var 63, .var 64, .var 65, .var 66, .var 67, .var 68, .var 69, .var 70, .var 71]] [.agg 3, .agg 3, .agg 3] <|
  .call F.penumbraref14_Density [.agg [.var 74, .var 75, .var 76]] [.agg 3] <|
  .call F.penumbraref14_Density [.agg [.var 77, .var 78, .var 79]] [.agg 3] <|
  .call F.penumbraref03_Mul [.agg [.var 83, .var 84, .var 85], .agg [.var 86, .var 87, .var 88]] [.agg 3] <|
  .call F.penumbraref16_Wide [.agg [.var 0, .var 1, .var 2, .var 3, .var 4, .var 5, .var 6, .var 7, .var 8, .var 9, .var 10, .var 11, .var 12, .var 13, .var 14, .var 15, .var 16, .var 17], .agg [.var 18, .var 19, .var 20, .var 21, .var 22, .var 23, .var 24, .var 25, .var 26, .var 27, .var 28, .var 29, .var 30, .var 31, .var 32, .var 33, .var 34, .var 35], .agg [.var 36, .var 37, .var 38, .var 39, .var 40, .var 41, .var 42, .var 43, .var 44, .var 45, .var 46, .var 47, .var 48, .var 49, .var 50, .var 51, .var 52, .var 53, .var 54, .var 55, .var 56, .var 57, .var 58, .var 59, .var 60, .var 61, .var 62, .var 63, .var 64, .var 65, .var 66, .var 67, .var 68, .var 69, .var 70, .var 71]] [.agg 3] <|
  .call F.penumbraref03_Abs [.agg [.var 92, .var 93, .var 94]] [.agg 3] <|
  .call F.penumbraref03_Mul [.agg [.var 89, .var 90, .var 91], .agg [.var 95, .var 96, .var 97]] [.agg 3] <|
  .call F.penumbraref16_three [.agg [.var 80, .var 81, .var 82]] [.agg 3] <|
  .call F.penumbraref03_Over [.agg [.var 98, .var 99, .var 100], .agg [.var 101, .var 102, .var 103]] [.agg 3] <|
  .ret [.agg [.var 104, .var 105, .var 106]])

def ir_penumbraref07_Identity : IR :=
 .call F.penumbraref05_Of [.one (.int .i64 (1)), .one (.int .i64 (0)), .one (.int .i64 (0))] [.agg 9] <|
 .call F.penumbraref05_Of [.one (.int .i64 (0)), .one (.int .i64 (1)), .one (.int .i64 (0))] [.agg 9] <|
 .call F.penumbraref05_Of [.one (.int .i64 (0)), .one (.int .i64 (0)), .one (.int .i64 (1))] [.agg 9] <|
 .call F.penumbraref05_Zero [] [.agg 9] <|
 .ret [.agg [.var 0, .var 1, .var 2, .var 3, .var 4, .var 5, .var 6, .var 7, .var 8, .var 9, .var 10, .var 11, .var 12, .var 13, .var 14, .var 15, .var 16, .var 17, .var 18, .var 19, .var 20, .var 21, .var 22, .var 23, .var 24, .var 25, .var 26, .var 27, .var 28, .var 29, .var 30, .var 31, .var 32, .var 33, .var 34, .var 35]]

def ir_penumbraref07_Told : IR :=
 .call F.penumbraref05_Sub [.agg [.var 9, .var 10, .var 11, .var 12, .var 13, .var 14, .var 15, .var 16, .var 17], .agg [.var 0, .var 1, .var 2, .var 3, .var 4, .var 5, .var 6, .var 7, .var 8]] [.agg 9] <|
 .call F.penumbraref05_Sub [.agg [.var 18, .var 19, .var 20, .var 21, .var 22, .var 23, .var 24, .var 25, .var 26], .agg [.var 0, .var 1, .var 2, .var 3, .var 4, .var 5, .var 6, .var 7, .var 8]] [.agg 9] <|
 .call F.penumbraref05_Sub [.agg [.var 27, .var 28, .var 29, .var 30, .var 31, .var 32, .var 33, .var 34, .var 35], .agg [.var 0, .var 1, .var 2, .var 3, .var 4, .var 5, .var 6, .var 7, .var 8]] [.agg 9] <|
 .ret [.agg [.var 36, .var 37, .var 38, .var 45, .var 46, .var 47, .var 54, .var 55, .var 56, .var 39, .var 40, .var 41, .var 48, .var 49, .var 50, .var 57, .var 58, .var 59, .var 42, .var 43, .var 44, .var 51, .var 52, .var 53, .var 60, .var 61, .var 62, .var 0, .var 1, .var 2, .var 3, .var 4, .var 5, .var 6, .var 7, .var 8]]

def ir_penumbraref07_solve : IR :=
 .call F.penumbraref05_Cross [.agg [.var 3, .var 4, .var 5, .var 12, .var 13, .var 14, .var 21, .var 22, .var 23], .agg [.var 6, .var 7, .var 8, .var 15, .var 16, .var 17, .var 24, .var 25, .var 26]] [.agg 9] <|
 .call F.penumbraref05_Dot [.agg [.var 42, .var 43, .var 44, .var 45, .var 46, .var 47, .var 48, .var 49, .var 50], .agg [.var 51, .var 52, .var 53, .var 54, .var 55, .var 56, .var 57, .var 58, .var 59]] [.agg 3] <|
 .call F.penumbraref05_Cross [.agg [.var 42, .var 43, .var 44, .var 45, .var 46, .var 47, .var 48, .var 49, .var 50], .agg [.var 6, .var 7, .var 8, .var 15, .var 16, .var 17, .var 24, .var 25, .var 26]] [.agg 9] <|
 .call F.penumbraref05_Dot [.agg [.var 0, .var 1, .var 2, .var 9, .var 10, .var 11, .var 18, .var 19, .var 20], .agg [.var 63, .var 64, .var 65, .var 66, .var 67, .var 68, .var 69, .var 70, .var 71]] [.agg 3] <|
 .call F.penumbraref05_Cross [.agg [.var 3, .var 4, .var 5, .var 12, .var 13, .var 14, .var 21, .var 22, .var 23], .agg [.var 42, .var 43, .var 44, .var 45, .var 46, .var 47, .var 48, .var 49, .var 50]] [.agg 9] <|
 .call F.penumbraref05_Dot [.agg [.var 0, .var 1, .var 2, .var 9, .var 10, .var 11, .var 18, .var 19, .var 20], .agg [.var 75, .var 76, .var 77, .var 78, .var 79, .var 80, .var 81, .var 82, .var 83]] [.agg 3] <|
 .call F.penumbraref03_Over [.agg [.var 36, .var 37, .var 38], .agg [.var 39, .var 40, .var 41]] [.agg 3] <|
 .call F.penumbraref05_Scale [.agg [.var 87, .var 88, .var 89], .agg [.var 60, .var 61, .var 62, .var 72, .var 73, .var 74, .var 84, .var 85, .var 86]] [.agg 9] <|
 .ret [.agg [.var 90, .var 91, .var 92, .var 93, .var 94, .var 95, .var 96, .var 97, .var 98]]

def ir_penumbraref07_Inverse : IR :=
 .call F.penumbraref07_Det [.agg [.var 0, .var 1, .var 2, .var 3, .var 4, .var 5, .var 6, .var 7, .var 8, .var 9, .var 10, .var 11, .var 12, .var 13, .var 14, .var 15, .var 16, .var 17, .var 18, .var 19, .var 20, .var 21, .var 22, .var 23, .var 24, .var 25, .var 26, .var 27, .var 28, .var 29, .var 30, .var 31, .var 32, .var 33, .var 34, .var 35]] [.agg 3] <|
 .call F.penumbraref03_Sign [.agg [.var 36, .var 37, .var 38]] [.one] <|
 .prim (.bin .eql) [.var 39, .int .i64 (0)] <|
 .ite (.var 40) (
  .call F.penumbraref07_Identity [] [.agg 36] <|
  .ret [.agg [.var 41, .var 42, .var 43, .var 44, .var 45, .var 46, .var 47, .var 48, .var 49, .var 50, .var 51, .var 52, .var 53, .var 54, .var 55, .var 56, .var 57, .var 58, .var 59, .var 60, .var 61, .var 62, .var 63, .var 64, .var 65, .var 66, .var 67, .var 68, .var 69, .var 70, .var 71, .var 72, .var 73, .var 74, .var 75, .var 76], .one (.bol false)]) (
  .call F.penumbraref03_One [] [.agg 3] <|
  .call F.penumbraref05_Zero [] [.agg 9] <|
  .call F.penumbraref05_Sub [.agg [.var 44, .var 45, .var 46, .var 47, .var 48, .var 49, .var 50, .var 51, .var 52], .agg [.var 27, .var 28, .var 29, .var 30, .var 31, .var 32, .var 33, .var 34, .var 35]] [.agg 9] <|
  .call F.penumbraref07_solve [.agg [.var 0, .var 1, .var 2, .var 3, .var 4, .var 5, .var 6, .var 7, .var 8, .var 9, .var 10, .var 11, .var 12, .var 13, .var 14, .var 15, .var 16, .var 17, .var 18, .var 19, .var 20, .var 21, .var 22, .var 23, .var 24, .var 25, .var 26, .var 27, .var 28, .var 29, .var 30, .var 31, .var 32, .var 33, .var 34, .var 35], .agg [.var 41, .var 42, .var 43], .agg [.var 36, .var 37, .var 38], .agg [.var 53, .var 54, .var 55, .var 56, .var 57, .var 58, .var 59, .var 60, .var 61]] [.agg 9] <|
  .call F.penumbraref05_Of [.one (.int .i64 (1)), .one (.int .i64 (0)), .one (.int .i64 (0))] [.agg 9] <|
  .call F.penumbraref07_solve [.agg [.var 0, .var 1, .var 2, .var 3, .var 4, .var 5, .var 6, .var 7, .var 8, .var 9, .var 10, .var 11, .var 12, .var 13, .var 14, .var 15, .var 16, .var 17, .var 18, .var 19, .var 20, .var 21, .var 22, .var 23, .var 24, .var 25, .var 26, .var 27, .var 28, .var 29, .var 30, .var 31, .var 32, .var 33, .var 34, .var 35], .agg [.var 41, .var 42, .var 43], .agg [.var 36, .var 37, .var 38], .agg [.var 71, .var 72, .var 73, .var 74, .var 75, .var 76, .var 77, .var 78, .var 79]] [.agg 9] <|
  .call F.penumbraref05_Add [.agg [.var 62, .var 63, .var 64, .var 65, .var 66, .var 67, .var 68, .var 69, .var 70], .agg [.var 80, .var 81, .var 82, .var 83, .var 84, .var 85, .var 86, .var 87, .var 88]] [.agg 9] <|
  .call F.penumbraref05_Of [.one (.int .i64 (0)), .one (.int .i64 (1)), .one (.int .i64 (0))] [.agg 9] <|
  .call F.penumbraref07_solve [.agg [.var 0, .var 1, .var 2, .var 3, .var 4, .var 5, .var 6, .var 7, .var 8, .var 9, .var 10, .var 11, .var 12, .var 13, .var 14, .var 15, .var 16, .var 17, .var 18, .var 19, .var 20, .var 21, .var 22, .var 23, .var 24, .var 25, .var 26, .var 27, .var 28, .var 29, .var 30, .var 31, .var 32, .var 33, .var 34, .var 35], .agg [.var 41, .var 42, .var 43], .agg [.var 36, .var 37, .var 38], .agg [.var 98, .var 99, .var 100, .var 101, .var 102, .var 103, .var 104, .var 105, .var 106]] [.agg 9] <|
  .call F.penumbraref05_Add [.agg [.var 62, .var 63, .var 64, .var 65, .var 66, .var 67, .var 68, .var 69, .var 70], .agg [.var 107, .var 108, .var 109, .var 110, .var 111, .var 112, .var 113, .var 114, .var 115]] [.agg 9] <|
  .call F.penumbraref05_Of [.one (.int .i64 (0)), .one (.int .i64 (0)), .one (.int .i64 (1))] [.agg 9] <|
  .call F.penumbraref07_solve [.agg [.var 0, .var 1, .var 2, .var 3, .var 4, .var 5, .var 6, .var 7, .var 8, .var 9, .var 10, .var 11, .var 12, .var 13, .var 14, .var 15, .var 16, .var 17, .var 18, .var 19, .var 20, .var 21, .var 22, .var 23, .var 24, .var 25, .var 26, .var 27, .var 28, .var 29, .var 30, .var 31, .var 32, .var 33, .var 34, .var 35], .agg [.var 41, .var 42, .var 43], .agg [.var 36, .var 37, .var 38], .agg [.var 125, .var 126, .var 127, .var 128, .var 129, .var 130, .var 131, .var 132, .var 133]] [.agg 9] <|
  .call F.penumbraref05_Add [.agg [.var 62, .var 63, .var 64, .var 65, .var 66, .var 67, .var 68, .var 69, .var 70], .agg [.var 134, .var 135, .var 136, .var 137, .var 138, .var 139, .var 140, .var 141, .var 142]] [.agg 9] <|
  .call F.penumbraref07_Told [.agg [.var 62, .var 63, .var 64, .var 65, .var 66, .var 67, .var 68, .var 69, .var 70], .agg [.var 89, .var 90, .var 91, .var 92, .var 93, .var 94, .var 95, .var 96, .var 97], .agg [.var 116, .var 117, .var 118, .var 119, .var 120, .var 121, .var 122, .var 123, .var 124], .agg [.var 143, .var 144, .var 145, .var 146, .var 147, .var 148, .var 149, .var 150, .var 151]] [.agg 36] <|
  .ret [.agg [.var 152, .var 153, .var 154, .var 155, .var 156, .var 157, .var 158, .var 159, .var 160, .var 161, .var 162, .var 163, .var 164, .var 165, .var 166, .var 167, .var 168, .var 169, .var 170, .var 171, .var 172, .var 173, .var 174, .var 175, .var 176, .var 177, .var 178, .var 179, .var 180, .var 181, .var 182, .var 183, .var 184, .var 185, .var 186, .var 187], .one (.bol true)])

theorem tree_penumbraref16_Film : symFunc Go.Proofs.Tryz.prog ⟨fun f => [].contains f, fun f i => if f = 32 ∧ i = 8 then [⟨[(3, .s (.one (.lp 0 0))), (4, .s (.one (.lp 1 0))), (5, .s (.one (.lp 2 0))), (7, .s (.one (.lp 3 0))), (9, .s (.one (.lp 4 0))), (10, .s (.one (.lp 5 0))), (11, .s (.one (.lp 6 0))), (12, .s (.one (.lp 7 0))), (13, .s (.one (.lp 8 0))), (14, .s (.one (.lp 9 0))), (15, .s (.one (.at (.var 0))))], [], [(0, .box [.at (.var 1), .at (.var 2), .at (.var 3), .at (.var 4), .at (.var 5), .at (.var 6), .at (.var 7), .at (.var 8), .at (.var 9), .at (.var 10), .at (.var 11), .at (.var 12), .at (.var 13), .at (.var 14), .at (.var 15), .at (.var 16), .at (.var 17), .at (.var 18), .at (.var 19), .at (.var 20), .at (.var 21), .at (.var 22), .at (.var 23)] 34 false), (1, .box [.at (.var 24), .at (.var 25), .at (.var 26), .at (.var 27), .at (.var 28), .at (.var 29), .at (.var 30), .at (.var 31), .at (.var 32), .at (.var 33), .at (.var 34), .at (.var 35), .at (.var 36), .at (.var 37), .at (.var 38), .at (.var 39), .at (.var 40), .at (.var 41)] 56 false), (2, .box [.at (.var 42), .at (.var 43), .at (.var 44), .at (.var 45), .at (.var 46), .at (.var 47), .at (.var 48), .at (.var 49), .at (.var 50), .at (.var 51), .at (.var 52), .at (.var 53), .at (.var 54), .at (.var 55), .at (.var 56), .at (.var 57), .at (.var 58), .at (.var 59), .at (.var 60), .at (.var 61), .at (.var 62), .at (.var 63), .at (.var 64), .at (.var 65), .at (.var 66), .at (.var 67), .at (.var 68), .at (.var 69), .at (.var 70), .at (.var 71), .at (.var 72), .at (.var 73), .at (.var 74), .at (.var 75), .at (.var 76), .at (.var 77)] 30 false), (3, .box [.at (.bol false), .nils, .nils] 24 false), (4, .box [.at (.var 1), .at (.var 2), .at (.var 3), .at (.var 4), .at (.var 5), .at (.var 6), .at (.var 7), .at (.var 8), .at (.var 9), .at (.var 10), .at (.var 11), .at (.var 12), .at (.var 13), .at (.var 14), .at (.var 15), .at (.var 16), .at (.var 17), .at (.var 18)] 56 false), (5, .box [.at (.var 78), .at (.var 79), .at (.var 80)] 24 false), (6, .box [.at (.var 81), .at (.var 82), .at (.var 83)] 24 false), (7, .box [.at (.var 84), .at (.var 85), .at (.var 86)] 24 false), (8, .box [.at (.var 87), .at (.var 88), .at (.var 89)] 24 false), (9, .box [.at (.var 90), .at (.var 91), .at (.var 92)] 24 false)], 10, 93⟩] else if f = 32 ∧ i = 11 then [⟨[(3, .s (.one (.lp 0 0))), (4, .s (.one (.lp 1 0))), (5, .s (.one (.lp 2 0))), (7, .s (.one (.lp 3 0))), (9, .s (.one (.lp 4 0))), (10, .s (.one (.lp 5 0))), (11, .s (.one (.lp 6 0))), (12, .s (.one (.lp 7 0))), (13, .s (.one (.lp 8 0))), (14, .s (.one (.lp 9 0))), (15, .s (.one (.at (.var 0)))), (16, .s (.one (.at (.var 1))))], [], [(0, .box [.at (.var 2), .at (.var 3), .at (.var 4), .at (.var 5), .at (.var 6), .at (.var 7), .at (.var 8), .at (.var 9), .at (.var 10), .at (.var 11), .at (.var 12), .at (.var 13), .at (.var 14), .at (.var 15), .at (.var 16), .at (.var 17), .at (.var 18), .at (.var 19), .at (.var 20), .at (.var 21), .at (.var 22), .at (.var 23), .at (.var 24)] 34 false), (1, .box [.at (.var 25), .at (.var 26), .at (.var 27), .at (.var 28), .at (.var 29), .at (.var 30), .at (.var 31), .at (.var 32), .at (.var 33), .at (.var 34), .at (.var 35), .at (.var 36), .at (.var 37), .at (.var 38), .at (.var 39), .at (.var 40), .at (.var 41), .at (.var 42)] 56 false), (2, .box [.at (.var 43), .at (.var 44), .at (.var 45), .at (.var 46), .at (.var 47), .at (.var 48), .at (.var 49), .at (.var 50), .at (.var 51), .at (.var 52), .at (.var 53), .at (.var 54), .at (.var 55), .at (.var 56), .at (.var 57), .at (.var 58), .at (.var 59), .at (.var 60), .at (.var 61), .at (.var 62), .at (.var 63), .at (.var 64), .at (.var 65), .at (.var 66), .at (.var 67), .at (.var 68), .at (.var 69), .at (.var 70), .at (.var 71), .at (.var 72), .at (.var 73), .at (.var 74), .at (.var 75), .at (.var 76), .at (.var 77), .at (.var 78)] 30 false), (3, .box [.at (.bol false), .nils, .nils] 24 false), (4, .box [.at (.var 2), .at (.var 3), .at (.var 4), .at (.var 5), .at (.var 6), .at (.var 7), .at (.var 8), .at (.var 9), .at (.var 10), .at (.var 11), .at (.var 12), .at (.var 13), .at (.var 14), .at (.var 15), .at (.var 16), .at (.var 17), .at (.var 18), .at (.var 19)] 56 false), (5, .box [.at (.var 79), .at (.var 80), .at (.var 81)] 24 false), (6, .box [.at (.var 82), .at (.var 83), .at (.var 84)] 24 false), (7, .box [.at (.var 85), .at (.var 86), .at (.var 87)] 24 false), (8, .box [.at (.var 88), .at (.var 89), .at (.var 90)] 24 false), (9, .box [.at (.var 91), .at (.var 92), .at (.var 93)] 24 false)], 10, 94⟩] else [], fun f i => [], fun f => [].contains f, fun f => none⟩ 400 F.penumbraref16_Film [.agg 23, .agg 18, .agg 36] = some ir_penumbraref16_Film := by kernel_rfl
theorem tree_penumbraref14_Density : symFunc Go.Proofs.Tryz.prog H0 400 F.penumbraref14_Density [.agg 3] = some ir_penumbraref14_Density := by kernel_rfl
theorem tree_penumbraref16_Ahead : symFunc Go.Proofs.Tryz.prog H0 400 F.penumbraref16_Ahead [.agg 18, .agg 18, .agg 36] = some ir_penumbraref16_Ahead := by kernel_rfl
theorem tree_penumbraref07_Identity : symFunc Go.Proofs.Tryz.prog H0 400 F.penumbraref07_Identity [] = some ir_penumbraref07_Identity := by kernel_rfl
theorem tree_penumbraref07_Told : symFunc Go.Proofs.Tryz.prog H0 400 F.penumbraref07_Told [.agg 9, .agg 9, .agg 9, .agg 9] = some ir_penumbraref07_Told := by kernel_rfl
theorem tree_penumbraref07_solve : symFunc Go.Proofs.Tryz.prog H0 400 F.penumbraref07_solve [.agg 36, .agg 3, .agg 3, .agg 9] = some ir_penumbraref07_solve := by kernel_rfl
theorem tree_penumbraref07_Inverse : symFunc Go.Proofs.Tryz.prog H0 400 F.penumbraref07_Inverse [.agg 36] = some ir_penumbraref07_Inverse := by kernel_rfl
end Go.Px
namespace Go.Px.Na
open Go.RowKit
open Go.Proofs.Tryz (prog)
section
variable {L M K : Nat} {m : RM} {u : M4} {b : RS} {q : Sp} {rc : RCam} {c : Cam}
theorem fl_uniq {z : Rat} {k : Int} (h1 : (k : Rat) ≤ z) (h2 : z < (k : Rat) + 1) : z.floor = k := by
  have a1 := Rat.floor_le z
  have a2 := Rat.lt_floor_add_one z
  generalize z.floor = f at *
  have b1 : (f : Rat) < ((k + 1 : Int) : Rat) := by rw [Rat.intCast_add]; exact Std.lt_of_le_of_lt a1 h2
  have b2 : (k : Rat) < ((f + 1 : Int) : Rat) := Std.lt_of_le_of_lt h1 a2
  have b1 := Rat.intCast_lt_intCast.1 b1
  have b2 := Rat.intCast_lt_intCast.1 b2
  omega
theorem d_cmpQ_lt {x y : Rat} : Prim.den (.bin .lss) [.int .i64 (cmpQ x y), .int .i64 0] = some (.bool (decide (x < y))) := by
  rw [d_lss, show decide (cmpQ x y < 0) = decide (x < y) from decide_eq_decide.2 cq_lt]
/-- In which cell a number lies, told by two comparisons. -/
theorem cel_iff {a f p : Rat} (hp : 0 < p) (i : Int) : cel a (-f) p = i ↔ 0 ≤ a + f - (i : Rat) * p ∧ a + f - (i : Rat) * p < p := by
  have hne : p ≠ 0 := by grind
  have ez : (a - -f) / p * p = a + f := by rw [Rat.div_mul_cancel hne]; grind
  unfold cel
  constructor
  · intro h
    have h1 := Rat.floor_le ((a - -f) / p)
    have h2 := Rat.lt_floor_add_one ((a - -f) / p)
    rw [h] at h1 h2
    have k1 := Rat.mul_le_mul_of_nonneg_right h1 (Rat.le_of_lt hp)
    have k2 := Rat.mul_lt_mul_of_pos_right h2 hp
    rw [ez] at k1 k2
    rw [Rat.intCast_add, Rat.add_mul] at k2
    have : ((1 : Int) : Rat) * p = p := by rw [show ((1 : Int) : Rat) = 1 from rfl, Rat.one_mul]
    grind
  · rintro ⟨h1, h2⟩
    refine fl_uniq ?_ ?_
    · refine Classical.byContradiction fun hc => ?_
      have k := Rat.mul_lt_mul_of_pos_right (Rat.not_le.1 hc) hp
      rw [ez] at k
      grind
    · refine Classical.byContradiction fun hc => ?_
      have k := Rat.mul_le_mul_of_nonneg_right (Rat.not_lt.1 hc) (Rat.le_of_lt hp)
      rw [ez, Rat.add_mul, Rat.one_mul] at k
      grind
theorem Cam.px_pos (hw : 1 ≤ c.w ∧ c.w ≤ 16) (h : 0 < c.half) : 0 < c.px := by
  have h1 : (0 : Rat) < (c.w : Rat) := by have := Rat.intCast_lt_intCast.2 (show (0 : Int) < c.w by omega); simpa using this
  unfold Cam.px
  rw [Rat.div_def]
  exact Rat.mul_pos (Rat.mul_pos (by decide) (Rat.inv_pos.2 h1)) h
theorem Cam.py_pos (hw : 1 ≤ c.h ∧ c.h ≤ 16) (h : 0 < c.half) : 0 < c.py := by
  have h1 : (0 : Rat) < (c.h : Rat) := by have := Rat.intCast_lt_intCast.2 (show (0 : Int) < c.h by omega); simpa using this
  unfold Cam.py
  rw [Rat.div_def]
  exact Rat.mul_pos (Rat.mul_pos (by decide) (Rat.inv_pos.2 h1)) h
theorem fr_Film (h : NCam K rc c) (g : NS L b q) (k : NM M m u) (hl : K ≤ 100000000 ∧ L ≤ 100000000 ∧ M ≤ 100000000) :
    PureCalls prog F.penumbraref16_Film [.agg rc.c, .agg (gW b.l), .agg (gW m.l)] [.one (.int .i64 (c.idx q u)), .agg (gD [c.val q u]), .one (.bool (decide (c.on q u)))] := by
  obtain ⟨he, hk, hw, hh, hf⟩ := h
  replace he := he.mono hl.1
  replace hk := hk.mono hl.1
  replace hf := hf.mono hl.1
  replace g := g.mono hl.2.1
  replace k := k.mono hl.2.2
  have hsp : NS 100000000 ⟨rc.eye, rc.look⟩ c.sp := ⟨he, hk⟩
  refine symFunc_sound hmix tree_penumbraref16_Film (by kernel_rfl) rfl ?_
  unfold ir_penumbraref16_Film
  simp only [RCam.c]
  simp only [JJ]
  rw [hw, hh]
  have fin : ∀ {As : List (List DV → Prop)} {ρ : List DV} {v : List Px.A}, ¬c.on q u → (v.map (Px.A.ev ρ)) = gD [0] → IRwp prog As ρ (.ret [.one (.int .i64 0), .agg v, .one (.bol false)]) (fun x => x = [AV.one (.int .i64 (c.idx q u)), .agg (gD [c.val q u]), .one (.bool (decide (c.on q u)))]) := fun {_ _ _} hn hv => ret_step (by
    rw [show c.idx q u = 0 from if_neg hn, show c.val q u = 0 from if_neg hn, decide_eq_false hn]
    simp only [List.map_cons, List.map_nil, Arg.ev, hv]; rfl)
  refine primS (.bool (decide _)) d_lss ?_
  refine itD rfl (fun c1 => ?_) (fun c1 => ?_)
  · refine cs1 f_R3_Zero ?_
    simp only [JJ]
    exact fin (fun z => by have := z.1.1.1; omega) rfl
  refine primS (.bool (decide _)) d_gtr ?_
  refine itD rfl (fun c2 => ?_) (fun c2 => ?_)
  · refine cs1 f_R3_Zero ?_
    simp only [JJ]
    exact fin (fun z => by have := z.1.1.2; omega) rfl
  refine primS (.bool (decide _)) d_lss ?_
  refine itD rfl (fun c3 => ?_) (fun c3 => ?_)
  · refine cs1 f_R3_Zero ?_
    simp only [JJ]
    exact fin (fun z => by have := z.1.2.1; omega) rfl
  refine primS (.bool (decide _)) d_gtr ?_
  refine itD rfl (fun c4 => ?_) (fun c4 => ?_)
  · refine cs1 f_R3_Zero ?_
    simp only [JJ]
    exact fin (fun z => by have := z.1.2.2; omega) rfl
  have hW : 1 ≤ c.w ∧ c.w ≤ 16 := ⟨by omega, by omega⟩
  have hH : 1 ≤ c.h ∧ c.h ≤ 16 := ⟨by omega, by omega⟩
  refine call_step (f_R3_Sign hf (by decide)) rfl ?_
  simp only [JJ]
  refine primS (.bool (decide _)) pr_le ?_
  refine itD rfl (fun c5 => ?_) (fun c5 => ?_)
  · refine cs1 f_R3_Zero ?_
    simp only [JJ]
    exact fin (fun z => absurd z.2.1 (Rat.not_lt.2 c5)) rfl
  have c5 := Rat.not_le.1 c5
  refine call_step (fr_Seen hsp g k (by decide)) rfl ?_
  simp only [JJ]
  refine primS (.bool (!_)) rfl ?_
  refine itN rfl (fun c6 => ?_) (fun c6 => ?_)
  · refine cs1 f_R3_Zero ?_
    simp only [JJ]
    exact fin (fun z => c6 z.2.2.1) rfl
  refine call_step (fr_Slopes16 c6.1.1 hsp g k (by decide)) rfl ?_
  simp only [JJ]
  have nA := Num.of (SS.sA hsp.sm g.sm k.sm)
  have nB := Num.of (SS.sB hsp.sm g.sm k.sm)
  have nz := Num.of (SS.wz hsp.sm g.sm k.sm)
  refine cs1 (fr_Side hW hf (by decide)) ?_
  rw [show 2 / (c.w : Rat) * c.half = c.px from rfl]
  simp only [JJ]
  have np : Num 100000002 (cr c.px) c.px := Num.of ((Sm_2n hW).mul hf.sm |>.mono (by decide))
  refine cs1 (fr_Side hH hf (by decide)) ?_
  rw [show 2 / (c.h : Rat) * c.half = c.py from rfl]
  simp only [JJ]
  have nq : Num 100000002 (cr c.py) c.py := Num.of ((Sm_2n hH).mul hf.sm |>.mono (by decide))
  have hx := fun i => cel_iff (a := sA c.sp q u) (f := c.half) (c.px_pos hW c5) i
  have hy := fun i => cel_iff (a := sB c.sp q u) (f := c.half) (c.py_pos hH c5) i
  rw [show cel (sA c.sp q u) (-c.half) c.px = c.ci q u from rfl] at hx
  rw [show cel (sB c.sp q u) (-c.half) c.py = c.cj q u from rfl] at hy
  have hon : c.on q u ↔ (0 ≤ c.ci q u ∧ c.ci q u < c.w) ∧ (0 ≤ c.cj q u ∧ c.cj q u < c.h) := ⟨fun z => z.2.2.2, fun z => ⟨⟨hW, hH⟩, c5, c6, z⟩⟩
  have hidx : c.on q u → c.idx q u = c.cj q u * c.w + c.ci q u := fun ho => if_pos ho
  have hval : c.on q u → c.val q u = (wc c.sp q u).abs / (wz c.sp q u * (wz c.sp q u * wz c.sp q u) * (c.px * c.py)) := fun ho => by
    rw [show c.val q u = (wc c.sp q u).abs / (wz c.sp q u * wz c.sp q u * wz c.sp q u * c.px * c.py) from if_pos ho]
    congr 1; grind
  have hwide := fr_Wide hsp g k (by decide)
  have nW := Num.of (SS.wc hsp.sm g.sm k.sm)
  have Npx := np
  have hjn : ∀ j : Nat, (j : Int) < c.h → ((j + 1 : Nat) : Int) ≤ c.h := fun j h => by omega
  generalize hR : gW [rc.eye.x, rc.eye.y, rc.eye.z, rc.look.x, rc.look.y, rc.look.z] ++ [DV.int .i64 c.w, DV.int .i64 c.h] ++ gW [rc.half] ++ gW b.l ++ gW m.l ++ gD [sA c.sp q u, sB c.sp q u, wz c.sp q u, c.px, c.py] = R
  refine loop_st (fun j : Nat => .int .i64 (j : Int) :: R) (fun j => (j : Int) ≤ c.h ∧ ∀ j' : Nat, j' < j → ¬(c.cj q u = (j' : Int) ∧ 0 ≤ c.ci q u ∧ c.ci q u < c.w)) (fun j => c.h.toNat - j) 0 ⟨by omega, fun j' h => absurd h (Nat.not_lt_zero _)⟩ (by rw [← hR]; rfl) (fun j => by rw [← hR]; rfl) fun j ⟨hj1, hj2⟩ X hX => ?_
  subst hR
  simp only [gW, gD, RS.l, RV.l, RM.l, List.cons_append, List.nil_append, List.append_nil]
  refine primS (.bool (decide _)) d_lss ?_
  refine itD rfl (fun e1 => ?_) (fun e1 => ?_)
  · simp only [List.cons_append, List.nil_append]
    generalize hR : gW [rc.eye.x, rc.eye.y, rc.eye.z, rc.look.x, rc.look.y, rc.look.z] ++ [DV.int .i64 c.w, DV.int .i64 c.h] ++ gW [rc.half] ++ gW b.l ++ gW m.l ++ gD [sA c.sp q u, sB c.sp q u, wz c.sp q u, c.px, c.py] = R at hX
    refine loop_st (fun i : Nat => .int .i64 (j : Int) :: .int .i64 (i : Int) :: R) (fun i => (i : Int) ≤ c.w ∧ ∀ i' : Nat, i' < i → ¬(c.cj q u = (j : Int) ∧ c.ci q u = (i' : Int))) (fun i => c.w.toNat - i) 0 ⟨by omega, fun j' h => absurd h (Nat.not_lt_zero _)⟩ (by rw [← hR]; rfl) (fun j => by rw [← hR]; rfl) fun i ⟨hi1, hi2⟩ Y hY => ?_
    subst hR
    simp only [gW, gD, RS.l, RV.l, RM.l, List.cons_append, List.nil_append, List.append_nil]
    refine primS (.bool (decide _)) d_lss ?_
    refine itD rfl (fun e2 => ?_) (fun e2 => ?_)
    · have nx : ¬(c.cj q u = (j : Int) ∧ c.ci q u = (i : Int)) → Y (.int .i64 (j : Int) :: .int .i64 ((i + 1 : Nat) : Int) :: (gW [rc.eye.x, rc.eye.y, rc.eye.z, rc.look.x, rc.look.y, rc.look.z] ++ [DV.int .i64 c.w, DV.int .i64 c.h] ++ gW [rc.half] ++ gW b.l ++ gW m.l ++ gD [sA c.sp q u, sB c.sp q u, wz c.sp q u, c.px, c.py])) := fun hn =>
        hY (i + 1) ⟨by omega, fun i' h => by
          by_cases e : i' < i
          · exact hi2 i' e
          · obtain rfl : i' = i := by omega
            exact hn⟩ (by omega)
      simp only [List.cons_append, List.nil_append]
      refine cs1 (f_R3_Add nA hf (by decide)) ?_
      simp only [JJ]
      have m1 := Num.of (nA.sm.add hf.sm)
      have mi : Num 1 (cr ((i : Int) : Rat)) ((i : Int) : Rat) := Num.of (Sm_int (by omega) (by decide))
      refine cs1 (n_penumbraref03_Of (k0 := ((i : Int) : Rat)) (i : Int) 1 (by omega) (by omega) (by decide) (by decide) (ofQ_1 _).symm) ?_
      simp only [JJ]
      refine cs1 (f_R3_Mul mi np (by decide)) ?_
      simp only [JJ]
      have m2 := Num.of (mi.sm.mul np.sm)
      refine cs1 (f_R3_Sub m1 m2 (by decide)) ?_
      simp only [JJ]
      have ms := Num.of (m1.sm.sub m2.sm)
      refine cs1 (f_R3_Add nB hf (by decide)) ?_
      simp only [JJ]
      have m3 := Num.of (nB.sm.add hf.sm)
      have mj : Num 1 (cr ((j : Int) : Rat)) ((j : Int) : Rat) := Num.of (Sm_int (by omega) (by decide))
      refine cs1 (n_penumbraref03_Of (k0 := ((j : Int) : Rat)) (j : Int) 1 (by omega) (by omega) (by decide) (by decide) (ofQ_1 _).symm) ?_
      simp only [JJ]
      refine cs1 (f_R3_Mul mj nq (by decide)) ?_
      simp only [JJ]
      have m4 := Num.of (mj.sm.mul nq.sm)
      refine cs1 (f_R3_Sub m3 m4 (by decide)) ?_
      simp only [JJ]
      have mt := Num.of (m3.sm.sub m4.sm)
      have hxi := hx (i : Int)
      have hyj := hy (j : Int)
      refine call_step (f_R3_Sign ms (by decide)) rfl ?_
      simp only [JJ]
      refine primS (.bool (decide _)) pr_ge ?_
      refine itD rfl (fun t1 => ?_) (fun t1 => ?_)
      · refine call_step (n_penumbraref03_Cmp (ms.mono (by decide)) (np.mono (by decide))) rfl ?_
        simp only [JJ]
        refine primS (.bool (decide (sA c.sp q u + c.half - ((i : Int) : Rat) * c.px < c.px))) d_cmpQ_lt ?_
        refine itD rfl (fun t2 => ?_) (fun t2 => ?_)
        · refine call_step (f_R3_Sign mt (by decide)) rfl ?_
          simp only [JJ]
          refine primS (.bool (decide _)) pr_ge ?_
          refine itD rfl (fun t3 => ?_) (fun t3 => ?_)
          · refine call_step (n_penumbraref03_Cmp (mt.mono (by decide)) (nq.mono (by decide))) rfl ?_
            simp only [JJ]
            refine primS (.bool (decide (sB c.sp q u + c.half - ((j : Int) : Rat) * c.py < c.py))) d_cmpQ_lt ?_
            refine itD rfl (fun t4 => ?_) (fun t4 => ?_)
            · have hci : c.ci q u = (i : Int) := hxi.2 ⟨t1, t2⟩
              have hcj : c.cj q u = (j : Int) := hyj.2 ⟨t3, t4⟩
              have ho : c.on q u := hon.2 ⟨by omega, by omega⟩
              have b1 : (j : Int) * c.w ≤ 16 * 16 := Int.le_trans (Int.mul_le_mul_of_nonneg_right (show (j : Int) ≤ 16 by omega) (by omega)) (Int.mul_le_mul_of_nonneg_left hW.2 (by decide))
              have b2 : 0 ≤ (j : Int) * c.w := Int.mul_nonneg (by omega) (by omega)
              refine primS (.int .i64 ((j : Int) * c.w)) (d_mul64 (by omega) (by omega)) ?_
              refine primS (.int .i64 ((j : Int) * c.w + (i : Int))) (d_add64 (by omega) (by omega)) ?_
              simp only [List.cons_append, List.nil_append]
              refine cs1 hwide ?_
              simp only [JJ]
              refine cs1 (f_R3_Abs nW (by decide)) ?_
              simp only [JJ]
              have nWa := Num.of nW.sm.abs
              refine cs1 (fr_three nz (by decide)) ?_
              simp only [JJ]
              have n3 := Num.of (nz.sm.mul (nz.sm.mul nz.sm))
              refine cs1 (f_R3_Mul np nq (by decide)) ?_
              simp only [JJ]
              have npq := Num.of (np.sm.mul nq.sm)
              refine cs1 (f_R3_Mul n3 npq (by decide)) ?_
              simp only [JJ]
              have nden := Num.of (n3.sm.mul npq.sm)
              refine cs1 (f_R3_Over nWa nden (by decide)) ?_
              simp only [JJ]
              refine ret_step ?_
              rw [hidx ho, hval ho, decide_eq_true ho, hci, hcj]; rfl
            · refine primS (.int .i64 ((i + 1 : Nat) : Int)) ((d_add64 (by omega) (by omega)).trans (by simp)) ?_
              exact jump_step rfl (nx fun z => t4 (hyj.1 z.1).2)
          · refine primS (.int .i64 ((i + 1 : Nat) : Int)) ((d_add64 (by omega) (by omega)).trans (by simp)) ?_
            exact jump_step rfl (nx fun z => t3 (hyj.1 z.1).1)
        · refine primS (.int .i64 ((i + 1 : Nat) : Int)) ((d_add64 (by omega) (by omega)).trans (by simp)) ?_
          exact jump_step rfl (nx fun z => t2 (hxi.1 z.2).2)
      · refine primS (.int .i64 ((i + 1 : Nat) : Int)) ((d_add64 (by omega) (by omega)).trans (by simp)) ?_
        exact jump_step rfl (nx fun z => t1 (hxi.1 z.2).1)
    · refine primS (.int .i64 ((j + 1 : Nat) : Int)) ((d_add64 (by omega) (by omega)).trans (by simp)) ?_
      refine jump_step rfl (hX (j + 1) ⟨by omega, fun j' h => ?_⟩ (by omega))
      by_cases e : j' < j
      · exact hj2 j' e
      · obtain rfl : j' = j := by omega
        exact fun z => hi2 (c.ci q u).toNat (by omega) ⟨z.1, by omega⟩
  · have hno : ¬c.on q u := fun ho => by
      obtain ⟨h1, h2⟩ := hon.1 ho
      exact hj2 (c.cj q u).toNat (by omega) ⟨by omega, h1⟩
    refine cs1 f_R3_Zero ?_
    simp only [JJ]
    exact fin hno rfl
end
/-! ### How densely a spot is met -/
section
variable {L M K K2 : Nat} {r0 r1 : RR} {x y : Rat}
theorem fr_Density (h : Num L r0 x) (hl : L ≤ 20000000000) : PureCalls prog F.penumbraref14_Density [.agg (gW [r0])] [.agg (gD [dns x])] := by
  replace h := h.mono hl
  have e : dns x = 1 / (2 * ((1 + x.abs) * (1 + x.abs))) := by
    unfold dns
    rw [Rat.div_def, Rat.div_def, Rat.div_def 1 (2 * _), Rat.inv_mul_rev]
    generalize ((1 + x.abs) * (1 + x.abs))⁻¹ = z
    grind
  rw [e]
  refine symFunc_sound hmix tree_penumbraref14_Density (by kernel_rfl) rfl ?_
  unfold ir_penumbraref14_Density
  simp only [JJ]
  refine call_step (f_R3_One) rfl ?_
  simp only [JJ]
  have m1 := Num.of (Sm1)
  refine call_step (f_R3_Abs h (by decide)) rfl ?_
  simp only [JJ]
  have m2 := Num.of (Sm.abs h.sm)
  refine call_step (f_R3_Add m1 m2 (by decide)) rfl ?_
  simp only [JJ]
  have m3 := Num.of (Sm.add m1.sm m2.sm)
  refine call_step (f_R3_One) rfl ?_
  simp only [JJ]
  have m4 := Num.of (Sm1)
  refine cs1 (n_penumbraref03_Of (k0 := (2)) (2) (1) (by decide) (by decide) (by decide) (by decide) (by decide +kernel)) ?_
  simp only [JJ]
  have m5 : Num 1 (cr (2)) (2) := Num.of Sm2
  refine call_step (f_R3_Mul m3 m3 (by decide)) rfl ?_
  simp only [JJ]
  have m6 := Num.of (Sm.mul m3.sm m3.sm)
  refine call_step (f_R3_Mul m5 m6 (by decide)) rfl ?_
  simp only [JJ]
  have m7 := Num.of (Sm.mul m5.sm m6.sm)
  refine call_step (f_R3_Over m4 m7 (by decide)) rfl ?_
  simp only [JJ]
  have m8 := Num.of (Sm.div m4.sm m7.sm)
  exact ret_step rfl
variable {a b : RS} {m : RM} {p q : Sp} {u : M4}
theorem fr_Ahead (h : NS L a p) (g : NS K b q) (k : NM M m u) (hl : L ≤ 100000000 ∧ K ≤ 100000000 ∧ M ≤ 100000000) : PureCalls prog F.penumbraref16_Ahead [.agg (gW a.l), .agg (gW b.l), .agg (gW m.l)] [.agg (gD [ahd p q u])] := by
  replace h := h.mono hl.1
  replace g := g.mono hl.2.1
  replace k := k.mono hl.2.2
  refine symFunc_sound hmix tree_penumbraref16_Ahead (by kernel_rfl) rfl ?_
  unfold ir_penumbraref16_Ahead
  simp only [JJ]
  refine call_step (fr_Seen h g k (by decide)) rfl ?_
  simp only [JJ]
  refine primS (.bool (!_)) rfl ?_
  refine itN rfl (fun c6 => ?_) (fun c6 => ?_)
  · refine cs1 f_R3_Zero ?_
    simp only [JJ]
    exact ret_step (by rw [show ahd p q u = 0 from if_neg c6]; rfl)
  refine call_step (fr_Slopes16 c6.1.1 h g k (by decide)) rfl ?_
  simp only [JJ]
  have nA := Num.of (SS.sA h.sm g.sm k.sm)
  have nB := Num.of (SS.sB h.sm g.sm k.sm)
  have nz := Num.of (SS.wz h.sm g.sm k.sm)
  refine cs1 (fr_Density nA (by decide)) ?_
  simp only [JJ]
  have dA := Num.of nA.sm.dns
  refine cs1 (fr_Density nB (by decide)) ?_
  simp only [JJ]
  have dB := Num.of nB.sm.dns
  refine cs1 (f_R3_Mul dA dB (by decide)) ?_
  simp only [JJ]
  have n1 := Num.of (dA.sm.mul dB.sm)
  refine cs1 (fr_Wide h g k (by decide)) ?_
  simp only [JJ]
  have nW := Num.of (SS.wc h.sm g.sm k.sm)
  refine cs1 (f_R3_Abs nW (by decide)) ?_
  simp only [JJ]
  have nWa := Num.of nW.sm.abs
  refine cs1 (f_R3_Mul n1 nWa (by decide)) ?_
  simp only [JJ]
  have n2 := Num.of (n1.sm.mul nWa.sm)
  refine cs1 (fr_three nz (by decide)) ?_
  simp only [JJ]
  have n3 := Num.of (nz.sm.mul (nz.sm.mul nz.sm))
  refine cs1 (f_R3_Over n2 n3 (by decide)) ?_
  simp only [JJ]
  exact ret_step (by rw [show ahd p q u = dns (sA p q u) * dns (sB p q u) * (wc p q u).abs / (wz p q u * (wz p q u * wz p q u)) from (if_pos c6).trans (by rw [Rat.mul_assoc (wz p q u)])]; rfl)

/-! ### The inverse of a map -/
def told (o x y z : V3) : M4 := ⟨⟨(x.sub o).x, (y.sub o).x, (z.sub o).x⟩, ⟨(x.sub o).y, (y.sub o).y, (z.sub o).y⟩, ⟨(x.sub o).z, (y.sub o).z, (z.sub o).z⟩, o⟩
/-- What is taken to a direction, by Cramer's rule. -/
def slv (m : M4) (i d : Rat) (t : V3) : V3 :=
  V3.smul (i / d) ⟨t.dot (V3.cross ⟨m.X.y, m.Y.y, m.Z.y⟩ ⟨m.X.z, m.Y.z, m.Z.z⟩), V3.dot ⟨m.X.x, m.Y.x, m.Z.x⟩ (t.cross ⟨m.X.z, m.Y.z, m.Z.z⟩), V3.dot ⟨m.X.x, m.Y.x, m.Z.x⟩ (V3.cross ⟨m.X.y, m.Y.y, m.Z.y⟩ t)⟩
theorem Stold {o x y z : V3} {L1 L2 L3 L4 : Nat} (h : SV L1 o) (h1 : SV L2 x) (h2 : SV L3 y) (h3 : SV L4 z) : SM (L1 + L2 + L3 + L4 + 1) (told o x y z) :=
  ⟨⟨(h1.x.sub h.x).mono (by omega), (h2.x.sub h.x).mono (by omega), (h3.x.sub h.x).mono (by omega)⟩, ⟨(h1.y.sub h.y).mono (by omega), (h2.y.sub h.y).mono (by omega), (h3.y.sub h.y).mono (by omega)⟩, ⟨(h1.z.sub h.z).mono (by omega), (h2.z.sub h.z).mono (by omega), (h3.z.sub h.z).mono (by omega)⟩, h.mono (by omega)⟩
theorem Sslv {m : M4} {i d : Rat} {t : V3} {L1 L2 L3 L4 : Nat} (h : SM L1 m) (h1 : Sm L2 i) (h2 : Sm L3 d) (h3 : SV L4 t) : SV (15 * L1 + L2 + L3 + 9 * L4 + 7) (slv m i d t) := by
  have ha : SV L1 ⟨m.X.x, m.Y.x, m.Z.x⟩ := ⟨h.X.x, h.Y.x, h.Z.x⟩
  have hb : SV L1 ⟨m.X.y, m.Y.y, m.Z.y⟩ := ⟨h.X.y, h.Y.y, h.Z.y⟩
  have hc : SV L1 ⟨m.X.z, m.Y.z, m.Z.z⟩ := ⟨h.X.z, h.Y.z, h.Z.z⟩
  have hv : SV (15 * L1 + 9 * L4 + 7) ⟨t.dot (V3.cross ⟨m.X.y, m.Y.y, m.Z.y⟩ ⟨m.X.z, m.Y.z, m.Z.z⟩), V3.dot ⟨m.X.x, m.Y.x, m.Z.x⟩ (t.cross ⟨m.X.z, m.Y.z, m.Z.z⟩), V3.dot ⟨m.X.x, m.Y.x, m.Z.x⟩ (V3.cross ⟨m.X.y, m.Y.y, m.Z.y⟩ t)⟩ :=
    ⟨(h3.dot (hb.cross hc)).mono (by omega), (ha.dot (h3.cross hc)).mono (by omega), (ha.dot (hb.cross h3)).mono (by omega)⟩
  exact (SV.smul (h1.div h2) hv).mono (by omega)
theorem told_inv (u : M4) : told (slv u 1 u.det (o3.sub u.W)) ((slv u 1 u.det (o3.sub u.W)).add (slv u 1 u.det e1)) ((slv u 1 u.det (o3.sub u.W)).add (slv u 1 u.det e2)) ((slv u 1 u.det (o3.sub u.W)).add (slv u 1 u.det e3)) = inv u := by
  unfold told inv slv invo
  generalize 1 / u.det = k
  simp only [V3.sub, V3.add, V3.smul, V3.dot, V3.cross, M4.turn]
  congr 2 <;> grind
variable {rm : RM} {va vb vc vd : RV} {v0 v1 v2 v3 : V3}
theorem fr_Identity : PureCalls prog F.penumbraref07_Identity [] [.agg (gD idm.l)] := by
  refine symFunc_sound hmix tree_penumbraref07_Identity (by kernel_rfl) rfl ?_
  unfold ir_penumbraref07_Identity
  simp only [JJ]
  refine cs3 (n_penumbraref05_Of (o0 := 1) (o1 := 0) (o2 := 0) (1) (0) (0) (by decide) (by decide) (by decide) (by decide) (by decide) (by decide) (by decide +kernel) (by decide +kernel) (by decide +kernel)) ?_
  simp only [JJ]
  have m1 := NV.of Se1
  refine cs3 (n_penumbraref05_Of (o0 := 0) (o1 := 1) (o2 := 0) (0) (1) (0) (by decide) (by decide) (by decide) (by decide) (by decide) (by decide) (by decide +kernel) (by decide +kernel) (by decide +kernel)) ?_
  simp only [JJ]
  have m2 := NV.of Se2
  refine cs3 (n_penumbraref05_Of (o0 := 0) (o1 := 0) (o2 := 1) (0) (0) (1) (by decide) (by decide) (by decide) (by decide) (by decide) (by decide) (by decide +kernel) (by decide +kernel) (by decide +kernel)) ?_
  simp only [JJ]
  have m3 := NV.of Se3
  refine call_step (fr_Zero) rfl ?_
  simp only [JJ]
  have m4 := NV.of (So3)
  exact ret_step rfl
theorem fr_Told (h0 : NV L (cv v0) v0) (h1 : NV M vb v1) (h2 : NV K vc v2) (h3 : NV K2 vd v3) (hl : L ≤ 900000000 ∧ M ≤ 900000000 ∧ K ≤ 900000000 ∧ K2 ≤ 900000000) : PureCalls prog F.penumbraref07_Told [.agg (gW (cv v0).l), .agg (gW vb.l), .agg (gW vc.l), .agg (gW vd.l)] [.agg (gD (told v0 v1 v2 v3).l)] := by
  replace h0 := h0.mono hl.1
  replace h1 := h1.mono hl.2.1
  replace h2 := h2.mono hl.2.2.1
  replace h3 := h3.mono hl.2.2.2
  refine symFunc_sound hmix tree_penumbraref07_Told (by kernel_rfl) rfl ?_
  unfold ir_penumbraref07_Told
  simp only [JJ]
  refine call_step (fr_Sub h1 h0 (by decide)) rfl ?_
  simp only [JJ]
  have m1 := NV.of (SV.sub h1.sm h0.sm)
  refine call_step (fr_Sub h2 h0 (by decide)) rfl ?_
  simp only [JJ]
  have m2 := NV.of (SV.sub h2.sm h0.sm)
  refine call_step (fr_Sub h3 h0 (by decide)) rfl ?_
  simp only [JJ]
  have m3 := NV.of (SV.sub h3.sm h0.sm)
  exact ret_step rfl
theorem fr_solve (h : NM L rm u) (h0 : Num M r0 x) (h1 : Num K r1 y) (h2 : NV K2 va v0) (hl : L ≤ 100000000 ∧ M ≤ 100000000 ∧ K ≤ 100000000 ∧ K2 ≤ 100000000) : PureCalls prog F.penumbraref07_solve [.agg (gW rm.l), .agg (gW [r0]), .agg (gW [r1]), .agg (gW va.l)] [.agg (gD [(slv u x y v0).x, (slv u x y v0).y, (slv u x y v0).z])] := by
  replace h := h.mono hl.1
  replace h0 := h0.mono hl.2.1
  replace h1 := h1.mono hl.2.2.1
  replace h2 := h2.mono hl.2.2.2
  refine symFunc_sound hmix tree_penumbraref07_solve (by kernel_rfl) rfl ?_
  unfold ir_penumbraref07_solve
  simp only [JJ]
  refine call_step (fr_Cross (NV.mk3 (h.X.y.mono (by decide)) (h.Y.y.mono (by decide)) (h.Z.y.mono (by decide)) : NV 100000000 _ _) (NV.mk3 (h.X.z.mono (by decide)) (h.Y.z.mono (by decide)) (h.Z.z.mono (by decide)) : NV 100000000 _ _) (by decide)) rfl ?_
  simp only [JJ]
  have m1 := NV.of (SV.cross (NV.mk3 (h.X.y.mono (by decide)) (h.Y.y.mono (by decide)) (h.Z.y.mono (by decide)) : NV 100000000 _ _).sm (NV.mk3 (h.X.z.mono (by decide)) (h.Y.z.mono (by decide)) (h.Z.z.mono (by decide)) : NV 100000000 _ _).sm)
  refine call_step (fr_Dot h2 m1 (by decide)) rfl ?_
  simp only [JJ]
  have m2 := Num.of (SV.dot h2.sm m1.sm)
  refine call_step (fr_Cross h2 (NV.mk3 (h.X.z.mono (by decide)) (h.Y.z.mono (by decide)) (h.Z.z.mono (by decide)) : NV 100000000 _ _) (by decide)) rfl ?_
  simp only [JJ]
  have m3 := NV.of (SV.cross h2.sm (NV.mk3 (h.X.z.mono (by decide)) (h.Y.z.mono (by decide)) (h.Z.z.mono (by decide)) : NV 100000000 _ _).sm)
  refine call_step (fr_Dot (NV.mk3 (h.X.x.mono (by decide)) (h.Y.x.mono (by decide)) (h.Z.x.mono (by decide)) : NV 100000000 _ _) m3 (by decide)) rfl ?_
  simp only [JJ]
  have m4 := Num.of (SV.dot (NV.mk3 (h.X.x.mono (by decide)) (h.Y.x.mono (by decide)) (h.Z.x.mono (by decide)) : NV 100000000 _ _).sm m3.sm)
  refine call_step (fr_Cross (NV.mk3 (h.X.y.mono (by decide)) (h.Y.y.mono (by decide)) (h.Z.y.mono (by decide)) : NV 100000000 _ _) h2 (by decide)) rfl ?_
  simp only [JJ]
  have m5 := NV.of (SV.cross (NV.mk3 (h.X.y.mono (by decide)) (h.Y.y.mono (by decide)) (h.Z.y.mono (by decide)) : NV 100000000 _ _).sm h2.sm)
  refine call_step (fr_Dot (NV.mk3 (h.X.x.mono (by decide)) (h.Y.x.mono (by decide)) (h.Z.x.mono (by decide)) : NV 100000000 _ _) m5 (by decide)) rfl ?_
  simp only [JJ]
  have m6 := Num.of (SV.dot (NV.mk3 (h.X.x.mono (by decide)) (h.Y.x.mono (by decide)) (h.Z.x.mono (by decide)) : NV 100000000 _ _).sm m5.sm)
  refine call_step (f_R3_Over h0 h1 (by decide)) rfl ?_
  simp only [JJ]
  have m7 := Num.of (Sm.div h0.sm h1.sm)
  refine call_step (fr_Scale m7 (NV.mk3 (m2.mono (by decide)) (m4.mono (by decide)) (m6.mono (by decide)) : NV 9000000000 _ _) (by decide)) rfl ?_
  simp only [JJ]
  have m8 := NV.of (SV.smul m7.sm (NV.mk3 (m2.mono (by decide)) (m4.mono (by decide)) (m6.mono (by decide)) : NV 9000000000 _ _).sm)
  exact ret_step rfl
theorem fr_Inverse_t (c : ¬u.det = 0) (h : NM L rm u) (hl : L ≤ 1048576) : PureCalls prog F.penumbraref07_Inverse [.agg (gW rm.l)] [.agg (gD (inv u).l), .one (.bool true)] := by
  replace h := h.mono hl
  rw [← told_inv]
  refine symFunc_sound hmix tree_penumbraref07_Inverse (by kernel_rfl) rfl ?_
  unfold ir_penumbraref07_Inverse
  simp only [JJ]
  refine call_step (fr_Det h (by decide)) rfl ?_
  simp only [JJ]
  have m1 := Num.of (SM.det h.sm)
  refine call_step (f_R3_Sign m1 (by decide)) rfl ?_
  simp only [JJ]
  refine primS (.bool (decide _)) pr_eq ?_
  refine itD rfl (fun i1 => ?_) (fun i1 => ?_)
  · refine call_step (fr_Identity) rfl ?_
    simp only [JJ]
    have m2 := NM.of (Sidm)
    first | exact absurd i1 c | exact ret_step rfl
  · refine call_step (f_R3_One) rfl ?_
    simp only [JJ]
    have m2 := Num.of (Sm1)
    refine call_step (fr_Zero) rfl ?_
    simp only [JJ]
    have m3 := NV.of (So3)
    refine call_step (fr_Sub m3 h.W (by decide)) rfl ?_
    simp only [JJ]
    have m4 := NV.of (SV.sub m3.sm h.W.sm)
    refine call_step (fr_solve h m2 m1 m4 (by decide)) rfl ?_
    simp only [JJ]
    have m5 := NV.of (Sslv h.sm m2.sm m1.sm m4.sm)
    refine cs3 (n_penumbraref05_Of (o0 := 1) (o1 := 0) (o2 := 0) (1) (0) (0) (by decide) (by decide) (by decide) (by decide) (by decide) (by decide) (by decide +kernel) (by decide +kernel) (by decide +kernel)) ?_
    simp only [JJ]
    have m6 := NV.of Se1
    refine call_step (fr_solve h m2 m1 m6 (by decide)) rfl ?_
    simp only [JJ]
    have m7 := NV.of (Sslv h.sm m2.sm m1.sm m6.sm)
    refine call_step (fr_Add m5 m7 (by decide)) rfl ?_
    simp only [JJ]
    have m8 := NV.of (SV.add m5.sm m7.sm)
    refine cs3 (n_penumbraref05_Of (o0 := 0) (o1 := 1) (o2 := 0) (0) (1) (0) (by decide) (by decide) (by decide) (by decide) (by decide) (by decide) (by decide +kernel) (by decide +kernel) (by decide +kernel)) ?_
    simp only [JJ]
    have m9 := NV.of Se2
    refine call_step (fr_solve h m2 m1 m9 (by decide)) rfl ?_
    simp only [JJ]
    have m10 := NV.of (Sslv h.sm m2.sm m1.sm m9.sm)
    refine call_step (fr_Add m5 m10 (by decide)) rfl ?_
    simp only [JJ]
    have m11 := NV.of (SV.add m5.sm m10.sm)
    refine cs3 (n_penumbraref05_Of (o0 := 0) (o1 := 0) (o2 := 1) (0) (0) (1) (by decide) (by decide) (by decide) (by decide) (by decide) (by decide) (by decide +kernel) (by decide +kernel) (by decide +kernel)) ?_
    simp only [JJ]
    have m12 := NV.of Se3
    refine call_step (fr_solve h m2 m1 m12 (by decide)) rfl ?_
    simp only [JJ]
    have m13 := NV.of (Sslv h.sm m2.sm m1.sm m12.sm)
    refine call_step (fr_Add m5 m13 (by decide)) rfl ?_
    simp only [JJ]
    have m14 := NV.of (SV.add m5.sm m13.sm)
    refine call_step (fr_Told m5 m8 m11 m14 (by decide)) rfl ?_
    simp only [JJ]
    have m15 := NM.of (Stold m5.sm m8.sm m11.sm m14.sm)
    first | exact absurd i1 c | exact ret_step rfl
theorem fr_Inverse_n (c : u.det = 0) (h : NM L rm u) (hl : L ≤ 1048576) : PureCalls prog F.penumbraref07_Inverse [.agg (gW rm.l)] [.agg (gD idm.l), .one (.bool false)] := by
  replace h := h.mono hl
  refine symFunc_sound hmix tree_penumbraref07_Inverse (by kernel_rfl) rfl ?_
  unfold ir_penumbraref07_Inverse
  simp only [JJ]
  refine call_step (fr_Det h (by decide)) rfl ?_
  simp only [JJ]
  have m1 := Num.of (SM.det h.sm)
  refine call_step (f_R3_Sign m1 (by decide)) rfl ?_
  simp only [JJ]
  refine primS (.bool (decide _)) pr_eq ?_
  refine itD rfl (fun i1 => ?_) (fun i1 => ?_)
  · refine call_step (fr_Identity) rfl ?_
    simp only [JJ]
    have m2 := NM.of (Sidm)
    first | exact absurd c i1 | exact ret_step rfl
  · refine call_step (f_R3_One) rfl ?_
    simp only [JJ]
    have m2 := Num.of (Sm1)
    refine call_step (fr_Zero) rfl ?_
    simp only [JJ]
    have m3 := NV.of (So3)
    refine call_step (fr_Sub m3 h.W (by decide)) rfl ?_
    simp only [JJ]
    have m4 := NV.of (SV.sub m3.sm h.W.sm)
    refine call_step (fr_solve h m2 m1 m4 (by decide)) rfl ?_
    simp only [JJ]
    have m5 := NV.of (Sslv h.sm m2.sm m1.sm m4.sm)
    refine cs3 (n_penumbraref05_Of (o0 := 1) (o1 := 0) (o2 := 0) (1) (0) (0) (by decide) (by decide) (by decide) (by decide) (by decide) (by decide) (by decide +kernel) (by decide +kernel) (by decide +kernel)) ?_
    simp only [JJ]
    have m6 := NV.of Se1
    refine call_step (fr_solve h m2 m1 m6 (by decide)) rfl ?_
    simp only [JJ]
    have m7 := NV.of (Sslv h.sm m2.sm m1.sm m6.sm)
    refine call_step (fr_Add m5 m7 (by decide)) rfl ?_
    simp only [JJ]
    have m8 := NV.of (SV.add m5.sm m7.sm)
    refine cs3 (n_penumbraref05_Of (o0 := 0) (o1 := 1) (o2 := 0) (0) (1) (0) (by decide) (by decide) (by decide) (by decide) (by decide) (by decide) (by decide +kernel) (by decide +kernel) (by decide +kernel)) ?_
    simp only [JJ]
    have m9 := NV.of Se2
    refine call_step (fr_solve h m2 m1 m9 (by decide)) rfl ?_
    simp only [JJ]
    have m10 := NV.of (Sslv h.sm m2.sm m1.sm m9.sm)
    refine call_step (fr_Add m5 m10 (by decide)) rfl ?_
    simp only [JJ]
    have m11 := NV.of (SV.add m5.sm m10.sm)
    refine cs3 (n_penumbraref05_Of (o0 := 0) (o1 := 0) (o2 := 1) (0) (0) (1) (by decide) (by decide) (by decide) (by decide) (by decide) (by decide) (by decide +kernel) (by decide +kernel) (by decide +kernel)) ?_
    simp only [JJ]
    have m12 := NV.of Se3
    refine call_step (fr_solve h m2 m1 m12 (by decide)) rfl ?_
    simp only [JJ]
    have m13 := NV.of (Sslv h.sm m2.sm m1.sm m12.sm)
    refine call_step (fr_Add m5 m13 (by decide)) rfl ?_
    simp only [JJ]
    have m14 := NV.of (SV.add m5.sm m13.sm)
    refine call_step (fr_Told m5 m8 m11 m14 (by decide)) rfl ?_
    simp only [JJ]
    have m15 := NM.of (Stold m5.sm m8.sm m11.sm m14.sm)
    first | exact absurd c i1 | exact ret_step rfl
end
end Go.Px.Na

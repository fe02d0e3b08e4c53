/- XVecLinear: the trees of functions and their contracts, as programs of mine printed them. -/
import Derived.Test.YtbpadnlpkdmkmaaLq
import Derived.Test.YtbpadnlpkdmkmaaPx24
import Derived.Test.YtbpadnlpkdmkmaaProg
import Derived.Tactics
set_option maxRecDepth 20000
set_option maxHeartbeats 4000000
set_option linter.unusedVariables false
set_option linter.unusedSimpArgs false
namespace Go.Px
open Go.RowKit
def ir_vec_Scale : IR :=
 .prim (.mk 2) [.var 0, .var 1, .var 2, .var 3, .var 4, .var 5] <|
 .call F.rat_Product [.one (.var 12)] [.agg 3] <|
 .prim (.mk 2) [.var 0, .var 1, .var 2, .var 6, .var 7, .var 8] <|
 .call F.rat_Product [.one (.var 16)] [.agg 3] <|
 .prim (.mk 2) [.var 0, .var 1, .var 2, .var 9, .var 10, .var 11] <|
 .call F.rat_Product [.one (.var 20)] [.agg 3] <|
 .ret [.agg [.var 13, .var 14, .var 15, .var 17, .var 18, .var 19, .var 21, .var 22, .var 23]]

def ir_vec_Dot : IR :=
 .prim (.mk 2) [.var 0, .var 1, .var 2, .var 9, .var 10, .var 11] <|
 .call F.rat_Product [.one (.var 18)] [.agg 3] <|
 .prim (.mk 2) [.var 3, .var 4, .var 5, .var 12, .var 13, .var 14] <|
 .call F.rat_Product [.one (.var 22)] [.agg 3] <|
 .prim (.mk 2) [.var 6, .var 7, .var 8, .var 15, .var 16, .var 17] <|
 .call F.rat_Product [.one (.var 26)] [.agg 3] <|
 .prim (.mk 3) [.var 19, .var 20, .var 21, .var 23, .var 24, .var 25, .var 27, .var 28, .var 29] <|
 .call F.rat_Sum [.one (.var 30)] [.agg 3] <|
 .ret [.agg [.var 31, .var 32, .var 33]]

def ir_vec_minor : IR :=
 .prim (.mk 2) [.var 0, .var 1, .var 2, .var 9, .var 10, .var 11] <|
 .call F.rat_Product [.one (.var 12)] [.agg 3] <|
 .prim (.mk 2) [.var 3, .var 4, .var 5, .var 6, .var 7, .var 8] <|
 .call F.rat_Product [.one (.var 16)] [.agg 3] <|
 .call F.rat_Sub [.agg [.var 13, .var 14, .var 15], .agg [.var 17, .var 18, .var 19]] [.agg 3] <|
 .ret [.agg [.var 20, .var 21, .var 22]]

def ir_vec_Cross : IR :=
 .call F.vec_minor [.agg [.var 3, .var 4, .var 5], .agg [.var 6, .var 7, .var 8], .agg [.var 12, .var 13, .var 14], .agg [.var 15, .var 16, .var 17]] [.agg 3] <|
 .call F.vec_minor [.agg [.var 6, .var 7, .var 8], .agg [.var 0, .var 1, .var 2], .agg [.var 15, .var 16, .var 17], .agg [.var 9, .var 10, .var 11]] [.agg 3] <|
 .call F.vec_minor [.agg [.var 0, .var 1, .var 2], .agg [.var 3, .var 4, .var 5], .agg [.var 9, .var 10, .var 11], .agg [.var 12, .var 13, .var 14]] [.agg 3] <|
 .ret [.agg [.var 18, .var 19, .var 20, .var 21, .var 22, .var 23, .var 24, .var 25, .var 26]]

def ir_penumbraref05_Is : IR :=
 .call F.penumbraref03_Is [.agg [.var 0, .var 1, .var 2], .agg [.var 9, .var 10, .var 11]] [.one] <|
 .ite (.var 18) (
  .call F.penumbraref03_Is [.agg [.var 3, .var 4, .var 5], .agg [.var 12, .var 13, .var 14]] [.one] <|
  .ite (.var 19) (
   .call F.penumbraref03_Is [.agg [.var 6, .var 7, .var 8], .agg [.var 15, .var 16, .var 17]] [.one] <|
   .ret [.one (.var 20)]) (
   .ret [.one (.bol false)])) (
  .ret [.one (.bol false)])

def ir_vec_Unit : IR :=
 .call F.vec_Dot [.agg [.var 0, .var 1, .var 2, .var 3, .var 4, .var 5, .var 6, .var 7, .var 8], .agg [.var 0, .var 1, .var 2, .var 3, .var 4, .var 5, .var 6, .var 7, .var 8]] [.agg 3] <|
 .call F.rat_Sqrt [.agg [.var 9, .var 10, .var 11]] [.agg 3, .one] <|
 .call F.rat_Of [.one (.int .i64 (1)), .one (.int .i64 (1))] [.agg 3] <|
 .call F.rat_Div [.agg [.var 16, .var 17, .var 18], .agg [.var 12, .var 13, .var 14]] [.agg 3, .one] <|
 .prim .not [.var 15] <|
 .ite (.var 23) (
  .call F.vec_Of [.one (.int .i64 (0)), .one (.int .i64 (0)), .one (.int .i64 (0))] [.agg 9] <|
  .call F.rat_Of [.one (.int .i64 (0)), .one (.int .i64 (1))] [.agg 3] <|
  .ret [.agg [.var 24, .var 25, .var 26, .var 27, .var 28, .var 29, .var 30, .var 31, .var 32], .agg [.var 33, .var 34, .var 35], .one (.bol false)]) (
  .prim .not [.var 22] <|
  .ite (.var 24) (
   .call F.vec_Of [.one (.int .i64 (0)), .one (.int .i64 (0)), .one (.int .i64 (0))] [.agg 9] <|
   .call F.rat_Of [.one (.int .i64 (0)), .one (.int .i64 (1))] [.agg 3] <|
   .ret [.agg [.var 25, .var 26, .var 27, .var 28, .var 29, .var 30, .var 31, .var 32, .var 33], .agg [.var 34, .var 35, .var 36], .one (.bol false)]) (
   .call F.vec_Scale [.agg [.var 19, .var 20, .var 21], .agg [.var 0, .var 1, .var 2, .var 3, .var 4, .var 5, .var 6, .var 7, .var 8]] [.agg 9] <|
   .ret [.agg [.var 25, .var 26, .var 27, .var 28, .var 29, .var 30, .var 31, .var 32, .var 33], .agg [.var 12, .var 13, .var 14], .one (.bol true)]))

def ir_penumbraref05_Zero : IR :=
 .call F.penumbraref03_Zero [] [.agg 3] <|
 .call F.penumbraref03_Zero [] [.agg 3] <|
 .call F.penumbraref03_Zero [] [.agg 3] <|
 .ret [.agg [.var 0, .var 1, .var 2, .var 3, .var 4, .var 5, .var 6, .var 7, .var 8]]

def ir_penumbralaw05_fixed : IR :=
 .call F.vec_Of [.one (.int .i64 (3)), .one (.int .i64 (0)), .one (.int .i64 (-4))] [.agg 9] <|
 .call F.vec_Unit [.agg [.var 0, .var 1, .var 2, .var 3, .var 4, .var 5, .var 6, .var 7, .var 8]] [.agg 9, .agg 3, .one] <|
 .call F.vec_Of [.one (.int .i64 (1)), .one (.int .i64 (1)), .one (.int .i64 (0))] [.agg 9] <|
 .call F.vec_Unit [.agg [.var 22, .var 23, .var 24, .var 25, .var 26, .var 27, .var 28, .var 29, .var 30]] [.agg 9, .agg 3, .one] <|
 .call F.vec_Of [.one (.int .i64 (1)), .one (.int .i64 (0)), .one (.int .i64 (0))] [.agg 9] <|
 .call F.vec_Of [.one (.int .i64 (0)), .one (.int .i64 (1)), .one (.int .i64 (0))] [.agg 9] <|
 .call F.vec_Cross [.agg [.var 44, .var 45, .var 46, .var 47, .var 48, .var 49, .var 50, .var 51, .var 52], .agg [.var 53, .var 54, .var 55, .var 56, .var 57, .var 58, .var 59, .var 60, .var 61]] [.agg 9] <|
 .call F.penumbraref05_Of [.one (.int .i64 (0)), .one (.int .i64 (0)), .one (.int .i64 (1))] [.agg 9] <|
 .call F.penumbraref05_Is [.agg [.var 62, .var 63, .var 64, .var 65, .var 66, .var 67, .var 68, .var 69, .var 70], .agg [.var 71, .var 72, .var 73, .var 74, .var 75, .var 76, .var 77, .var 78, .var 79]] [.one] <|
 .ite (.var 80) (
  .ite (.var 21) (
   .call F.penumbraref03_Of [.one (.int .i64 (5)), .one (.int .i64 (1))] [.agg 3] <|
   .call F.penumbraref03_Is [.agg [.var 18, .var 19, .var 20], .agg [.var 81, .var 82, .var 83]] [.one] <|
   .ite (.var 84) (
    .call F.penumbraref03_Of [.one (.int .i64 (3)), .one (.int .i64 (5))] [.agg 3] <|
    .call F.penumbraref03_Is [.agg [.var 9, .var 10, .var 11], .agg [.var 85, .var 86, .var 87]] [.one] <|
    .ite (.var 88) (
     .call F.penumbraref03_Of [.one (.int .i64 (-4)), .one (.int .i64 (5))] [.agg 3] <|
     .call F.penumbraref03_Is [.agg [.var 15, .var 16, .var 17], .agg [.var 89, .var 90, .var 91]] [.one] <|
     .ite (.var 92) (
      .prim .not [.var 43] <|
      .ite (.var 93) (
       .call F.vec_Sum [.one (.nil)] [.agg 9] <|
       .call F.penumbraref05_Zero [] [.agg 9] <|
       .call F.penumbraref05_Is [.agg [.var 94, .var 95, .var 96, .var 97, .var 98, .var 99, .var 100, .var 101, .var 102], .agg [.var 103, .var 104, .var 105, .var 106, .var 107, .var 108, .var 109, .var 110, .var 111]] [.one] <|
       .ret [.one (.var 112)]) (
       .ret [.one (.bol false)])) (
      .ret [.one (.bol false)])) (
     .ret [.one (.bol false)])) (
    .ret [.one (.bol false)])) (
   .ret [.one (.bol false)])) (
  .ret [.one (.bol false)])

def ir_vec_Sub : IR :=
 .call F.rat_Sub [.agg [.var 0, .var 1, .var 2], .agg [.var 9, .var 10, .var 11]] [.agg 3] <|
 .call F.rat_Sub [.agg [.var 3, .var 4, .var 5], .agg [.var 12, .var 13, .var 14]] [.agg 3] <|
 .call F.rat_Sub [.agg [.var 6, .var 7, .var 8], .agg [.var 15, .var 16, .var 17]] [.agg 3] <|
 .ret [.agg [.var 18, .var 19, .var 20, .var 21, .var 22, .var 23, .var 24, .var 25, .var 26]]

def ir_penumbralaw05_VecLinear : IR :=
 .call F.vec_Scale [.agg [.var 27, .var 28, .var 29], .agg [.var 9, .var 10, .var 11, .var 12, .var 13, .var 14, .var 15, .var 16, .var 17]] [.agg 9] <|
 .prim (.mk 2) [.var 0, .var 1, .var 2, .var 3, .var 4, .var 5, .var 6, .var 7, .var 8, .var 30, .var 31, .var 32, .var 33, .var 34, .var 35, .var 36, .var 37, .var 38] <|
 .call F.vec_Sum [.one (.var 39)] [.agg 9] <|
 .call F.vec_Dot [.agg [.var 40, .var 41, .var 42, .var 43, .var 44, .var 45, .var 46, .var 47, .var 48], .agg [.var 18, .var 19, .var 20, .var 21, .var 22, .var 23, .var 24, .var 25, .var 26]] [.agg 3] <|
 .call F.vec_Dot [.agg [.var 0, .var 1, .var 2, .var 3, .var 4, .var 5, .var 6, .var 7, .var 8], .agg [.var 18, .var 19, .var 20, .var 21, .var 22, .var 23, .var 24, .var 25, .var 26]] [.agg 3] <|
 .call F.vec_Dot [.agg [.var 9, .var 10, .var 11, .var 12, .var 13, .var 14, .var 15, .var 16, .var 17], .agg [.var 18, .var 19, .var 20, .var 21, .var 22, .var 23, .var 24, .var 25, .var 26]] [.agg 3] <|
 .prim (.mk 2) [.var 27, .var 28, .var 29, .var 55, .var 56, .var 57] <|
 .call F.rat_Product [.one (.var 58)] [.agg 3] <|
 .prim (.mk 2) [.var 52, .var 53, .var 54, .var 59, .var 60, .var 61] <|
 .call F.rat_Sum [.one (.var 62)] [.agg 3] <|
 .call F.penumbraref03_Is [.agg [.var 49, .var 50, .var 51], .agg [.var 63, .var 64, .var 65]] [.one] <|
 .ite (.var 66) (
  .call F.vec_Dot [.agg [.var 0, .var 1, .var 2, .var 3, .var 4, .var 5, .var 6, .var 7, .var 8], .agg [.var 18, .var 19, .var 20, .var 21, .var 22, .var 23, .var 24, .var 25, .var 26]] [.agg 3] <|
  .call F.vec_Dot [.agg [.var 18, .var 19, .var 20, .var 21, .var 22, .var 23, .var 24, .var 25, .var 26], .agg [.var 0, .var 1, .var 2, .var 3, .var 4, .var 5, .var 6, .var 7, .var 8]] [.agg 3] <|
  .call F.penumbraref03_Is [.agg [.var 67, .var 68, .var 69], .agg [.var 70, .var 71, .var 72]] [.one] <|
  .call F.vec_Cross [.agg [.var 40, .var 41, .var 42, .var 43, .var 44, .var 45, .var 46, .var 47, .var 48], .agg [.var 18, .var 19, .var 20, .var 21, .var 22, .var 23, .var 24, .var 25, .var 26]] [.agg 9] <|
  .call F.vec_Cross [.agg [.var 0, .var 1, .var 2, .var 3, .var 4, .var 5, .var 6, .var 7, .var 8], .agg [.var 18, .var 19, .var 20, .var 21, .var 22, .var 23, .var 24, .var 25, .var 26]] [.agg 9] <|
  .call F.vec_Cross [.agg [.var 9, .var 10, .var 11, .var 12, .var 13, .var 14, .var 15, .var 16, .var 17], .agg [.var 18, .var 19, .var 20, .var 21, .var 22, .var 23, .var 24, .var 25, .var 26]] [.agg 9] <|
  .call F.vec_Scale [.agg [.var 27, .var 28, .var 29], .agg [.var 92, .var 93, .var 94, .var 95, .var 96, .var 97, .var 98, .var 99, .var 100]] [.agg 9] <|
  .prim (.mk 2) [.var 83, .var 84, .var 85, .var 86, .var 87, .var 88, .var 89, .var 90, .var 91, .var 101, .var 102, .var 103, .var 104, .var 105, .var 106, .var 107, .var 108, .var 109] <|
  .call F.vec_Sum [.one (.var 110)] [.agg 9] <|
  .call F.penumbraref05_Is [.agg [.var 74, .var 75, .var 76, .var 77, .var 78, .var 79, .var 80, .var 81, .var 82], .agg [.var 111, .var 112, .var 113, .var 114, .var 115, .var 116, .var 117, .var 118, .var 119]] [.one] <|
  .ite (.var 120) (
   .call F.vec_Cross [.agg [.var 18, .var 19, .var 20, .var 21, .var 22, .var 23, .var 24, .var 25, .var 26], .agg [.var 40, .var 41, .var 42, .var 43, .var 44, .var 45, .var 46, .var 47, .var 48]] [.agg 9] <|
   .call F.rat_Of [.one (.int .i64 (-1)), .one (.int .i64 (1))] [.agg 3] <|
   .call F.vec_Cross [.agg [.var 40, .var 41, .var 42, .var 43, .var 44, .var 45, .var 46, .var 47, .var 48], .agg [.var 18, .var 19, .var 20, .var 21, .var 22, .var 23, .var 24, .var 25, .var 26]] [.agg 9] <|
   .call F.vec_Scale [.agg [.var 130, .var 131, .var 132], .agg [.var 133, .var 134, .var 135, .var 136, .var 137, .var 138, .var 139, .var 140, .var 141]] [.agg 9] <|
   .call F.penumbraref05_Is [.agg [.var 121, .var 122, .var 123, .var 124, .var 125, .var 126, .var 127, .var 128, .var 129], .agg [.var 142, .var 143, .var 144, .var 145, .var 146, .var 147, .var 148, .var 149, .var 150]] [.one] <|
   .call F.penumbralaw05_fixed [] [.one] <|
   .ite (.var 152) (
    .ite (.var 73) (
     .ite (.var 151) (
      .prim (.mk 3) [.var 0, .var 1, .var 2, .var 3, .var 4, .var 5, .var 6, .var 7, .var 8, .var 9, .var 10, .var 11, .var 12, .var 13, .var 14, .var 15, .var 16, .var 17, .var 18, .var 19, .var 20, .var 21, .var 22, .var 23, .var 24, .var 25, .var 26] <|
      .call F.vec_Sum [.one (.var 153)] [.agg 9] <|
      .call F.vec_Sub [.agg [.var 154, .var 155, .var 156, .var 157, .var 158, .var 159, .var 160, .var 161, .var 162], .agg [.var 18, .var 19, .var 20, .var 21, .var 22, .var 23, .var 24, .var 25, .var 26]] [.agg 9] <|
      .prim (.mk 2) [.var 9, .var 10, .var 11, .var 12, .var 13, .var 14, .var 15, .var 16, .var 17, .var 0, .var 1, .var 2, .var 3, .var 4, .var 5, .var 6, .var 7, .var 8] <|
      .call F.vec_Sum [.one (.var 172)] [.agg 9] <|
      .call F.penumbraref05_Is [.agg [.var 163, .var 164, .var 165, .var 166, .var 167, .var 168, .var 169, .var 170, .var 171], .agg [.var 173, .var 174, .var 175, .var 176, .var 177, .var 178, .var 179, .var 180, .var 181]] [.one] <|
      .ret [.one (.var 182)]) (
      .ret [.one (.bol false)])) (
     .ret [.one (.bol false)])) (
    .ret [.one (.bol false)])) (
   .call F.penumbralaw05_fixed [] [.one] <|
   .ite (.var 121) (
    .ite (.var 73) (
     .ret [.one (.bol false)]) (
     .ret [.one (.bol false)])) (
    .ret [.one (.bol false)]))) (
  .call F.vec_Cross [.agg [.var 40, .var 41, .var 42, .var 43, .var 44, .var 45, .var 46, .var 47, .var 48], .agg [.var 18, .var 19, .var 20, .var 21, .var 22, .var 23, .var 24, .var 25, .var 26]] [.agg 9] <|
  .call F.vec_Cross [.agg [.var 0, .var 1, .var 2, .var 3, .var 4, .var 5, .var 6, .var 7, .var 8], .agg [.var 18, .var 19, .var 20, .var 21, .var 22, .var 23, .var 24, .var 25, .var 26]] [.agg 9] <|
  .call F.vec_Cross [.agg [.var 9, .var 10, .var 11, .var 12, .var 13, .var 14, .var 15, .var 16, .var 17], .agg [.var 18, .var 19, .var 20, .var 21, .var 22, .var 23, .var 24, .var 25, .var 26]] [.agg 9] <|
  .call F.vec_Scale [.agg [.var 27, .var 28, .var 29], .agg [.var 85, .var 86, .var 87, .var 88, .var 89, .var 90, .var 91, .var 92, .var 93]] [.agg 9] <|
  .prim (.mk 2) [.var 76, .var 77, .var 78, .var 79, .var 80, .var 81, .var 82, .var 83, .var 84, .var 94, .var 95, .var 96, .var 97, .var 98, .var 99, .var 100, .var 101, .var 102] <|
  .call F.vec_Sum [.one (.var 103)] [.agg 9] <|
  .call F.penumbraref05_Is [.agg [.var 67, .var 68, .var 69, .var 70, .var 71, .var 72, .var 73, .var 74, .var 75], .agg [.var 104, .var 105, .var 106, .var 107, .var 108, .var 109, .var 110, .var 111, .var 112]] [.one] <|
  .ite (.var 113) (
   .call F.vec_Cross [.agg [.var 18, .var 19, .var 20, .var 21, .var 22, .var 23, .var 24, .var 25, .var 26], .agg [.var 40, .var 41, .var 42, .var 43, .var 44, .var 45, .var 46, .var 47, .var 48]] [.agg 9] <|
   .call F.rat_Of [.one (.int .i64 (-1)), .one (.int .i64 (1))] [.agg 3] <|
   .call F.vec_Cross [.agg [.var 40, .var 41, .var 42, .var 43, .var 44, .var 45, .var 46, .var 47, .var 48], .agg [.var 18, .var 19, .var 20, .var 21, .var 22, .var 23, .var 24, .var 25, .var 26]] [.agg 9] <|
   .call F.vec_Scale [.agg [.var 123, .var 124, .var 125], .agg [.var 126, .var 127, .var 128, .var 129, .var 130, .var 131, .var 132, .var 133, .var 134]] [.agg 9] <|
   .call F.penumbraref05_Is [.agg [.var 114, .var 115, .var 116, .var 117, .var 118, .var 119, .var 120, .var 121, .var 122], .agg [.var 135, .var 136, .var 137, .var 138, .var 139, .var 140, .var 141, .var 142, .var 143]] [.one] <|
   .call F.penumbralaw05_fixed [] [.one] <|
   .ite (.var 145) (
    .ret [.one (.bol false)]) (
    .ret [.one (.bol false)])) (
   .call F.penumbralaw05_fixed [] [.one] <|
   .ite (.var 114) (
    .ret [.one (.bol false)]) (
    .ret [.one (.bol false)])))

theorem tree_vec_Scale : symFunc Go.Proofs.Try.prog H0 400 F.vec_Scale [.agg 3, .agg 9] = some ir_vec_Scale := by kernel_rfl
theorem tree_vec_Dot : symFunc Go.Proofs.Try.prog H0 400 F.vec_Dot [.agg 9, .agg 9] = some ir_vec_Dot := by kernel_rfl
theorem tree_vec_minor : symFunc Go.Proofs.Try.prog H0 400 F.vec_minor [.agg 3, .agg 3, .agg 3, .agg 3] = some ir_vec_minor := by kernel_rfl
theorem tree_vec_Cross : symFunc Go.Proofs.Try.prog H0 400 F.vec_Cross [.agg 9, .agg 9] = some ir_vec_Cross := by kernel_rfl
theorem tree_penumbraref05_Is : symFunc Go.Proofs.Try.prog H0 400 F.penumbraref05_Is [.agg 9, .agg 9] = some ir_penumbraref05_Is := by kernel_rfl
theorem tree_vec_Unit : symFunc Go.Proofs.Try.prog H0 400 F.vec_Unit [.agg 9] = some ir_vec_Unit := by kernel_rfl
theorem tree_penumbraref05_Zero : symFunc Go.Proofs.Try.prog H0 400 F.penumbraref05_Zero [] = some ir_penumbraref05_Zero := by kernel_rfl
theorem tree_penumbralaw05_fixed : symFunc Go.Proofs.Try.prog H0 400 F.penumbralaw05_fixed [] = some ir_penumbralaw05_fixed := by kernel_rfl
theorem tree_vec_Sub : symFunc Go.Proofs.Try.prog H0 400 F.vec_Sub [.agg 9, .agg 9] = some ir_vec_Sub := by kernel_rfl
theorem tree_penumbralaw05_VecLinear : symFunc Go.Proofs.Try.prog H0 400 F.penumbralaw05_VecLinear [.agg 30] = some ir_penumbralaw05_VecLinear := by kernel_rfl
end Go.Px
namespace Go.Px.Na
open Go.RowKit
open Go.Proofs.Try (prog)

theorem n_vec_Scale_0  {r0 r1 r2 r3 : RR} {x0 x1 x2 x3 : Rat} {k0 k1 k2 : Rat} (h0 : Num 9000000000 r0 x0) (h1 : Num 9000000000 r1 x1) (h2 : Num 9000000000 r2 x2) (h3 : Num 9000000000 r3 x3) (e0 : k0 = (x0 * x1)) (e1 : k1 = (x0 * x2)) (e2 : k2 = (x0 * x3))  : PureCalls prog F.vec_Scale [.agg ([.bool r0.neg, nl r0.num, nl r0.den]), .agg ([.bool r1.neg, nl r1.num, nl r1.den, .bool r2.neg, nl r2.num, nl r2.den, .bool r3.neg, nl r3.num, nl r3.den])] [.agg ([.bool (decide ((k0).num < 0)), nn (k0).num.natAbs, nn (k0).den, .bool (decide ((k1).num < 0)), nn (k1).num.natAbs, nn (k1).den, .bool (decide ((k2).num < 0)), nn (k2).num.natAbs, nn (k2).den])] := by
  subst e0 e1 e2
  refine symFunc_sound hmix tree_vec_Scale (by kernel_rfl) rfl ?_
  unfold ir_vec_Scale
  simp only [fa_agg, fa_one, fa_nil, List.cons_append, List.nil_append, List.append_nil]
  refine primS (rl [r0, r1]) rfl ?_
  refine call_step (n_rat_Product_2 (k0 := (x0 * x1)) (h0.mono (by decide)) (h1.mono (by decide)) rfl) rfl ?_
  simp only [fa_agg, fa_one, fa_nil, List.cons_append, List.nil_append, List.append_nil]
  refine primS (rl [r0, r2]) rfl ?_
  refine call_step (n_rat_Product_2 (k0 := (x0 * x2)) (h0.mono (by decide)) (h2.mono (by decide)) rfl) rfl ?_
  simp only [fa_agg, fa_one, fa_nil, List.cons_append, List.nil_append, List.append_nil]
  refine primS (rl [r0, r3]) rfl ?_
  refine call_step (n_rat_Product_2 (k0 := (x0 * x3)) (h0.mono (by decide)) (h3.mono (by decide)) rfl) rfl ?_
  simp only [fa_agg, fa_one, fa_nil, List.cons_append, List.nil_append, List.append_nil]
  exact ret_step rfl

theorem n_vec_Dot_0  {r0 r1 r2 r3 r4 r5 : RR} {x0 x1 x2 x3 x4 x5 : Rat} {k0 : Rat} (h0 : Num 9000000000 r0 x0) (h1 : Num 9000000000 r1 x1) (h2 : Num 9000000000 r2 x2) (h3 : Num 9000000000 r3 x3) (h4 : Num 9000000000 r4 x4) (h5 : Num 9000000000 r5 x5) (e0 : k0 = (((x0 * x3) + (x1 * x4)) + (x2 * x5)))  : PureCalls prog F.vec_Dot [.agg ([.bool r0.neg, nl r0.num, nl r0.den, .bool r1.neg, nl r1.num, nl r1.den, .bool r2.neg, nl r2.num, nl r2.den]), .agg ([.bool r3.neg, nl r3.num, nl r3.den, .bool r4.neg, nl r4.num, nl r4.den, .bool r5.neg, nl r5.num, nl r5.den])] [.agg ([.bool (decide ((k0).num < 0)), nn (k0).num.natAbs, nn (k0).den])] := by
  subst e0
  refine symFunc_sound hmix tree_vec_Dot (by kernel_rfl) rfl ?_
  unfold ir_vec_Dot
  simp only [fa_agg, fa_one, fa_nil, List.cons_append, List.nil_append, List.append_nil]
  refine primS (rl [r0, r3]) rfl ?_
  refine call_step (n_rat_Product_2 (k0 := (x0 * x3)) (h0.mono (by decide)) (h3.mono (by decide)) rfl) rfl ?_
  simp only [fa_agg, fa_one, fa_nil, List.cons_append, List.nil_append, List.append_nil]
  refine primS (rl [r1, r4]) rfl ?_
  refine call_step (n_rat_Product_2 (k0 := (x1 * x4)) (h1.mono (by decide)) (h4.mono (by decide)) rfl) rfl ?_
  simp only [fa_agg, fa_one, fa_nil, List.cons_append, List.nil_append, List.append_nil]
  refine primS (rl [r2, r5]) rfl ?_
  refine call_step (n_rat_Product_2 (k0 := (x2 * x5)) (h2.mono (by decide)) (h5.mono (by decide)) rfl) rfl ?_
  simp only [fa_agg, fa_one, fa_nil, List.cons_append, List.nil_append, List.append_nil]
  refine primS (rl [(cr (x0 * x3)), (cr (x1 * x4)), (cr (x2 * x5))]) rfl ?_
  have m18 : Num 18000000000 (cr (x0 * x3)) (x0 * x3) := Num.of (Sm.mul h0.sm h3.sm)
  have m19 : Num 18000000000 (cr (x1 * x4)) (x1 * x4) := Num.of (Sm.mul h1.sm h4.sm)
  have m20 : Num 18000000000 (cr (x2 * x5)) (x2 * x5) := Num.of (Sm.mul h2.sm h5.sm)
  refine call_step (n_rat_Sum_3 (k0 := (((x0 * x3) + (x1 * x4)) + (x2 * x5))) (m18.mono (by decide)) (m19.mono (by decide)) (m20.mono (by decide)) rfl) rfl ?_
  simp only [fa_agg, fa_one, fa_nil, List.cons_append, List.nil_append, List.append_nil]
  exact ret_step rfl

theorem n_vec_minor_0  {r0 r1 r2 r3 : RR} {x0 x1 x2 x3 : Rat} {k0 : Rat} (h0 : Num 9000000000 r0 x0) (h1 : Num 9000000000 r1 x1) (h2 : Num 9000000000 r2 x2) (h3 : Num 9000000000 r3 x3) (e0 : k0 = ((x0 * x3) - (x1 * x2)))  : PureCalls prog F.vec_minor [.agg ([.bool r0.neg, nl r0.num, nl r0.den]), .agg ([.bool r1.neg, nl r1.num, nl r1.den]), .agg ([.bool r2.neg, nl r2.num, nl r2.den]), .agg ([.bool r3.neg, nl r3.num, nl r3.den])] [.agg ([.bool (decide ((k0).num < 0)), nn (k0).num.natAbs, nn (k0).den])] := by
  subst e0
  refine symFunc_sound hmix tree_vec_minor (by kernel_rfl) rfl ?_
  unfold ir_vec_minor
  simp only [fa_agg, fa_one, fa_nil, List.cons_append, List.nil_append, List.append_nil]
  refine primS (rl [r0, r3]) rfl ?_
  refine call_step (n_rat_Product_2 (k0 := (x0 * x3)) (h0.mono (by decide)) (h3.mono (by decide)) rfl) rfl ?_
  simp only [fa_agg, fa_one, fa_nil, List.cons_append, List.nil_append, List.append_nil]
  refine primS (rl [r1, r2]) rfl ?_
  refine call_step (n_rat_Product_2 (k0 := (x1 * x2)) (h1.mono (by decide)) (h2.mono (by decide)) rfl) rfl ?_
  simp only [fa_agg, fa_one, fa_nil, List.cons_append, List.nil_append, List.append_nil]
  have m27 : Num 18000000000 (cr (x0 * x3)) (x0 * x3) := Num.of (Sm.mul h0.sm h3.sm)
  have m28 : Num 18000000000 (cr (x1 * x2)) (x1 * x2) := Num.of (Sm.mul h1.sm h2.sm)
  refine call_step (n_rat_Sub (k0 := ((x0 * x3) - (x1 * x2))) (m27.mono (by decide)) (m28.mono (by decide)) rfl) rfl ?_
  simp only [fa_agg, fa_one, fa_nil, List.cons_append, List.nil_append, List.append_nil]
  exact ret_step rfl

theorem n_vec_Cross_0  {r0 r1 r2 r3 r4 r5 : RR} {x0 x1 x2 x3 x4 x5 : Rat} {k0 k1 k2 : Rat} (h0 : Num 9000000000 r0 x0) (h1 : Num 9000000000 r1 x1) (h2 : Num 9000000000 r2 x2) (h3 : Num 9000000000 r3 x3) (h4 : Num 9000000000 r4 x4) (h5 : Num 9000000000 r5 x5) (e0 : k0 = ((x1 * x5) - (x2 * x4))) (e1 : k1 = ((x2 * x3) - (x0 * x5))) (e2 : k2 = ((x0 * x4) - (x1 * x3)))  : PureCalls prog F.vec_Cross [.agg ([.bool r0.neg, nl r0.num, nl r0.den, .bool r1.neg, nl r1.num, nl r1.den, .bool r2.neg, nl r2.num, nl r2.den]), .agg ([.bool r3.neg, nl r3.num, nl r3.den, .bool r4.neg, nl r4.num, nl r4.den, .bool r5.neg, nl r5.num, nl r5.den])] [.agg ([.bool (decide ((k0).num < 0)), nn (k0).num.natAbs, nn (k0).den, .bool (decide ((k1).num < 0)), nn (k1).num.natAbs, nn (k1).den, .bool (decide ((k2).num < 0)), nn (k2).num.natAbs, nn (k2).den])] := by
  subst e0 e1 e2
  refine symFunc_sound hmix tree_vec_Cross (by kernel_rfl) rfl ?_
  unfold ir_vec_Cross
  simp only [fa_agg, fa_one, fa_nil, List.cons_append, List.nil_append, List.append_nil]
  refine call_step (n_vec_minor_0 (k0 := ((x1 * x5) - (x2 * x4))) (h1.mono (by decide)) (h2.mono (by decide)) (h4.mono (by decide)) (h5.mono (by decide)) rfl) rfl ?_
  simp only [fa_agg, fa_one, fa_nil, List.cons_append, List.nil_append, List.append_nil]
  refine call_step (n_vec_minor_0 (k0 := ((x2 * x3) - (x0 * x5))) (h2.mono (by decide)) (h0.mono (by decide)) (h5.mono (by decide)) (h3.mono (by decide)) rfl) rfl ?_
  simp only [fa_agg, fa_one, fa_nil, List.cons_append, List.nil_append, List.append_nil]
  refine call_step (n_vec_minor_0 (k0 := ((x0 * x4) - (x1 * x3))) (h0.mono (by decide)) (h1.mono (by decide)) (h3.mono (by decide)) (h4.mono (by decide)) rfl) rfl ?_
  simp only [fa_agg, fa_one, fa_nil, List.cons_append, List.nil_append, List.append_nil]
  exact ret_step rfl

theorem n_penumbraref05_Is_0  {x0 x1 x2 x3 x4 x5 : Rat} (h0 : Num 9000000000 (cr x0) x0) (h1 : Num 9000000000 (cr x1) x1) (h2 : Num 9000000000 (cr x2) x2) (h3 : Num 9000000000 (cr x3) x3) (h4 : Num 9000000000 (cr x4) x4) (h5 : Num 9000000000 (cr x5) x5)  (c0 : x0 = x3) (c1 : x1 = x4) (c2 : x2 = x5) : PureCalls prog F.penumbraref05_Is [.agg ([.bool (decide ((x0).num < 0)), nn (x0).num.natAbs, nn (x0).den, .bool (decide ((x1).num < 0)), nn (x1).num.natAbs, nn (x1).den, .bool (decide ((x2).num < 0)), nn (x2).num.natAbs, nn (x2).den]), .agg ([.bool (decide ((x3).num < 0)), nn (x3).num.natAbs, nn (x3).den, .bool (decide ((x4).num < 0)), nn (x4).num.natAbs, nn (x4).den, .bool (decide ((x5).num < 0)), nn (x5).num.natAbs, nn (x5).den])] [.one (.bool true)] := by
  refine symFunc_sound hmix tree_penumbraref05_Is (by kernel_rfl) rfl ?_
  unfold ir_penumbraref05_Is
  simp only [fa_agg, fa_one, fa_nil, List.cons_append, List.nil_append, List.append_nil]
  refine call_step (n_penumbraref03_Is_t (h0.mono (by decide)) (h3.mono (by decide)) c0) rfl ?_
  simp only [fa_agg, fa_one, fa_nil, List.cons_append, List.nil_append, List.append_nil]
  refine itT rfl ?_
  refine call_step (n_penumbraref03_Is_t (h1.mono (by decide)) (h4.mono (by decide)) c1) rfl ?_
  simp only [fa_agg, fa_one, fa_nil, List.cons_append, List.nil_append, List.append_nil]
  refine itT rfl ?_
  refine call_step (n_penumbraref03_Is_t (h2.mono (by decide)) (h5.mono (by decide)) c2) rfl ?_
  simp only [fa_agg, fa_one, fa_nil, List.cons_append, List.nil_append, List.append_nil]
  exact ret_step rfl

theorem n_penumbraref05_Zero_0 {Z0 : Rat} (Y0 : Z0 = (0 : Rat))    : PureCalls prog F.penumbraref05_Zero [] [.agg ([.bool (decide ((Z0).num < 0)), nn (Z0).num.natAbs, nn (Z0).den, .bool (decide ((Z0).num < 0)), nn (Z0).num.natAbs, nn (Z0).den, .bool (decide ((Z0).num < 0)), nn (Z0).num.natAbs, nn (Z0).den])] := by
  refine symFunc_sound hmix tree_penumbraref05_Zero (by kernel_rfl) rfl ?_
  unfold ir_penumbraref05_Zero
  simp only [fa_agg, fa_one, fa_nil, List.cons_append, List.nil_append, List.append_nil]
  refine call_step (n_penumbraref03_Zero Y0) rfl ?_
  simp only [fa_agg, fa_one, fa_nil, List.cons_append, List.nil_append, List.append_nil]
  refine call_step (n_penumbraref03_Zero Y0) rfl ?_
  simp only [fa_agg, fa_one, fa_nil, List.cons_append, List.nil_append, List.append_nil]
  refine call_step (n_penumbraref03_Zero Y0) rfl ?_
  simp only [fa_agg, fa_one, fa_nil, List.cons_append, List.nil_append, List.append_nil]
  exact ret_step rfl

theorem n_vec_Unit_at0 {Zm4 Zm4_5 Z0 Z1_5 Z3_5 Z1 Z3 Z5 Z25 : Rat} (Ym4 : Zm4 = (-4 : Rat)) (Ym4_5 : Zm4_5 = (-4/5 : Rat)) (Y0 : Z0 = (0 : Rat)) (Y1_5 : Z1_5 = (1/5 : Rat)) (Y3_5 : Z3_5 = (3/5 : Rat)) (Y1 : Z1 = (1 : Rat)) (Y3 : Z3 = (3 : Rat)) (Y5 : Z5 = (5 : Rat)) (Y25 : Z25 = (25 : Rat)) : PureCalls prog F.vec_Unit [.agg ([.bool (decide ((Z3).num < 0)), nn (Z3).num.natAbs, nn (Z3).den, .bool (decide ((Z0).num < 0)), nn (Z0).num.natAbs, nn (Z0).den, .bool (decide ((Zm4).num < 0)), nn (Zm4).num.natAbs, nn (Zm4).den])] [.agg ([.bool (decide ((Z3_5).num < 0)), nn (Z3_5).num.natAbs, nn (Z3_5).den, .bool (decide ((Z0).num < 0)), nn (Z0).num.natAbs, nn (Z0).den, .bool (decide ((Zm4_5).num < 0)), nn (Zm4_5).num.natAbs, nn (Zm4_5).den]), .agg ([.bool (decide ((Z5).num < 0)), nn (Z5).num.natAbs, nn (Z5).den]), .one (.bool true)] := by
  refine symFunc_sound hmix tree_vec_Unit (by kernel_rfl) rfl ?_
  unfold ir_vec_Unit
  simp only [fa_agg, fa_one, fa_nil, List.cons_append, List.nil_append, List.append_nil]
  have m29 : Num 1 (cr Z3) Z3 := Num.c Y3 (by decide +kernel) (by decide +kernel)
  have m30 : Num 1 (cr Z0) Z0 := Num.c Y0 (by decide +kernel) (by decide +kernel)
  have m31 : Num 1 (cr Zm4) Zm4 := Num.c Ym4 (by decide +kernel) (by decide +kernel)
  refine call_step (n_vec_Dot_0 (k0 := Z25) (m29.mono (by decide)) (m30.mono (by decide)) (m31.mono (by decide)) (m29.mono (by decide)) (m30.mono (by decide)) (m31.mono (by decide)) (by rw [Y25, Y3, Y0, Ym4] <;> decide +kernel)) rfl ?_
  simp only [fa_agg, fa_one, fa_nil, List.cons_append, List.nil_append, List.append_nil]
  have m32 : Num 1 (cr Z25) Z25 := Num.c Y25 (by decide +kernel) (by decide +kernel)
  refine call_step (n_rat_Sqrt_t (m32.mono (by decide)) 5 1 (by rw [Y25] <;> decide +kernel) (by rw [Y25] <;> decide +kernel) (Y5.trans (by decide +kernel))) rfl ?_
  simp only [fa_agg, fa_one, fa_nil, List.cons_append, List.nil_append, List.append_nil]
  refine call_step (n_rat_Of (1) (1) (by decide) (by decide) (by decide) (by decide) (Y1.trans (by decide +kernel))) rfl ?_
  simp only [fa_agg, fa_one, fa_nil, List.cons_append, List.nil_append, List.append_nil]
  have m33 : Num 1 (cr Z1) Z1 := Num.c Y1 (by decide +kernel) (by decide +kernel)
  have m34 : Num 1 (cr Z5) Z5 := Num.c Y5 (by decide +kernel) (by decide +kernel)
  refine call_step (n_rat_Div_f (k0 := Z1_5) Y0 (m33.mono (by decide)) (m34.mono (by decide)) (by rw [Y1_5, Y1, Y5] <;> decide +kernel) (by rw [Y5, Y0] <;> decide +kernel)) rfl ?_
  simp only [fa_agg, fa_one, fa_nil, List.cons_append, List.nil_append, List.append_nil]
  refine primS (.bool false) rfl ?_
  refine itF rfl ?_
  refine primS (.bool false) rfl ?_
  refine itF rfl ?_
  have m35 : Num 1 (cr Z1_5) Z1_5 := Num.c Y1_5 (by decide +kernel) (by decide +kernel)
  refine call_step (n_vec_Scale_0 (k0 := Z3_5) (k1 := Z0) (k2 := Zm4_5) (m35.mono (by decide)) (m29.mono (by decide)) (m30.mono (by decide)) (m31.mono (by decide)) (by rw [Y3_5, Y1_5, Y3] <;> decide +kernel) (by rw [Y0, Y1_5] <;> decide +kernel) (by rw [Ym4_5, Y1_5, Ym4] <;> decide +kernel)) rfl ?_
  simp only [fa_agg, fa_one, fa_nil, List.cons_append, List.nil_append, List.append_nil]
  exact ret_step rfl

theorem n_vec_Unit_at1 {Z0 Z1 Z2 : Rat} (Y0 : Z0 = (0 : Rat)) (Y1 : Z1 = (1 : Rat)) (Y2 : Z2 = (2 : Rat)) : PureCalls prog F.vec_Unit [.agg ([.bool (decide ((Z1).num < 0)), nn (Z1).num.natAbs, nn (Z1).den, .bool (decide ((Z1).num < 0)), nn (Z1).num.natAbs, nn (Z1).den, .bool (decide ((Z0).num < 0)), nn (Z0).num.natAbs, nn (Z0).den])] [.agg ([.bool (decide ((Z0).num < 0)), nn (Z0).num.natAbs, nn (Z0).den, .bool (decide ((Z0).num < 0)), nn (Z0).num.natAbs, nn (Z0).den, .bool (decide ((Z0).num < 0)), nn (Z0).num.natAbs, nn (Z0).den]), .agg ([.bool (decide ((Z0).num < 0)), nn (Z0).num.natAbs, nn (Z0).den]), .one (.bool false)] := by
  refine symFunc_sound hmix tree_vec_Unit (by kernel_rfl) rfl ?_
  unfold ir_vec_Unit
  simp only [fa_agg, fa_one, fa_nil, List.cons_append, List.nil_append, List.append_nil]
  have m36 : Num 1 (cr Z1) Z1 := Num.c Y1 (by decide +kernel) (by decide +kernel)
  have m37 : Num 1 (cr Z0) Z0 := Num.c Y0 (by decide +kernel) (by decide +kernel)
  refine call_step (n_vec_Dot_0 (k0 := Z2) (m36.mono (by decide)) (m36.mono (by decide)) (m37.mono (by decide)) (m36.mono (by decide)) (m36.mono (by decide)) (m37.mono (by decide)) (by rw [Y2, Y1, Y0] <;> decide +kernel)) rfl ?_
  simp only [fa_agg, fa_one, fa_nil, List.cons_append, List.nil_append, List.append_nil]
  have m38 : Num 1 (cr Z2) Z2 := Num.c Y2 (by decide +kernel) (by decide +kernel)
  refine call_step (n_rat_Sqrt_f Y0 (m38.mono (by decide)) 1 (by rw [Y2] <;> decide +kernel) (by rw [Y2] <;> decide +kernel)) rfl ?_
  simp only [fa_agg, fa_one, fa_nil, List.cons_append, List.nil_append, List.append_nil]
  refine call_step (n_rat_Of (1) (1) (by decide) (by decide) (by decide) (by decide) (Y1.trans (by decide +kernel))) rfl ?_
  simp only [fa_agg, fa_one, fa_nil, List.cons_append, List.nil_append, List.append_nil]
  refine call_step (n_rat_Div_t Y0 (m36.mono (by decide)) (m37.mono (by decide)) rfl) rfl ?_
  simp only [fa_agg, fa_one, fa_nil, List.cons_append, List.nil_append, List.append_nil]
  refine primS (.bool true) rfl ?_
  refine itT rfl ?_
  refine call_step (n_vec_Of (0) (0) (0) (by decide) (by decide) (by decide) (by decide) (by decide) (by decide) (Y0.trans (by decide +kernel)) (Y0.trans (by decide +kernel)) (Y0.trans (by decide +kernel))) rfl ?_
  simp only [fa_agg, fa_one, fa_nil, List.cons_append, List.nil_append, List.append_nil]
  refine call_step (n_rat_Of (0) (1) (by decide) (by decide) (by decide) (by decide) (Y0.trans (by decide +kernel))) rfl ?_
  simp only [fa_agg, fa_one, fa_nil, List.cons_append, List.nil_append, List.append_nil]
  exact ret_step rfl

theorem n_penumbralaw05_fixed : PureCalls prog F.penumbralaw05_fixed [] [.one (.bool true)] := by
  obtain ⟨Zm4, Ym4⟩ := ex_eq (-4 : Rat)
  obtain ⟨Zm4_5, Ym4_5⟩ := ex_eq (-4/5 : Rat)
  obtain ⟨Z0, Y0⟩ := ex_eq (0 : Rat)
  obtain ⟨Z1_5, Y1_5⟩ := ex_eq (1/5 : Rat)
  obtain ⟨Z3_5, Y3_5⟩ := ex_eq (3/5 : Rat)
  obtain ⟨Z1, Y1⟩ := ex_eq (1 : Rat)
  obtain ⟨Z2, Y2⟩ := ex_eq (2 : Rat)
  obtain ⟨Z3, Y3⟩ := ex_eq (3 : Rat)
  obtain ⟨Z5, Y5⟩ := ex_eq (5 : Rat)
  obtain ⟨Z25, Y25⟩ := ex_eq (25 : Rat)
  refine symFunc_sound hmix tree_penumbralaw05_fixed (by kernel_rfl) rfl ?_
  unfold ir_penumbralaw05_fixed
  simp only [fa_agg, fa_one, fa_nil, List.cons_append, List.nil_append, List.append_nil]
  refine call_step (n_vec_Of (3) (0) (-4) (by decide) (by decide) (by decide) (by decide) (by decide) (by decide) (Y3.trans (by decide +kernel)) (Y0.trans (by decide +kernel)) (Ym4.trans (by decide +kernel))) rfl ?_
  simp only [fa_agg, fa_one, fa_nil, List.cons_append, List.nil_append, List.append_nil]
  refine call_step (n_vec_Unit_at0 Ym4 Ym4_5 Y0 Y1_5 Y3_5 Y1 Y3 Y5 Y25) rfl ?_
  simp only [fa_agg, fa_one, fa_nil, List.cons_append, List.nil_append, List.append_nil]
  refine call_step (n_vec_Of (1) (1) (0) (by decide) (by decide) (by decide) (by decide) (by decide) (by decide) (Y1.trans (by decide +kernel)) (Y1.trans (by decide +kernel)) (Y0.trans (by decide +kernel))) rfl ?_
  simp only [fa_agg, fa_one, fa_nil, List.cons_append, List.nil_append, List.append_nil]
  refine call_step (n_vec_Unit_at1 Y0 Y1 Y2) rfl ?_
  simp only [fa_agg, fa_one, fa_nil, List.cons_append, List.nil_append, List.append_nil]
  refine call_step (n_vec_Of (1) (0) (0) (by decide) (by decide) (by decide) (by decide) (by decide) (by decide) (Y1.trans (by decide +kernel)) (Y0.trans (by decide +kernel)) (Y0.trans (by decide +kernel))) rfl ?_
  simp only [fa_agg, fa_one, fa_nil, List.cons_append, List.nil_append, List.append_nil]
  refine call_step (n_vec_Of (0) (1) (0) (by decide) (by decide) (by decide) (by decide) (by decide) (by decide) (Y0.trans (by decide +kernel)) (Y1.trans (by decide +kernel)) (Y0.trans (by decide +kernel))) rfl ?_
  simp only [fa_agg, fa_one, fa_nil, List.cons_append, List.nil_append, List.append_nil]
  have m39 : Num 1 (cr Z1) Z1 := Num.c Y1 (by decide +kernel) (by decide +kernel)
  have m40 : Num 1 (cr Z0) Z0 := Num.c Y0 (by decide +kernel) (by decide +kernel)
  refine call_step (n_vec_Cross_0 (k0 := Z0) (k1 := Z0) (k2 := Z1) (m39.mono (by decide)) (m40.mono (by decide)) (m40.mono (by decide)) (m40.mono (by decide)) (m39.mono (by decide)) (m40.mono (by decide)) (by rw [Y0, Y1] <;> decide +kernel) (by rw [Y0, Y1] <;> decide +kernel) (by rw [Y1, Y0] <;> decide +kernel)) rfl ?_
  simp only [fa_agg, fa_one, fa_nil, List.cons_append, List.nil_append, List.append_nil]
  refine call_step (n_penumbraref05_Of (0) (0) (1) (by decide) (by decide) (by decide) (by decide) (by decide) (by decide) (Y0.trans (by decide +kernel)) (Y0.trans (by decide +kernel)) (Y1.trans (by decide +kernel))) rfl ?_
  simp only [fa_agg, fa_one, fa_nil, List.cons_append, List.nil_append, List.append_nil]
  refine call_step (n_penumbraref05_Is_0 (m40.mono (by decide)) (m40.mono (by decide)) (m39.mono (by decide)) (m40.mono (by decide)) (m40.mono (by decide)) (m39.mono (by decide)) rfl rfl rfl) rfl ?_
  simp only [fa_agg, fa_one, fa_nil, List.cons_append, List.nil_append, List.append_nil]
  refine itT rfl ?_
  refine itT rfl ?_
  refine call_step (n_penumbraref03_Of (5) (1) (by decide) (by decide) (by decide) (by decide) (Y5.trans (by decide +kernel))) rfl ?_
  simp only [fa_agg, fa_one, fa_nil, List.cons_append, List.nil_append, List.append_nil]
  have m41 : Num 1 (cr Z5) Z5 := Num.c Y5 (by decide +kernel) (by decide +kernel)
  refine call_step (n_penumbraref03_Is_t (m41.mono (by decide)) (m41.mono (by decide)) rfl) rfl ?_
  simp only [fa_agg, fa_one, fa_nil, List.cons_append, List.nil_append, List.append_nil]
  refine itT rfl ?_
  refine call_step (n_penumbraref03_Of (3) (5) (by decide) (by decide) (by decide) (by decide) (Y3_5.trans (by decide +kernel))) rfl ?_
  simp only [fa_agg, fa_one, fa_nil, List.cons_append, List.nil_append, List.append_nil]
  have m42 : Num 1 (cr Z3_5) Z3_5 := Num.c Y3_5 (by decide +kernel) (by decide +kernel)
  refine call_step (n_penumbraref03_Is_t (m42.mono (by decide)) (m42.mono (by decide)) rfl) rfl ?_
  simp only [fa_agg, fa_one, fa_nil, List.cons_append, List.nil_append, List.append_nil]
  refine itT rfl ?_
  refine call_step (n_penumbraref03_Of (-4) (5) (by decide) (by decide) (by decide) (by decide) (Ym4_5.trans (by decide +kernel))) rfl ?_
  simp only [fa_agg, fa_one, fa_nil, List.cons_append, List.nil_append, List.append_nil]
  have m43 : Num 1 (cr Zm4_5) Zm4_5 := Num.c Ym4_5 (by decide +kernel) (by decide +kernel)
  refine call_step (n_penumbraref03_Is_t (m43.mono (by decide)) (m43.mono (by decide)) rfl) rfl ?_
  simp only [fa_agg, fa_one, fa_nil, List.cons_append, List.nil_append, List.append_nil]
  refine itT rfl ?_
  refine primS (.bool true) rfl ?_
  refine itT rfl ?_
  refine call_step (n_vec_Sum_0 Y0) rfl ?_
  simp only [fa_agg, fa_one, fa_nil, List.cons_append, List.nil_append, List.append_nil]
  refine call_step (n_penumbraref05_Zero_0 Y0) rfl ?_
  simp only [fa_agg, fa_one, fa_nil, List.cons_append, List.nil_append, List.append_nil]
  refine call_step (n_penumbraref05_Is_0 (m40.mono (by decide)) (m40.mono (by decide)) (m40.mono (by decide)) (m40.mono (by decide)) (m40.mono (by decide)) (m40.mono (by decide)) rfl rfl rfl) rfl ?_
  simp only [fa_agg, fa_one, fa_nil, List.cons_append, List.nil_append, List.append_nil]
  exact ret_step rfl

theorem n_vec_Sub_0  {r0 r1 r2 r3 r4 r5 : RR} {x0 x1 x2 x3 x4 x5 : Rat} {k0 k1 k2 : Rat} (h0 : Num 9000000000 r0 x0) (h1 : Num 9000000000 r1 x1) (h2 : Num 9000000000 r2 x2) (h3 : Num 9000000000 r3 x3) (h4 : Num 9000000000 r4 x4) (h5 : Num 9000000000 r5 x5) (e0 : k0 = (x0 - x3)) (e1 : k1 = (x1 - x4)) (e2 : k2 = (x2 - x5))  : PureCalls prog F.vec_Sub [.agg ([.bool r0.neg, nl r0.num, nl r0.den, .bool r1.neg, nl r1.num, nl r1.den, .bool r2.neg, nl r2.num, nl r2.den]), .agg ([.bool r3.neg, nl r3.num, nl r3.den, .bool r4.neg, nl r4.num, nl r4.den, .bool r5.neg, nl r5.num, nl r5.den])] [.agg ([.bool (decide ((k0).num < 0)), nn (k0).num.natAbs, nn (k0).den, .bool (decide ((k1).num < 0)), nn (k1).num.natAbs, nn (k1).den, .bool (decide ((k2).num < 0)), nn (k2).num.natAbs, nn (k2).den])] := by
  subst e0 e1 e2
  refine symFunc_sound hmix tree_vec_Sub (by kernel_rfl) rfl ?_
  unfold ir_vec_Sub
  simp only [fa_agg, fa_one, fa_nil, List.cons_append, List.nil_append, List.append_nil]
  refine call_step (n_rat_Sub (k0 := (x0 - x3)) (h0.mono (by decide)) (h3.mono (by decide)) rfl) rfl ?_
  simp only [fa_agg, fa_one, fa_nil, List.cons_append, List.nil_append, List.append_nil]
  refine call_step (n_rat_Sub (k0 := (x1 - x4)) (h1.mono (by decide)) (h4.mono (by decide)) rfl) rfl ?_
  simp only [fa_agg, fa_one, fa_nil, List.cons_append, List.nil_append, List.append_nil]
  refine call_step (n_rat_Sub (k0 := (x2 - x5)) (h2.mono (by decide)) (h5.mono (by decide)) rfl) rfl ?_
  simp only [fa_agg, fa_one, fa_nil, List.cons_append, List.nil_append, List.append_nil]
  exact ret_step rfl

end Go.Px.Na

/- XTriHits: the trees of functions and their contracts, as programs of mine printed them. -/
import Derived.Test.YtadaibgdeojlmaaLs
import Derived.Test.YtadaibgdeojlmaaPx24
import Derived.Test.YtadaibgdeojlmaaProg
import Derived.Tactics
set_option maxRecDepth 20000
set_option maxHeartbeats 40000000
set_option linter.unusedVariables false
set_option linter.unusedSimpArgs false
namespace Go.Px
open Go.RowKit
def ir_vec_Sub : IR :=
 .call F.rat_Sub [.agg [.var 0, .var 1, .var 2], .agg [.var 9, .var 10, .var 11]] [.agg 3] <|
 .call F.rat_Sub [.agg [.var 3, .var 4, .var 5], .agg [.var 12, .var 13, .var 14]] [.agg 3] <|
 .call F.rat_Sub [.agg [.var 6, .var 7, .var 8], .agg [.var 15, .var 16, .var 17]] [.agg 3] <|
 .ret [.agg [.var 18, .var 19, .var 20, .var 21, .var 22, .var 23, .var 24, .var 25, .var 26]]

def ir_tri_sides : IR :=
 .call F.vec_Sub [.agg [.var 9, .var 10, .var 11, .var 12, .var 13, .var 14, .var 15, .var 16, .var 17], .agg [.var 0, .var 1, .var 2, .var 3, .var 4, .var 5, .var 6, .var 7, .var 8]] [.agg 9] <|
 .call F.vec_Sub [.agg [.var 18, .var 19, .var 20, .var 21, .var 22, .var 23, .var 24, .var 25, .var 26], .agg [.var 0, .var 1, .var 2, .var 3, .var 4, .var 5, .var 6, .var 7, .var 8]] [.agg 9] <|
 .ret [.agg [.var 27, .var 28, .var 29, .var 30, .var 31, .var 32, .var 33, .var 34, .var 35], .agg [.var 36, .var 37, .var 38, .var 39, .var 40, .var 41, .var 42, .var 43, .var 44]]

def ir_vec_minor : IR :=
 .prim (.mk 2) [.var 0, .var 1, .var 2, .var 9, .var 10, .var 11] <|
 .call F.rat_Product [.one (.var 12)] [.agg 3] <|
 .prim (.mk 2) [.var 3, .var 4, .var 5, .var 6, .var 7, .var 8] <|
 .call F.rat_Product [.one (.var 16)] [.agg 3] <|
 .call F.rat_Sub [.agg [.var 13, .var 14, .var 15], .agg [.var 17, .var 18, .var 19]] [.agg 3] <|
 .ret [.agg [.var 20, .var 21, .var 22]]

def ir_vec_Cross : IR :=
 .call F.vec_minor [.agg [.var 3, .var 4, .var 5], .agg [.var 6, .var 7, .var 8], .agg [.var 12, .var 13, .var 14], .agg [.var 15, .var 16, .var 17]] [.agg 3] <|
 .call F.vec_minor [.agg [.var 6, .var 7, .var 8], .agg [.var 0, .var 1, .var 2], .agg [.var 15, .var 16, .var 17], .agg [.var 9, .var 10, .var 11]] [.agg 3] <|
 .call F.vec_minor [.agg [.var 0, .var 1, .var 2], .agg [.var 3, .var 4, .var 5], .agg [.var 9, .var 10, .var 11], .agg [.var 12, .var 13, .var 14]] [.agg 3] <|
 .ret [.agg [.var 18, .var 19, .var 20, .var 21, .var 22, .var 23, .var 24, .var 25, .var 26]]

def ir_vec_Dot : IR :=
 .prim (.mk 2) [.var 0, .var 1, .var 2, .var 9, .var 10, .var 11] <|
 .call F.rat_Product [.one (.var 18)] [.agg 3] <|
 .prim (.mk 2) [.var 3, .var 4, .var 5, .var 12, .var 13, .var 14] <|
 .call F.rat_Product [.one (.var 22)] [.agg 3] <|
 .prim (.mk 2) [.var 6, .var 7, .var 8, .var 15, .var 16, .var 17] <|
 .call F.rat_Product [.one (.var 26)] [.agg 3] <|
 .prim (.mk 3) [.var 19, .var 20, .var 21, .var 23, .var 24, .var 25, .var 27, .var 28, .var 29] <|
 .call F.rat_Sum [.one (.var 30)] [.agg 3] <|
 .ret [.agg [.var 31, .var 32, .var 33]]

def ir_tri_Hit : IR :=
 .call F.rat_Of [.one (.int .i64 (0)), .one (.int .i64 (1))] [.agg 3] <|
 .call F.tri_sides [.agg [.var 18, .var 19, .var 20, .var 21, .var 22, .var 23, .var 24, .var 25, .var 26, .var 27, .var 28, .var 29, .var 30, .var 31, .var 32, .var 33, .var 34, .var 35, .var 36, .var 37, .var 38, .var 39, .var 40, .var 41, .var 42, .var 43, .var 44]] [.agg 9, .agg 9] <|
 .call F.vec_Cross [.agg [.var 9, .var 10, .var 11, .var 12, .var 13, .var 14, .var 15, .var 16, .var 17], .agg [.var 57, .var 58, .var 59, .var 60, .var 61, .var 62, .var 63, .var 64, .var 65]] [.agg 9] <|
 .call F.vec_Dot [.agg [.var 48, .var 49, .var 50, .var 51, .var 52, .var 53, .var 54, .var 55, .var 56], .agg [.var 66, .var 67, .var 68, .var 69, .var 70, .var 71, .var 72, .var 73, .var 74]] [.agg 3] <|
 .call F.rat_Of [.one (.int .i64 (1)), .one (.int .i64 (1))] [.agg 3] <|
 .call F.rat_Div [.agg [.var 78, .var 79, .var 80], .agg [.var 75, .var 76, .var 77]] [.agg 3, .one] <|
 .prim .not [.var 84] <|
 .ite (.var 85) (
  .ret [.agg [.var 45, .var 46, .var 47, .var 45, .var 46, .var 47, .var 45, .var 46, .var 47], .one (.bol false)]) (
  .call F.vec_Sub [.agg [.var 0, .var 1, .var 2, .var 3, .var 4, .var 5, .var 6, .var 7, .var 8], .agg [.var 18, .var 19, .var 20, .var 21, .var 22, .var 23, .var 24, .var 25, .var 26]] [.agg 9] <|
  .call F.vec_Dot [.agg [.var 86, .var 87, .var 88, .var 89, .var 90, .var 91, .var 92, .var 93, .var 94], .agg [.var 66, .var 67, .var 68, .var 69, .var 70, .var 71, .var 72, .var 73, .var 74]] [.agg 3] <|
  .prim (.mk 2) [.var 81, .var 82, .var 83, .var 95, .var 96, .var 97] <|
  .call F.rat_Product [.one (.var 98)] [.agg 3] <|
  .call F.rat_Sign [.agg [.var 99, .var 100, .var 101]] [.one] <|
  .prim (.bin .lss) [.var 102, .int .i64 (0)] <|
  .ite (.var 103) (
   .ret [.agg [.var 45, .var 46, .var 47, .var 45, .var 46, .var 47, .var 45, .var 46, .var 47], .one (.bol false)]) (
   .call F.vec_Cross [.agg [.var 86, .var 87, .var 88, .var 89, .var 90, .var 91, .var 92, .var 93, .var 94], .agg [.var 48, .var 49, .var 50, .var 51, .var 52, .var 53, .var 54, .var 55, .var 56]] [.agg 9] <|
   .call F.vec_Dot [.agg [.var 9, .var 10, .var 11, .var 12, .var 13, .var 14, .var 15, .var 16, .var 17], .agg [.var 104, .var 105, .var 106, .var 107, .var 108, .var 109, .var 110, .var 111, .var 112]] [.agg 3] <|
   .prim (.mk 2) [.var 81, .var 82, .var 83, .var 113, .var 114, .var 115] <|
   .call F.rat_Product [.one (.var 116)] [.agg 3] <|
   .call F.vec_Dot [.agg [.var 57, .var 58, .var 59, .var 60, .var 61, .var 62, .var 63, .var 64, .var 65], .agg [.var 104, .var 105, .var 106, .var 107, .var 108, .var 109, .var 110, .var 111, .var 112]] [.agg 3] <|
   .prim (.mk 2) [.var 81, .var 82, .var 83, .var 120, .var 121, .var 122] <|
   .call F.rat_Product [.one (.var 123)] [.agg 3] <|
   .call F.rat_Sign [.agg [.var 117, .var 118, .var 119]] [.one] <|
   .prim (.bin .lss) [.var 127, .int .i64 (0)] <|
   .ite (.var 128) (
    .ret [.agg [.var 45, .var 46, .var 47, .var 45, .var 46, .var 47, .var 45, .var 46, .var 47], .one (.bol false)]) (
    .call F.rat_Sign [.agg [.var 124, .var 125, .var 126]] [.one] <|
    .prim (.bin .leq) [.var 129, .int .i64 (0)] <|
    .ite (.var 130) (
     .ret [.agg [.var 45, .var 46, .var 47, .var 45, .var 46, .var 47, .var 45, .var 46, .var 47], .one (.bol false)]) (
     .prim (.mk 2) [.var 99, .var 100, .var 101, .var 117, .var 118, .var 119] <|
     .call F.rat_Sum [.one (.var 131)] [.agg 3] <|
     .call F.rat_Of [.one (.int .i64 (1)), .one (.int .i64 (1))] [.agg 3] <|
     .call F.rat_Cmp [.agg [.var 132, .var 133, .var 134], .agg [.var 135, .var 136, .var 137]] [.one] <|
     .prim (.bin .gtr) [.var 138, .int .i64 (0)] <|
     .ite (.var 139) (
      .ret [.agg [.var 45, .var 46, .var 47, .var 45, .var 46, .var 47, .var 45, .var 46, .var 47], .one (.bol false)]) (
      .ret [.agg [.var 124, .var 125, .var 126, .var 99, .var 100, .var 101, .var 117, .var 118, .var 119], .one (.bol true)])))))

def ir_penumbraref05_Sub : IR :=
 .call F.penumbraref03_Sub [.agg [.var 0, .var 1, .var 2], .agg [.var 9, .var 10, .var 11]] [.agg 3] <|
 .call F.penumbraref03_Sub [.agg [.var 3, .var 4, .var 5], .agg [.var 12, .var 13, .var 14]] [.agg 3] <|
 .call F.penumbraref03_Sub [.agg [.var 6, .var 7, .var 8], .agg [.var 15, .var 16, .var 17]] [.agg 3] <|
 .ret [.agg [.var 18, .var 19, .var 20, .var 21, .var 22, .var 23, .var 24, .var 25, .var 26]]

def ir_penumbraref05_Cross : IR :=
 .call F.penumbraref03_Mul [.agg [.var 3, .var 4, .var 5], .agg [.var 15, .var 16, .var 17]] [.agg 3] <|
 .call F.penumbraref03_Mul [.agg [.var 6, .var 7, .var 8], .agg [.var 12, .var 13, .var 14]] [.agg 3] <|
 .call F.penumbraref03_Sub [.agg [.var 18, .var 19, .var 20], .agg [.var 21, .var 22, .var 23]] [.agg 3] <|
 .call F.penumbraref03_Mul [.agg [.var 6, .var 7, .var 8], .agg [.var 9, .var 10, .var 11]] [.agg 3] <|
 .call F.penumbraref03_Mul [.agg [.var 0, .var 1, .var 2], .agg [.var 15, .var 16, .var 17]] [.agg 3] <|
 .call F.penumbraref03_Sub [.agg [.var 27, .var 28, .var 29], .agg [.var 30, .var 31, .var 32]] [.agg 3] <|
 .call F.penumbraref03_Mul [.agg [.var 0, .var 1, .var 2], .agg [.var 12, .var 13, .var 14]] [.agg 3] <|
 .call F.penumbraref03_Mul [.agg [.var 3, .var 4, .var 5], .agg [.var 9, .var 10, .var 11]] [.agg 3] <|
 .call F.penumbraref03_Sub [.agg [.var 36, .var 37, .var 38], .agg [.var 39, .var 40, .var 41]] [.agg 3] <|
 .ret [.agg [.var 24, .var 25, .var 26, .var 33, .var 34, .var 35, .var 42, .var 43, .var 44]]

def ir_penumbraref08_Normal : IR :=
 .call F.penumbraref05_Sub [.agg [.var 9, .var 10, .var 11, .var 12, .var 13, .var 14, .var 15, .var 16, .var 17], .agg [.var 0, .var 1, .var 2, .var 3, .var 4, .var 5, .var 6, .var 7, .var 8]] [.agg 9] <|
 .call F.penumbraref05_Sub [.agg [.var 18, .var 19, .var 20, .var 21, .var 22, .var 23, .var 24, .var 25, .var 26], .agg [.var 0, .var 1, .var 2, .var 3, .var 4, .var 5, .var 6, .var 7, .var 8]] [.agg 9] <|
 .call F.penumbraref05_Cross [.agg [.var 27, .var 28, .var 29, .var 30, .var 31, .var 32, .var 33, .var 34, .var 35], .agg [.var 36, .var 37, .var 38, .var 39, .var 40, .var 41, .var 42, .var 43, .var 44]] [.agg 9] <|
 .ret [.agg [.var 45, .var 46, .var 47, .var 48, .var 49, .var 50, .var 51, .var 52, .var 53]]

def ir_penumbraref05_Dot : IR :=
 .call F.penumbraref03_Mul [.agg [.var 0, .var 1, .var 2], .agg [.var 9, .var 10, .var 11]] [.agg 3] <|
 .call F.penumbraref03_Mul [.agg [.var 3, .var 4, .var 5], .agg [.var 12, .var 13, .var 14]] [.agg 3] <|
 .call F.penumbraref03_Add [.agg [.var 18, .var 19, .var 20], .agg [.var 21, .var 22, .var 23]] [.agg 3] <|
 .call F.penumbraref03_Mul [.agg [.var 6, .var 7, .var 8], .agg [.var 15, .var 16, .var 17]] [.agg 3] <|
 .call F.penumbraref03_Add [.agg [.var 24, .var 25, .var 26], .agg [.var 27, .var 28, .var 29]] [.agg 3] <|
 .ret [.agg [.var 30, .var 31, .var 32]]

def ir_penumbraref08_None : IR :=
 .call F.penumbraref03_Zero [] [.agg 3] <|
 .call F.penumbraref03_Zero [] [.agg 3] <|
 .call F.penumbraref03_Zero [] [.agg 3] <|
 .ret [.agg [.var 0, .var 1, .var 2, .var 3, .var 4, .var 5, .var 6, .var 7, .var 8]]

def ir_penumbraref05_Scale : IR :=
 .call F.penumbraref03_Mul [.agg [.var 0, .var 1, .var 2], .agg [.var 3, .var 4, .var 5]] [.agg 3] <|
 .call F.penumbraref03_Mul [.agg [.var 0, .var 1, .var 2], .agg [.var 6, .var 7, .var 8]] [.agg 3] <|
 .call F.penumbraref03_Mul [.agg [.var 0, .var 1, .var 2], .agg [.var 9, .var 10, .var 11]] [.agg 3] <|
 .ret [.agg [.var 12, .var 13, .var 14, .var 15, .var 16, .var 17, .var 18, .var 19, .var 20]]

def ir_penumbraref05_Add : IR :=
 .call F.penumbraref03_Add [.agg [.var 0, .var 1, .var 2], .agg [.var 9, .var 10, .var 11]] [.agg 3] <|
 .call F.penumbraref03_Add [.agg [.var 3, .var 4, .var 5], .agg [.var 12, .var 13, .var 14]] [.agg 3] <|
 .call F.penumbraref03_Add [.agg [.var 6, .var 7, .var 8], .agg [.var 15, .var 16, .var 17]] [.agg 3] <|
 .ret [.agg [.var 18, .var 19, .var 20, .var 21, .var 22, .var 23, .var 24, .var 25, .var 26]]

def ir_penumbraref08_At : IR :=
 .call F.penumbraref05_Scale [.agg [.var 18, .var 19, .var 20], .agg [.var 9, .var 10, .var 11, .var 12, .var 13, .var 14, .var 15, .var 16, .var 17]] [.agg 9] <|
 .call F.penumbraref05_Add [.agg [.var 0, .var 1, .var 2, .var 3, .var 4, .var 5, .var 6, .var 7, .var 8], .agg [.var 21, .var 22, .var 23, .var 24, .var 25, .var 26, .var 27, .var 28, .var 29]] [.agg 9] <|
 .ret [.agg [.var 30, .var 31, .var 32, .var 33, .var 34, .var 35, .var 36, .var 37, .var 38]]

def ir_penumbraref08_Hit : IR :=
 .call F.penumbraref08_Normal [.agg [.var 18, .var 19, .var 20, .var 21, .var 22, .var 23, .var 24, .var 25, .var 26, .var 27, .var 28, .var 29, .var 30, .var 31, .var 32, .var 33, .var 34, .var 35, .var 36, .var 37, .var 38, .var 39, .var 40, .var 41, .var 42, .var 43, .var 44]] [.agg 9] <|
 .call F.penumbraref05_Dot [.agg [.var 45, .var 46, .var 47, .var 48, .var 49, .var 50, .var 51, .var 52, .var 53], .agg [.var 9, .var 10, .var 11, .var 12, .var 13, .var 14, .var 15, .var 16, .var 17]] [.agg 3] <|
 .call F.penumbraref03_Sign [.agg [.var 54, .var 55, .var 56]] [.one] <|
 .prim (.bin .eql) [.var 57, .int .i64 (0)] <|
 .ite (.var 58) (
  .call F.penumbraref08_None [] [.agg 9] <|
  .ret [.agg [.var 59, .var 60, .var 61, .var 62, .var 63, .var 64, .var 65, .var 66, .var 67], .one (.bol false)]) (
  .call F.penumbraref05_Sub [.agg [.var 18, .var 19, .var 20, .var 21, .var 22, .var 23, .var 24, .var 25, .var 26], .agg [.var 0, .var 1, .var 2, .var 3, .var 4, .var 5, .var 6, .var 7, .var 8]] [.agg 9] <|
  .call F.penumbraref05_Dot [.agg [.var 45, .var 46, .var 47, .var 48, .var 49, .var 50, .var 51, .var 52, .var 53], .agg [.var 59, .var 60, .var 61, .var 62, .var 63, .var 64, .var 65, .var 66, .var 67]] [.agg 3] <|
  .call F.penumbraref03_Over [.agg [.var 68, .var 69, .var 70], .agg [.var 54, .var 55, .var 56]] [.agg 3] <|
  .call F.penumbraref08_At [.agg [.var 0, .var 1, .var 2, .var 3, .var 4, .var 5, .var 6, .var 7, .var 8], .agg [.var 9, .var 10, .var 11, .var 12, .var 13, .var 14, .var 15, .var 16, .var 17], .agg [.var 71, .var 72, .var 73]] [.agg 9] <|
  .call F.penumbraref05_Sub [.agg [.var 74, .var 75, .var 76, .var 77, .var 78, .var 79, .var 80, .var 81, .var 82], .agg [.var 18, .var 19, .var 20, .var 21, .var 22, .var 23, .var 24, .var 25, .var 26]] [.agg 9] <|
  .call F.penumbraref05_Dot [.agg [.var 45, .var 46, .var 47, .var 48, .var 49, .var 50, .var 51, .var 52, .var 53], .agg [.var 45, .var 46, .var 47, .var 48, .var 49, .var 50, .var 51, .var 52, .var 53]] [.agg 3] <|
  .call F.penumbraref05_Sub [.agg [.var 36, .var 37, .var 38, .var 39, .var 40, .var 41, .var 42, .var 43, .var 44], .agg [.var 18, .var 19, .var 20, .var 21, .var 22, .var 23, .var 24, .var 25, .var 26]] [.agg 9] <|
  .call F.penumbraref05_Cross [.agg [.var 83, .var 84, .var 85, .var 86, .var 87, .var 88, .var 89, .var 90, .var 91], .agg [.var 95, .var 96, .var 97, .var 98, .var 99, .var 100, .var 101, .var 102, .var 103]] [.agg 9] <|
  .call F.penumbraref05_Dot [.agg [.var 104, .var 105, .var 106, .var 107, .var 108, .var 109, .var 110, .var 111, .var 112], .agg [.var 45, .var 46, .var 47, .var 48, .var 49, .var 50, .var 51, .var 52, .var 53]] [.agg 3] <|
  .call F.penumbraref03_Over [.agg [.var 113, .var 114, .var 115], .agg [.var 92, .var 93, .var 94]] [.agg 3] <|
  .call F.penumbraref05_Sub [.agg [.var 27, .var 28, .var 29, .var 30, .var 31, .var 32, .var 33, .var 34, .var 35], .agg [.var 18, .var 19, .var 20, .var 21, .var 22, .var 23, .var 24, .var 25, .var 26]] [.agg 9] <|
  .call F.penumbraref05_Cross [.agg [.var 119, .var 120, .var 121, .var 122, .var 123, .var 124, .var 125, .var 126, .var 127], .agg [.var 83, .var 84, .var 85, .var 86, .var 87, .var 88, .var 89, .var 90, .var 91]] [.agg 9] <|
  .call F.penumbraref05_Dot [.agg [.var 128, .var 129, .var 130, .var 131, .var 132, .var 133, .var 134, .var 135, .var 136], .agg [.var 45, .var 46, .var 47, .var 48, .var 49, .var 50, .var 51, .var 52, .var 53]] [.agg 3] <|
  .call F.penumbraref03_Over [.agg [.var 137, .var 138, .var 139], .agg [.var 92, .var 93, .var 94]] [.agg 3] <|
  .call F.penumbraref03_Sign [.agg [.var 71, .var 72, .var 73]] [.one] <|
  .prim (.bin .leq) [.var 143, .int .i64 (0)] <|
  .ite (.var 144) (
   .call F.penumbraref08_None [] [.agg 9] <|
   .ret [.agg [.var 145, .var 146, .var 147, .var 148, .var 149, .var 150, .var 151, .var 152, .var 153], .one (.bol false)]) (
   .call F.penumbraref03_Sign [.agg [.var 116, .var 117, .var 118]] [.one] <|
   .prim (.bin .lss) [.var 145, .int .i64 (0)] <|
   .ite (.var 146) (
    .call F.penumbraref08_None [] [.agg 9] <|
    .ret [.agg [.var 147, .var 148, .var 149, .var 150, .var 151, .var 152, .var 153, .var 154, .var 155], .one (.bol false)]) (
    .call F.penumbraref03_Sign [.agg [.var 140, .var 141, .var 142]] [.one] <|
    .prim (.bin .lss) [.var 147, .int .i64 (0)] <|
    .ite (.var 148) (
     .call F.penumbraref08_None [] [.agg 9] <|
     .ret [.agg [.var 149, .var 150, .var 151, .var 152, .var 153, .var 154, .var 155, .var 156, .var 157], .one (.bol false)]) (
     .call F.penumbraref03_Add [.agg [.var 116, .var 117, .var 118], .agg [.var 140, .var 141, .var 142]] [.agg 3] <|
     .call F.penumbraref03_One [] [.agg 3] <|
     .call F.penumbraref03_Cmp [.agg [.var 149, .var 150, .var 151], .agg [.var 152, .var 153, .var 154]] [.one] <|
     .prim (.bin .gtr) [.var 155, .int .i64 (0)] <|
     .ite (.var 156) (
      .call F.penumbraref08_None [] [.agg 9] <|
      .ret [.agg [.var 157, .var 158, .var 159, .var 160, .var 161, .var 162, .var 163, .var 164, .var 165], .one (.bol false)]) (
      .ret [.agg [.var 71, .var 72, .var 73, .var 116, .var 117, .var 118, .var 140, .var 141, .var 142], .one (.bol true)])))))

def ir_penumbralaw08_unit : IR :=
 .call F.vec_Of [.one (.int .i64 (0)), .one (.int .i64 (0)), .one (.int .i64 (0))] [.agg 9] <|
 .call F.vec_Of [.one (.int .i64 (1)), .one (.int .i64 (0)), .one (.int .i64 (0))] [.agg 9] <|
 .call F.vec_Of [.one (.int .i64 (0)), .one (.int .i64 (1)), .one (.int .i64 (0))] [.agg 9] <|
 .ret [.agg [.var 0, .var 1, .var 2, .var 3, .var 4, .var 5, .var 6, .var 7, .var 8, .var 9, .var 10, .var 11, .var 12, .var 13, .var 14, .var 15, .var 16, .var 17, .var 18, .var 19, .var 20, .var 21, .var 22, .var 23, .var 24, .var 25, .var 26]]

def ir_tri_Normal : IR :=
 .call F.tri_sides [.agg [.var 0, .var 1, .var 2, .var 3, .var 4, .var 5, .var 6, .var 7, .var 8, .var 9, .var 10, .var 11, .var 12, .var 13, .var 14, .var 15, .var 16, .var 17, .var 18, .var 19, .var 20, .var 21, .var 22, .var 23, .var 24, .var 25, .var 26]] [.agg 9, .agg 9] <|
 .call F.vec_Cross [.agg [.var 27, .var 28, .var 29, .var 30, .var 31, .var 32, .var 33, .var 34, .var 35], .agg [.var 36, .var 37, .var 38, .var 39, .var 40, .var 41, .var 42, .var 43, .var 44]] [.agg 9] <|
 .ret [.agg [.var 45, .var 46, .var 47, .var 48, .var 49, .var 50, .var 51, .var 52, .var 53]]

def ir_vec_Scale : IR :=
 .prim (.mk 2) [.var 0, .var 1, .var 2, .var 3, .var 4, .var 5] <|
 .call F.rat_Product [.one (.var 12)] [.agg 3] <|
 .prim (.mk 2) [.var 0, .var 1, .var 2, .var 6, .var 7, .var 8] <|
 .call F.rat_Product [.one (.var 16)] [.agg 3] <|
 .prim (.mk 2) [.var 0, .var 1, .var 2, .var 9, .var 10, .var 11] <|
 .call F.rat_Product [.one (.var 20)] [.agg 3] <|
 .ret [.agg [.var 13, .var 14, .var 15, .var 17, .var 18, .var 19, .var 21, .var 22, .var 23]]

def ir_vec_Unit : IR :=
 .call F.vec_Dot [.agg [.var 0, .var 1, .var 2, .var 3, .var 4, .var 5, .var 6, .var 7, .var 8], .agg [.var 0, .var 1, .var 2, .var 3, .var 4, .var 5, .var 6, .var 7, .var 8]] [.agg 3] <|
 .call F.rat_Sqrt [.agg [.var 9, .var 10, .var 11]] [.agg 3, .one] <|
 .call F.rat_Of [.one (.int .i64 (1)), .one (.int .i64 (1))] [.agg 3] <|
 .call F.rat_Div [.agg [.var 16, .var 17, .var 18], .agg [.var 12, .var 13, .var 14]] [.agg 3, .one] <|
 .prim .not [.var 15] <|
 .ite (.var 23) (
  .call F.vec_Of [.one (.int .i64 (0)), .one (.int .i64 (0)), .one (.int .i64 (0))] [.agg 9] <|
  .call F.rat_Of [.one (.int .i64 (0)), .one (.int .i64 (1))] [.agg 3] <|
  .ret [.agg [.var 24, .var 25, .var 26, .var 27, .var 28, .var 29, .var 30, .var 31, .var 32], .agg [.var 33, .var 34, .var 35], .one (.bol false)]) (
  .prim .not [.var 22] <|
  .ite (.var 24) (
   .call F.vec_Of [.one (.int .i64 (0)), .one (.int .i64 (0)), .one (.int .i64 (0))] [.agg 9] <|
   .call F.rat_Of [.one (.int .i64 (0)), .one (.int .i64 (1))] [.agg 3] <|
   .ret [.agg [.var 25, .var 26, .var 27, .var 28, .var 29, .var 30, .var 31, .var 32, .var 33], .agg [.var 34, .var 35, .var 36], .one (.bol false)]) (
   .call F.vec_Scale [.agg [.var 19, .var 20, .var 21], .agg [.var 0, .var 1, .var 2, .var 3, .var 4, .var 5, .var 6, .var 7, .var 8]] [.agg 9] <|
   .ret [.agg [.var 25, .var 26, .var 27, .var 28, .var 29, .var 30, .var 31, .var 32, .var 33], .agg [.var 12, .var 13, .var 14], .one (.bol true)]))

def ir_tri_Unit : IR :=
 .call F.tri_Normal [.agg [.var 0, .var 1, .var 2, .var 3, .var 4, .var 5, .var 6, .var 7, .var 8, .var 9, .var 10, .var 11, .var 12, .var 13, .var 14, .var 15, .var 16, .var 17, .var 18, .var 19, .var 20, .var 21, .var 22, .var 23, .var 24, .var 25, .var 26]] [.agg 9] <|
 .call F.vec_Unit [.agg [.var 27, .var 28, .var 29, .var 30, .var 31, .var 32, .var 33, .var 34, .var 35]] [.agg 9, .agg 3, .one] <|
 .call F.rat_Of [.one (.int .i64 (1)), .one (.int .i64 (2))] [.agg 3] <|
 .prim (.mk 2) [.var 45, .var 46, .var 47, .var 49, .var 50, .var 51] <|
 .call F.rat_Product [.one (.var 52)] [.agg 3] <|
 .ret [.agg [.var 36, .var 37, .var 38, .var 39, .var 40, .var 41, .var 42, .var 43, .var 44], .agg [.var 53, .var 54, .var 55], .one (.var 48)]

def ir_penumbraref05_Is : IR :=
 .call F.penumbraref03_Is [.agg [.var 0, .var 1, .var 2], .agg [.var 9, .var 10, .var 11]] [.one] <|
 .ite (.var 18) (
  .call F.penumbraref03_Is [.agg [.var 3, .var 4, .var 5], .agg [.var 12, .var 13, .var 14]] [.one] <|
  .ite (.var 19) (
   .call F.penumbraref03_Is [.agg [.var 6, .var 7, .var 8], .agg [.var 15, .var 16, .var 17]] [.one] <|
   .ret [.one (.var 20)]) (
   .ret [.one (.bol false)])) (
  .ret [.one (.bol false)])

def ir_penumbralaw08_fixed : IR :=
 .call F.rat_Of [.one (.int .i64 (1)), .one (.int .i64 (4))] [.agg 3] <|
 .call F.rat_Of [.one (.int .i64 (1)), .one (.int .i64 (1))] [.agg 3] <|
 .call F.vec_Of [.one (.int .i64 (0)), .one (.int .i64 (0)), .one (.int .i64 (-2))] [.agg 9] <|
 .call F.penumbralaw08_unit [] [.agg 27] <|
 .call F.tri_Hit [.agg [.var 0, .var 1, .var 2, .var 0, .var 1, .var 2, .var 3, .var 4, .var 5], .agg [.var 6, .var 7, .var 8, .var 9, .var 10, .var 11, .var 12, .var 13, .var 14], .agg [.var 15, .var 16, .var 17, .var 18, .var 19, .var 20, .var 21, .var 22, .var 23, .var 24, .var 25, .var 26, .var 27, .var 28, .var 29, .var 30, .var 31, .var 32, .var 33, .var 34, .var 35, .var 36, .var 37, .var 38, .var 39, .var 40, .var 41]] [.agg 9, .one] <|
 .call F.vec_Of [.one (.int .i64 (0)), .one (.int .i64 (0)), .one (.int .i64 (1))] [.agg 9] <|
 .call F.penumbralaw08_unit [] [.agg 27] <|
 .call F.tri_Hit [.agg [.var 0, .var 1, .var 2, .var 0, .var 1, .var 2, .var 3, .var 4, .var 5], .agg [.var 52, .var 53, .var 54, .var 55, .var 56, .var 57, .var 58, .var 59, .var 60], .agg [.var 61, .var 62, .var 63, .var 64, .var 65, .var 66, .var 67, .var 68, .var 69, .var 70, .var 71, .var 72, .var 73, .var 74, .var 75, .var 76, .var 77, .var 78, .var 79, .var 80, .var 81, .var 82, .var 83, .var 84, .var 85, .var 86, .var 87]] [.agg 9, .one] <|
 .call F.vec_Of [.one (.int .i64 (1)), .one (.int .i64 (1)), .one (.int .i64 (1))] [.agg 9] <|
 .call F.vec_Of [.one (.int .i64 (0)), .one (.int .i64 (0)), .one (.int .i64 (-1))] [.agg 9] <|
 .call F.penumbralaw08_unit [] [.agg 27] <|
 .call F.tri_Hit [.agg [.var 98, .var 99, .var 100, .var 101, .var 102, .var 103, .var 104, .var 105, .var 106], .agg [.var 107, .var 108, .var 109, .var 110, .var 111, .var 112, .var 113, .var 114, .var 115], .agg [.var 116, .var 117, .var 118, .var 119, .var 120, .var 121, .var 122, .var 123, .var 124, .var 125, .var 126, .var 127, .var 128, .var 129, .var 130, .var 131, .var 132, .var 133, .var 134, .var 135, .var 136, .var 137, .var 138, .var 139, .var 140, .var 141, .var 142]] [.agg 9, .one] <|
 .call F.penumbralaw08_unit [] [.agg 27] <|
 .call F.tri_Unit [.agg [.var 153, .var 154, .var 155, .var 156, .var 157, .var 158, .var 159, .var 160, .var 161, .var 162, .var 163, .var 164, .var 165, .var 166, .var 167, .var 168, .var 169, .var 170, .var 171, .var 172, .var 173, .var 174, .var 175, .var 176, .var 177, .var 178, .var 179]] [.agg 9, .agg 3, .one] <|
 .ite (.var 51) (
  .call F.penumbraref03_Of [.one (.int .i64 (1)), .one (.int .i64 (2))] [.agg 3] <|
  .call F.penumbraref03_Is [.agg [.var 42, .var 43, .var 44], .agg [.var 193, .var 194, .var 195]] [.one] <|
  .ite (.var 196) (
   .call F.penumbraref03_Of [.one (.int .i64 (1)), .one (.int .i64 (4))] [.agg 3] <|
   .call F.penumbraref03_Is [.agg [.var 45, .var 46, .var 47], .agg [.var 197, .var 198, .var 199]] [.one] <|
   .ite (.var 200) (
    .call F.penumbraref03_Of [.one (.int .i64 (1)), .one (.int .i64 (4))] [.agg 3] <|
    .call F.penumbraref03_Is [.agg [.var 48, .var 49, .var 50], .agg [.var 201, .var 202, .var 203]] [.one] <|
    .ite (.var 204) (
     .prim .not [.var 97] <|
     .ite (.var 205) (
      .prim .not [.var 152] <|
      .ite (.var 206) (
       .ite (.var 192) (
        .call F.penumbraref05_Of [.one (.int .i64 (0)), .one (.int .i64 (0)), .one (.int .i64 (1))] [.agg 9] <|
        .call F.penumbraref05_Is [.agg [.var 180, .var 181, .var 182, .var 183, .var 184, .var 185, .var 186, .var 187, .var 188], .agg [.var 207, .var 208, .var 209, .var 210, .var 211, .var 212, .var 213, .var 214, .var 215]] [.one] <|
        .ite (.var 216) (
         .call F.penumbraref03_Of [.one (.int .i64 (1)), .one (.int .i64 (2))] [.agg 3] <|
         .call F.penumbraref03_Is [.agg [.var 189, .var 190, .var 191], .agg [.var 217, .var 218, .var 219]] [.one] <|
         .ret [.one (.var 220)]) (
         .ret [.one (.bol false)])) (
        .ret [.one (.bol false)])) (
       .ret [.one (.bol false)])) (
      .ret [.one (.bol false)])) (
     .ret [.one (.bol false)])) (
    .ret [.one (.bol false)])) (
   .ret [.one (.bol false)])) (
  .ret [.one (.bol false)])

def ir_penumbraref08_Is : IR :=
 .call F.penumbraref03_Is [.agg [.var 0, .var 1, .var 2], .agg [.var 9, .var 10, .var 11]] [.one] <|
 .ite (.var 18) (
  .call F.penumbraref03_Is [.agg [.var 3, .var 4, .var 5], .agg [.var 12, .var 13, .var 14]] [.one] <|
  .ite (.var 19) (
   .call F.penumbraref03_Is [.agg [.var 6, .var 7, .var 8], .agg [.var 15, .var 16, .var 17]] [.one] <|
   .ret [.one (.var 20)]) (
   .ret [.one (.bol false)])) (
  .ret [.one (.bol false)])

def ir_penumbralaw08_TriHits : IR :=
 .call F.tri_Hit [.agg [.var 0, .var 1, .var 2, .var 3, .var 4, .var 5, .var 6, .var 7, .var 8], .agg [.var 9, .var 10, .var 11, .var 12, .var 13, .var 14, .var 15, .var 16, .var 17], .agg [.var 18, .var 19, .var 20, .var 21, .var 22, .var 23, .var 24, .var 25, .var 26, .var 27, .var 28, .var 29, .var 30, .var 31, .var 32, .var 33, .var 34, .var 35, .var 36, .var 37, .var 38, .var 39, .var 40, .var 41, .var 42, .var 43, .var 44]] [.agg 9, .one] <|
 .call F.penumbraref08_Hit [.agg [.var 0, .var 1, .var 2, .var 3, .var 4, .var 5, .var 6, .var 7, .var 8], .agg [.var 9, .var 10, .var 11, .var 12, .var 13, .var 14, .var 15, .var 16, .var 17], .agg [.var 18, .var 19, .var 20, .var 21, .var 22, .var 23, .var 24, .var 25, .var 26, .var 27, .var 28, .var 29, .var 30, .var 31, .var 32, .var 33, .var 34, .var 35, .var 36, .var 37, .var 38, .var 39, .var 40, .var 41, .var 42, .var 43, .var 44]] [.agg 9, .one] <|
 .call F.penumbralaw08_fixed [] [.one] <|
 .ite (.var 65) (
  .call F.penumbraref08_Is [.agg [.var 45, .var 46, .var 47, .var 48, .var 49, .var 50, .var 51, .var 52, .var 53], .agg [.var 55, .var 56, .var 57, .var 58, .var 59, .var 60, .var 61, .var 62, .var 63]] [.one] <|
  .ite (.var 66) (
   .prim (.beq false) [.var 54, .var 64] <|
   .ret [.one (.var 67)]) (
   .ret [.one (.bol false)])) (
  .ret [.one (.bol false)])

theorem tree_vec_Sub : symFunc Go.Proofs.Try.prog H0 400 F.vec_Sub [.agg 9, .agg 9] = some ir_vec_Sub := by kernel_rfl
theorem tree_tri_sides : symFunc Go.Proofs.Try.prog H0 400 F.tri_sides [.agg 27] = some ir_tri_sides := by kernel_rfl
theorem tree_vec_minor : symFunc Go.Proofs.Try.prog H0 400 F.vec_minor [.agg 3, .agg 3, .agg 3, .agg 3] = some ir_vec_minor := by kernel_rfl
theorem tree_vec_Cross : symFunc Go.Proofs.Try.prog H0 400 F.vec_Cross [.agg 9, .agg 9] = some ir_vec_Cross := by kernel_rfl
theorem tree_vec_Dot : symFunc Go.Proofs.Try.prog H0 400 F.vec_Dot [.agg 9, .agg 9] = some ir_vec_Dot := by kernel_rfl
theorem tree_tri_Hit : symFunc Go.Proofs.Try.prog H0 400 F.tri_Hit [.agg 9, .agg 9, .agg 27] = some ir_tri_Hit := by kernel_rfl
theorem tree_penumbraref05_Sub : symFunc Go.Proofs.Try.prog H0 400 F.penumbraref05_Sub [.agg 9, .agg 9] = some ir_penumbraref05_Sub := by kernel_rfl
theorem tree_penumbraref05_Cross : symFunc Go.Proofs.Try.prog H0 400 F.penumbraref05_Cross [.agg 9, .agg 9] = some ir_penumbraref05_Cross := by kernel_rfl
theorem tree_penumbraref08_Normal : symFunc Go.Proofs.Try.prog H0 400 F.penumbraref08_Normal [.agg 27] = some ir_penumbraref08_Normal := by kernel_rfl
theorem tree_penumbraref05_Dot : symFunc Go.Proofs.Try.prog H0 400 F.penumbraref05_Dot [.agg 9, .agg 9] = some ir_penumbraref05_Dot := by kernel_rfl
theorem tree_penumbraref08_None : symFunc Go.Proofs.Try.prog H0 400 F.penumbraref08_None [] = some ir_penumbraref08_None := by kernel_rfl
theorem tree_penumbraref05_Scale : symFunc Go.Proofs.Try.prog H0 400 F.penumbraref05_Scale [.agg 3, .agg 9] = some ir_penumbraref05_Scale := by kernel_rfl
theorem tree_penumbraref05_Add : symFunc Go.Proofs.Try.prog H0 400 F.penumbraref05_Add [.agg 9, .agg 9] = some ir_penumbraref05_Add := by kernel_rfl
theorem tree_penumbraref08_At : symFunc Go.Proofs.Try.prog H0 400 F.penumbraref08_At [.agg 9, .agg 9, .agg 3] = some ir_penumbraref08_At := by kernel_rfl
theorem tree_penumbraref08_Hit : symFunc Go.Proofs.Try.prog H0 400 F.penumbraref08_Hit [.agg 9, .agg 9, .agg 27] = some ir_penumbraref08_Hit := by kernel_rfl
theorem tree_penumbralaw08_unit : symFunc Go.Proofs.Try.prog H0 400 F.penumbralaw08_unit [] = some ir_penumbralaw08_unit := by kernel_rfl
theorem tree_tri_Normal : symFunc Go.Proofs.Try.prog H0 400 F.tri_Normal [.agg 27] = some ir_tri_Normal := by kernel_rfl
theorem tree_vec_Scale : symFunc Go.Proofs.Try.prog H0 400 F.vec_Scale [.agg 3, .agg 9] = some ir_vec_Scale := by kernel_rfl
theorem tree_vec_Unit : symFunc Go.Proofs.Try.prog H0 400 F.vec_Unit [.agg 9] = some ir_vec_Unit := by kernel_rfl
theorem tree_tri_Unit : symFunc Go.Proofs.Try.prog H0 400 F.tri_Unit [.agg 27] = some ir_tri_Unit := by kernel_rfl
theorem tree_penumbraref05_Is : symFunc Go.Proofs.Try.prog H0 400 F.penumbraref05_Is [.agg 9, .agg 9] = some ir_penumbraref05_Is := by kernel_rfl
theorem tree_penumbralaw08_fixed : symFunc Go.Proofs.Try.prog H0 400 F.penumbralaw08_fixed [] = some ir_penumbralaw08_fixed := by kernel_rfl
theorem tree_penumbraref08_Is : symFunc Go.Proofs.Try.prog H0 400 F.penumbraref08_Is [.agg 9, .agg 9] = some ir_penumbraref08_Is := by kernel_rfl
theorem tree_penumbralaw08_TriHits : symFunc Go.Proofs.Try.prog H0 400 F.penumbralaw08_TriHits [.agg 9, .agg 9, .agg 27] = some ir_penumbralaw08_TriHits := by kernel_rfl
end Go.Px
namespace Go.Px.Na
open Go.RowKit
open Go.Proofs.Try (prog)

theorem n_vec_Sub_0  {r0 r1 r2 r3 r4 r5 : RR} {x0 x1 x2 x3 x4 x5 : Rat} {k0 k1 k2 : Rat} (h0 : Num 9000000000 r0 x0) (h1 : Num 9000000000 r1 x1) (h2 : Num 9000000000 r2 x2) (h3 : Num 9000000000 r3 x3) (h4 : Num 9000000000 r4 x4) (h5 : Num 9000000000 r5 x5) (e0 : k0 = (x0 - x3)) (e1 : k1 = (x1 - x4)) (e2 : k2 = (x2 - x5))  : PureCalls prog F.vec_Sub [.agg ([.bool r0.neg, nl r0.num, nl r0.den, .bool r1.neg, nl r1.num, nl r1.den, .bool r2.neg, nl r2.num, nl r2.den]), .agg ([.bool r3.neg, nl r3.num, nl r3.den, .bool r4.neg, nl r4.num, nl r4.den, .bool r5.neg, nl r5.num, nl r5.den])] [.agg ([.bool (decide ((k0).num < 0)), nn (k0).num.natAbs, nn (k0).den, .bool (decide ((k1).num < 0)), nn (k1).num.natAbs, nn (k1).den, .bool (decide ((k2).num < 0)), nn (k2).num.natAbs, nn (k2).den])] := by
  subst e0 e1 e2
  refine symFunc_sound hmix tree_vec_Sub (by kernel_rfl) rfl ?_
  unfold ir_vec_Sub
  simp only [fa_agg, fa_one, fa_nil, List.cons_append, List.nil_append, List.append_nil]
  refine call_step (n_rat_Sub (k0 := (x0 - x3)) (h0.mono (by decide)) (h3.mono (by decide)) rfl) rfl ?_
  simp only [fa_agg, fa_one, fa_nil, List.cons_append, List.nil_append, List.append_nil]
  refine call_step (n_rat_Sub (k0 := (x1 - x4)) (h1.mono (by decide)) (h4.mono (by decide)) rfl) rfl ?_
  simp only [fa_agg, fa_one, fa_nil, List.cons_append, List.nil_append, List.append_nil]
  refine call_step (n_rat_Sub (k0 := (x2 - x5)) (h2.mono (by decide)) (h5.mono (by decide)) rfl) rfl ?_
  simp only [fa_agg, fa_one, fa_nil, List.cons_append, List.nil_append, List.append_nil]
  exact ret_step rfl

theorem n_vec_Sub_0w  {r0 r1 r2 r3 r4 r5 : RR} {x0 x1 x2 x3 x4 x5 : Rat} {k0 k1 k2 : Rat} {L0 L1 L2 L3 L4 L5 : Nat} (h0 : Num L0 r0 x0) (h1 : Num L1 r1 x1) (h2 : Num L2 r2 x2) (h3 : Num L3 r3 x3) (h4 : Num L4 r4 x4) (h5 : Num L5 r5 x5) (hl : L0 ≤ 9000000000 ∧ L1 ≤ 9000000000 ∧ L2 ≤ 9000000000 ∧ L3 ≤ 9000000000 ∧ L4 ≤ 9000000000 ∧ L5 ≤ 9000000000) (e0 : k0 = (x0 - x3)) (e1 : k1 = (x1 - x4)) (e2 : k2 = (x2 - x5))  : PureCalls prog F.vec_Sub [.agg ([.bool r0.neg, nl r0.num, nl r0.den, .bool r1.neg, nl r1.num, nl r1.den, .bool r2.neg, nl r2.num, nl r2.den]), .agg ([.bool r3.neg, nl r3.num, nl r3.den, .bool r4.neg, nl r4.num, nl r4.den, .bool r5.neg, nl r5.num, nl r5.den])] [.agg ([.bool (decide ((k0).num < 0)), nn (k0).num.natAbs, nn (k0).den, .bool (decide ((k1).num < 0)), nn (k1).num.natAbs, nn (k1).den, .bool (decide ((k2).num < 0)), nn (k2).num.natAbs, nn (k2).den])] := n_vec_Sub_0 (h0.mono hl.1) (h1.mono hl.2.1) (h2.mono hl.2.2.1) (h3.mono hl.2.2.2.1) (h4.mono hl.2.2.2.2.1) (h5.mono hl.2.2.2.2.2) e0 e1 e2

theorem n_tri_sides_0  {r0 r1 r2 r3 r4 r5 r6 r7 r8 : RR} {x0 x1 x2 x3 x4 x5 x6 x7 x8 : Rat} {k0 k1 k2 k3 k4 k5 : Rat} (h0 : Num 9000000000 r0 x0) (h1 : Num 9000000000 r1 x1) (h2 : Num 9000000000 r2 x2) (h3 : Num 9000000000 r3 x3) (h4 : Num 9000000000 r4 x4) (h5 : Num 9000000000 r5 x5) (h6 : Num 9000000000 r6 x6) (h7 : Num 9000000000 r7 x7) (h8 : Num 9000000000 r8 x8) (e0 : k0 = (x3 - x0)) (e1 : k1 = (x4 - x1)) (e2 : k2 = (x5 - x2)) (e3 : k3 = (x6 - x0)) (e4 : k4 = (x7 - x1)) (e5 : k5 = (x8 - x2))  : PureCalls prog F.tri_sides [.agg ([.bool r0.neg, nl r0.num, nl r0.den, .bool r1.neg, nl r1.num, nl r1.den, .bool r2.neg, nl r2.num, nl r2.den, .bool r3.neg, nl r3.num, nl r3.den, .bool r4.neg, nl r4.num, nl r4.den, .bool r5.neg, nl r5.num, nl r5.den, .bool r6.neg, nl r6.num, nl r6.den, .bool r7.neg, nl r7.num, nl r7.den, .bool r8.neg, nl r8.num, nl r8.den])] [.agg ([.bool (decide ((k0).num < 0)), nn (k0).num.natAbs, nn (k0).den, .bool (decide ((k1).num < 0)), nn (k1).num.natAbs, nn (k1).den, .bool (decide ((k2).num < 0)), nn (k2).num.natAbs, nn (k2).den]), .agg ([.bool (decide ((k3).num < 0)), nn (k3).num.natAbs, nn (k3).den, .bool (decide ((k4).num < 0)), nn (k4).num.natAbs, nn (k4).den, .bool (decide ((k5).num < 0)), nn (k5).num.natAbs, nn (k5).den])] := by
  subst e0 e1 e2 e3 e4 e5
  refine symFunc_sound hmix tree_tri_sides (by kernel_rfl) rfl ?_
  unfold ir_tri_sides
  simp only [fa_agg, fa_one, fa_nil, List.cons_append, List.nil_append, List.append_nil]
  refine call_step (n_vec_Sub_0w (k0 := (x3 - x0)) (k1 := (x4 - x1)) (k2 := (x5 - x2)) h3 h4 h5 h0 h1 h2 (by decide) rfl rfl rfl) rfl ?_
  simp only [fa_agg, fa_one, fa_nil, List.cons_append, List.nil_append, List.append_nil]
  refine call_step (n_vec_Sub_0w (k0 := (x6 - x0)) (k1 := (x7 - x1)) (k2 := (x8 - x2)) h6 h7 h8 h0 h1 h2 (by decide) rfl rfl rfl) rfl ?_
  simp only [fa_agg, fa_one, fa_nil, List.cons_append, List.nil_append, List.append_nil]
  exact ret_step rfl

theorem n_tri_sides_0w  {r0 r1 r2 r3 r4 r5 r6 r7 r8 : RR} {x0 x1 x2 x3 x4 x5 x6 x7 x8 : Rat} {k0 k1 k2 k3 k4 k5 : Rat} {L0 L1 L2 L3 L4 L5 L6 L7 L8 : Nat} (h0 : Num L0 r0 x0) (h1 : Num L1 r1 x1) (h2 : Num L2 r2 x2) (h3 : Num L3 r3 x3) (h4 : Num L4 r4 x4) (h5 : Num L5 r5 x5) (h6 : Num L6 r6 x6) (h7 : Num L7 r7 x7) (h8 : Num L8 r8 x8) (hl : L0 ≤ 9000000000 ∧ L1 ≤ 9000000000 ∧ L2 ≤ 9000000000 ∧ L3 ≤ 9000000000 ∧ L4 ≤ 9000000000 ∧ L5 ≤ 9000000000 ∧ L6 ≤ 9000000000 ∧ L7 ≤ 9000000000 ∧ L8 ≤ 9000000000) (e0 : k0 = (x3 - x0)) (e1 : k1 = (x4 - x1)) (e2 : k2 = (x5 - x2)) (e3 : k3 = (x6 - x0)) (e4 : k4 = (x7 - x1)) (e5 : k5 = (x8 - x2))  : PureCalls prog F.tri_sides [.agg ([.bool r0.neg, nl r0.num, nl r0.den, .bool r1.neg, nl r1.num, nl r1.den, .bool r2.neg, nl r2.num, nl r2.den, .bool r3.neg, nl r3.num, nl r3.den, .bool r4.neg, nl r4.num, nl r4.den, .bool r5.neg, nl r5.num, nl r5.den, .bool r6.neg, nl r6.num, nl r6.den, .bool r7.neg, nl r7.num, nl r7.den, .bool r8.neg, nl r8.num, nl r8.den])] [.agg ([.bool (decide ((k0).num < 0)), nn (k0).num.natAbs, nn (k0).den, .bool (decide ((k1).num < 0)), nn (k1).num.natAbs, nn (k1).den, .bool (decide ((k2).num < 0)), nn (k2).num.natAbs, nn (k2).den]), .agg ([.bool (decide ((k3).num < 0)), nn (k3).num.natAbs, nn (k3).den, .bool (decide ((k4).num < 0)), nn (k4).num.natAbs, nn (k4).den, .bool (decide ((k5).num < 0)), nn (k5).num.natAbs, nn (k5).den])] := n_tri_sides_0 (h0.mono hl.1) (h1.mono hl.2.1) (h2.mono hl.2.2.1) (h3.mono hl.2.2.2.1) (h4.mono hl.2.2.2.2.1) (h5.mono hl.2.2.2.2.2.1) (h6.mono hl.2.2.2.2.2.2.1) (h7.mono hl.2.2.2.2.2.2.2.1) (h8.mono hl.2.2.2.2.2.2.2.2) e0 e1 e2 e3 e4 e5

theorem n_vec_minor_0  {r0 r1 r2 r3 : RR} {x0 x1 x2 x3 : Rat} {k0 : Rat} (h0 : Num 9000000000 r0 x0) (h1 : Num 9000000000 r1 x1) (h2 : Num 9000000000 r2 x2) (h3 : Num 9000000000 r3 x3) (e0 : k0 = ((x0 * x3) - (x1 * x2)))  : PureCalls prog F.vec_minor [.agg ([.bool r0.neg, nl r0.num, nl r0.den]), .agg ([.bool r1.neg, nl r1.num, nl r1.den]), .agg ([.bool r2.neg, nl r2.num, nl r2.den]), .agg ([.bool r3.neg, nl r3.num, nl r3.den])] [.agg ([.bool (decide ((k0).num < 0)), nn (k0).num.natAbs, nn (k0).den])] := by
  subst e0
  refine symFunc_sound hmix tree_vec_minor (by kernel_rfl) rfl ?_
  unfold ir_vec_minor
  simp only [fa_agg, fa_one, fa_nil, List.cons_append, List.nil_append, List.append_nil]
  refine primS (rl [r0, r3]) rfl ?_
  refine call_step (n_rat_Product_2 (k0 := (x0 * x3)) (h0.mono (by decide)) (h3.mono (by decide)) rfl) rfl ?_
  simp only [fa_agg, fa_one, fa_nil, List.cons_append, List.nil_append, List.append_nil]
  refine primS (rl [r1, r2]) rfl ?_
  refine call_step (n_rat_Product_2 (k0 := (x1 * x2)) (h1.mono (by decide)) (h2.mono (by decide)) rfl) rfl ?_
  simp only [fa_agg, fa_one, fa_nil, List.cons_append, List.nil_append, List.append_nil]
  have m7 : Num 18000000000 (cr (x0 * x3)) (x0 * x3) := Num.of (Sm.mul h0.sm h3.sm)
  have m8 : Num 18000000000 (cr (x1 * x2)) (x1 * x2) := Num.of (Sm.mul h1.sm h2.sm)
  refine call_step (n_rat_Sub (k0 := ((x0 * x3) - (x1 * x2))) (m7.mono (by decide)) (m8.mono (by decide)) rfl) rfl ?_
  simp only [fa_agg, fa_one, fa_nil, List.cons_append, List.nil_append, List.append_nil]
  exact ret_step rfl

theorem n_vec_Cross_0  {r0 r1 r2 r3 r4 r5 : RR} {x0 x1 x2 x3 x4 x5 : Rat} {k0 k1 k2 : Rat} (h0 : Num 9000000000 r0 x0) (h1 : Num 9000000000 r1 x1) (h2 : Num 9000000000 r2 x2) (h3 : Num 9000000000 r3 x3) (h4 : Num 9000000000 r4 x4) (h5 : Num 9000000000 r5 x5) (e0 : k0 = ((x1 * x5) - (x2 * x4))) (e1 : k1 = ((x2 * x3) - (x0 * x5))) (e2 : k2 = ((x0 * x4) - (x1 * x3)))  : PureCalls prog F.vec_Cross [.agg ([.bool r0.neg, nl r0.num, nl r0.den, .bool r1.neg, nl r1.num, nl r1.den, .bool r2.neg, nl r2.num, nl r2.den]), .agg ([.bool r3.neg, nl r3.num, nl r3.den, .bool r4.neg, nl r4.num, nl r4.den, .bool r5.neg, nl r5.num, nl r5.den])] [.agg ([.bool (decide ((k0).num < 0)), nn (k0).num.natAbs, nn (k0).den, .bool (decide ((k1).num < 0)), nn (k1).num.natAbs, nn (k1).den, .bool (decide ((k2).num < 0)), nn (k2).num.natAbs, nn (k2).den])] := by
  subst e0 e1 e2
  refine symFunc_sound hmix tree_vec_Cross (by kernel_rfl) rfl ?_
  unfold ir_vec_Cross
  simp only [fa_agg, fa_one, fa_nil, List.cons_append, List.nil_append, List.append_nil]
  refine call_step (n_vec_minor_0 (k0 := ((x1 * x5) - (x2 * x4))) (h1.mono (by decide)) (h2.mono (by decide)) (h4.mono (by decide)) (h5.mono (by decide)) rfl) rfl ?_
  simp only [fa_agg, fa_one, fa_nil, List.cons_append, List.nil_append, List.append_nil]
  refine call_step (n_vec_minor_0 (k0 := ((x2 * x3) - (x0 * x5))) (h2.mono (by decide)) (h0.mono (by decide)) (h5.mono (by decide)) (h3.mono (by decide)) rfl) rfl ?_
  simp only [fa_agg, fa_one, fa_nil, List.cons_append, List.nil_append, List.append_nil]
  refine call_step (n_vec_minor_0 (k0 := ((x0 * x4) - (x1 * x3))) (h0.mono (by decide)) (h1.mono (by decide)) (h3.mono (by decide)) (h4.mono (by decide)) rfl) rfl ?_
  simp only [fa_agg, fa_one, fa_nil, List.cons_append, List.nil_append, List.append_nil]
  exact ret_step rfl

theorem n_vec_Cross_0w  {r0 r1 r2 r3 r4 r5 : RR} {x0 x1 x2 x3 x4 x5 : Rat} {k0 k1 k2 : Rat} {L0 L1 L2 L3 L4 L5 : Nat} (h0 : Num L0 r0 x0) (h1 : Num L1 r1 x1) (h2 : Num L2 r2 x2) (h3 : Num L3 r3 x3) (h4 : Num L4 r4 x4) (h5 : Num L5 r5 x5) (hl : L0 ≤ 9000000000 ∧ L1 ≤ 9000000000 ∧ L2 ≤ 9000000000 ∧ L3 ≤ 9000000000 ∧ L4 ≤ 9000000000 ∧ L5 ≤ 9000000000) (e0 : k0 = ((x1 * x5) - (x2 * x4))) (e1 : k1 = ((x2 * x3) - (x0 * x5))) (e2 : k2 = ((x0 * x4) - (x1 * x3)))  : PureCalls prog F.vec_Cross [.agg ([.bool r0.neg, nl r0.num, nl r0.den, .bool r1.neg, nl r1.num, nl r1.den, .bool r2.neg, nl r2.num, nl r2.den]), .agg ([.bool r3.neg, nl r3.num, nl r3.den, .bool r4.neg, nl r4.num, nl r4.den, .bool r5.neg, nl r5.num, nl r5.den])] [.agg ([.bool (decide ((k0).num < 0)), nn (k0).num.natAbs, nn (k0).den, .bool (decide ((k1).num < 0)), nn (k1).num.natAbs, nn (k1).den, .bool (decide ((k2).num < 0)), nn (k2).num.natAbs, nn (k2).den])] := n_vec_Cross_0 (h0.mono hl.1) (h1.mono hl.2.1) (h2.mono hl.2.2.1) (h3.mono hl.2.2.2.1) (h4.mono hl.2.2.2.2.1) (h5.mono hl.2.2.2.2.2) e0 e1 e2

theorem n_vec_Dot_0  {r0 r1 r2 r3 r4 r5 : RR} {x0 x1 x2 x3 x4 x5 : Rat} {k0 : Rat} (h0 : Num 9000000000 r0 x0) (h1 : Num 9000000000 r1 x1) (h2 : Num 9000000000 r2 x2) (h3 : Num 9000000000 r3 x3) (h4 : Num 9000000000 r4 x4) (h5 : Num 9000000000 r5 x5) (e0 : k0 = (((x0 * x3) + (x1 * x4)) + (x2 * x5)))  : PureCalls prog F.vec_Dot [.agg ([.bool r0.neg, nl r0.num, nl r0.den, .bool r1.neg, nl r1.num, nl r1.den, .bool r2.neg, nl r2.num, nl r2.den]), .agg ([.bool r3.neg, nl r3.num, nl r3.den, .bool r4.neg, nl r4.num, nl r4.den, .bool r5.neg, nl r5.num, nl r5.den])] [.agg ([.bool (decide ((k0).num < 0)), nn (k0).num.natAbs, nn (k0).den])] := by
  subst e0
  refine symFunc_sound hmix tree_vec_Dot (by kernel_rfl) rfl ?_
  unfold ir_vec_Dot
  simp only [fa_agg, fa_one, fa_nil, List.cons_append, List.nil_append, List.append_nil]
  refine primS (rl [r0, r3]) rfl ?_
  refine call_step (n_rat_Product_2 (k0 := (x0 * x3)) (h0.mono (by decide)) (h3.mono (by decide)) rfl) rfl ?_
  simp only [fa_agg, fa_one, fa_nil, List.cons_append, List.nil_append, List.append_nil]
  refine primS (rl [r1, r4]) rfl ?_
  refine call_step (n_rat_Product_2 (k0 := (x1 * x4)) (h1.mono (by decide)) (h4.mono (by decide)) rfl) rfl ?_
  simp only [fa_agg, fa_one, fa_nil, List.cons_append, List.nil_append, List.append_nil]
  refine primS (rl [r2, r5]) rfl ?_
  refine call_step (n_rat_Product_2 (k0 := (x2 * x5)) (h2.mono (by decide)) (h5.mono (by decide)) rfl) rfl ?_
  simp only [fa_agg, fa_one, fa_nil, List.cons_append, List.nil_append, List.append_nil]
  refine primS (rl [(cr (x0 * x3)), (cr (x1 * x4)), (cr (x2 * x5))]) rfl ?_
  have m20 : Num 18000000000 (cr (x0 * x3)) (x0 * x3) := Num.of (Sm.mul h0.sm h3.sm)
  have m21 : Num 18000000000 (cr (x1 * x4)) (x1 * x4) := Num.of (Sm.mul h1.sm h4.sm)
  have m22 : Num 18000000000 (cr (x2 * x5)) (x2 * x5) := Num.of (Sm.mul h2.sm h5.sm)
  refine call_step (n_rat_Sum_3 (k0 := (((x0 * x3) + (x1 * x4)) + (x2 * x5))) (m20.mono (by decide)) (m21.mono (by decide)) (m22.mono (by decide)) rfl) rfl ?_
  simp only [fa_agg, fa_one, fa_nil, List.cons_append, List.nil_append, List.append_nil]
  exact ret_step rfl

theorem n_vec_Dot_0w  {r0 r1 r2 r3 r4 r5 : RR} {x0 x1 x2 x3 x4 x5 : Rat} {k0 : Rat} {L0 L1 L2 L3 L4 L5 : Nat} (h0 : Num L0 r0 x0) (h1 : Num L1 r1 x1) (h2 : Num L2 r2 x2) (h3 : Num L3 r3 x3) (h4 : Num L4 r4 x4) (h5 : Num L5 r5 x5) (hl : L0 ≤ 9000000000 ∧ L1 ≤ 9000000000 ∧ L2 ≤ 9000000000 ∧ L3 ≤ 9000000000 ∧ L4 ≤ 9000000000 ∧ L5 ≤ 9000000000) (e0 : k0 = (((x0 * x3) + (x1 * x4)) + (x2 * x5)))  : PureCalls prog F.vec_Dot [.agg ([.bool r0.neg, nl r0.num, nl r0.den, .bool r1.neg, nl r1.num, nl r1.den, .bool r2.neg, nl r2.num, nl r2.den]), .agg ([.bool r3.neg, nl r3.num, nl r3.den, .bool r4.neg, nl r4.num, nl r4.den, .bool r5.neg, nl r5.num, nl r5.den])] [.agg ([.bool (decide ((k0).num < 0)), nn (k0).num.natAbs, nn (k0).den])] := n_vec_Dot_0 (h0.mono hl.1) (h1.mono hl.2.1) (h2.mono hl.2.2.1) (h3.mono hl.2.2.2.1) (h4.mono hl.2.2.2.2.1) (h5.mono hl.2.2.2.2.2) e0

theorem n_tri_Hit_0 {Z0 Z1 : Rat} (Y0 : Z0 = (0 : Rat)) (Y1 : Z1 = (1 : Rat)) {r0 r1 r2 r3 r4 r5 r6 r7 r8 r9 r10 r11 r12 r13 r14 : RR} {x0 x1 x2 x3 x4 x5 x6 x7 x8 x9 x10 x11 x12 x13 x14 : Rat} {k0 : Rat} (h0 : Num 90000000 r0 x0) (h1 : Num 90000000 r1 x1) (h2 : Num 90000000 r2 x2) (h3 : Num 90000000 r3 x3) (h4 : Num 90000000 r4 x4) (h5 : Num 90000000 r5 x5) (h6 : Num 90000000 r6 x6) (h7 : Num 90000000 r7 x7) (h8 : Num 90000000 r8 x8) (h9 : Num 90000000 r9 x9) (h10 : Num 90000000 r10 x10) (h11 : Num 90000000 r11 x11) (h12 : Num 90000000 r12 x12) (h13 : Num 90000000 r13 x13) (h14 : Num 90000000 r14 x14) (e0 : k0 = ((((x9 - x6) * ((x4 * (x14 - x8)) - (x5 * (x13 - x7)))) + ((x10 - x7) * ((x5 * (x12 - x6)) - (x3 * (x14 - x8))))) + ((x11 - x8) * ((x3 * (x13 - x7)) - (x4 * (x12 - x6)))))) (c0 : k0 = Z0) : PureCalls prog F.tri_Hit [.agg ([.bool r0.neg, nl r0.num, nl r0.den, .bool r1.neg, nl r1.num, nl r1.den, .bool r2.neg, nl r2.num, nl r2.den]), .agg ([.bool r3.neg, nl r3.num, nl r3.den, .bool r4.neg, nl r4.num, nl r4.den, .bool r5.neg, nl r5.num, nl r5.den]), .agg ([.bool r6.neg, nl r6.num, nl r6.den, .bool r7.neg, nl r7.num, nl r7.den, .bool r8.neg, nl r8.num, nl r8.den, .bool r9.neg, nl r9.num, nl r9.den, .bool r10.neg, nl r10.num, nl r10.den, .bool r11.neg, nl r11.num, nl r11.den, .bool r12.neg, nl r12.num, nl r12.den, .bool r13.neg, nl r13.num, nl r13.den, .bool r14.neg, nl r14.num, nl r14.den])] [.agg ([.bool (decide ((Z0).num < 0)), nn (Z0).num.natAbs, nn (Z0).den, .bool (decide ((Z0).num < 0)), nn (Z0).num.natAbs, nn (Z0).den, .bool (decide ((Z0).num < 0)), nn (Z0).num.natAbs, nn (Z0).den]), .one (.bool false)] := by
  subst e0
  refine symFunc_sound hmix tree_tri_Hit (by kernel_rfl) rfl ?_
  unfold ir_tri_Hit
  simp only [fa_agg, fa_one, fa_nil, List.cons_append, List.nil_append, List.append_nil]
  refine call_step (n_rat_Of (0) (1) (by decide) (by decide) (by decide) (by decide) (Y0.trans (by decide +kernel))) rfl ?_
  simp only [fa_agg, fa_one, fa_nil, List.cons_append, List.nil_append, List.append_nil]
  refine call_step (n_tri_sides_0w (k0 := (x9 - x6)) (k1 := (x10 - x7)) (k2 := (x11 - x8)) (k3 := (x12 - x6)) (k4 := (x13 - x7)) (k5 := (x14 - x8)) h6 h7 h8 h9 h10 h11 h12 h13 h14 (by decide) rfl rfl rfl rfl rfl rfl) rfl ?_
  simp only [fa_agg, fa_one, fa_nil, List.cons_append, List.nil_append, List.append_nil]
  have m191 : Num 180000001 (cr (x12 - x6)) (x12 - x6) := Num.of (Sm.sub h12.sm h6.sm)
  have m192 : Num 180000001 (cr (x13 - x7)) (x13 - x7) := Num.of (Sm.sub h13.sm h7.sm)
  have m193 : Num 180000001 (cr (x14 - x8)) (x14 - x8) := Num.of (Sm.sub h14.sm h8.sm)
  refine call_step (n_vec_Cross_0w (k0 := ((x4 * (x14 - x8)) - (x5 * (x13 - x7)))) (k1 := ((x5 * (x12 - x6)) - (x3 * (x14 - x8)))) (k2 := ((x3 * (x13 - x7)) - (x4 * (x12 - x6)))) h3 h4 h5 m191 m192 m193 (by decide) rfl rfl rfl) rfl ?_
  simp only [fa_agg, fa_one, fa_nil, List.cons_append, List.nil_append, List.append_nil]
  have m194 : Num 180000001 (cr (x9 - x6)) (x9 - x6) := Num.of (Sm.sub h9.sm h6.sm)
  have m195 : Num 180000001 (cr (x10 - x7)) (x10 - x7) := Num.of (Sm.sub h10.sm h7.sm)
  have m196 : Num 180000001 (cr (x11 - x8)) (x11 - x8) := Num.of (Sm.sub h11.sm h8.sm)
  have m197 : Num 540000003 (cr ((x4 * (x14 - x8)) - (x5 * (x13 - x7)))) ((x4 * (x14 - x8)) - (x5 * (x13 - x7))) := Num.of (Sm.sub (Sm.mul h4.sm m193.sm) (Sm.mul h5.sm m192.sm))
  have m198 : Num 540000003 (cr ((x5 * (x12 - x6)) - (x3 * (x14 - x8)))) ((x5 * (x12 - x6)) - (x3 * (x14 - x8))) := Num.of (Sm.sub (Sm.mul h5.sm m191.sm) (Sm.mul h3.sm m193.sm))
  have m199 : Num 540000003 (cr ((x3 * (x13 - x7)) - (x4 * (x12 - x6)))) ((x3 * (x13 - x7)) - (x4 * (x12 - x6))) := Num.of (Sm.sub (Sm.mul h3.sm m192.sm) (Sm.mul h4.sm m191.sm))
  refine call_step (n_vec_Dot_0w (k0 := ((((x9 - x6) * ((x4 * (x14 - x8)) - (x5 * (x13 - x7)))) + ((x10 - x7) * ((x5 * (x12 - x6)) - (x3 * (x14 - x8))))) + ((x11 - x8) * ((x3 * (x13 - x7)) - (x4 * (x12 - x6)))))) m194 m195 m196 m197 m198 m199 (by decide) rfl) rfl ?_
  simp only [fa_agg, fa_one, fa_nil, List.cons_append, List.nil_append, List.append_nil]
  refine call_step (n_rat_Of (1) (1) (by decide) (by decide) (by decide) (by decide) (Y1.trans (by decide +kernel))) rfl ?_
  simp only [fa_agg, fa_one, fa_nil, List.cons_append, List.nil_append, List.append_nil]
  have m200 : Num 1 (cr Z1) Z1 := Num.c Y1 (by decide +kernel) (by decide +kernel)
  have m201 : Num 2160000014 (cr ((((x9 - x6) * ((x4 * (x14 - x8)) - (x5 * (x13 - x7)))) + ((x10 - x7) * ((x5 * (x12 - x6)) - (x3 * (x14 - x8))))) + ((x11 - x8) * ((x3 * (x13 - x7)) - (x4 * (x12 - x6)))))) ((((x9 - x6) * ((x4 * (x14 - x8)) - (x5 * (x13 - x7)))) + ((x10 - x7) * ((x5 * (x12 - x6)) - (x3 * (x14 - x8))))) + ((x11 - x8) * ((x3 * (x13 - x7)) - (x4 * (x12 - x6))))) := Num.of (Sm.add (Sm.add (Sm.mul m194.sm m197.sm) (Sm.mul m195.sm m198.sm)) (Sm.mul m196.sm m199.sm))
  refine call_step (n_rat_Div_t Y0 (m200.mono (by decide)) (m201.mono (by decide)) c0) rfl ?_
  simp only [fa_agg, fa_one, fa_nil, List.cons_append, List.nil_append, List.append_nil]
  refine primS (.bool true) rfl ?_
  refine itT rfl ?_
  exact ret_step rfl

theorem n_tri_Hit_0w {Z0 Z1 : Rat} (Y0 : Z0 = (0 : Rat)) (Y1 : Z1 = (1 : Rat)) {r0 r1 r2 r3 r4 r5 r6 r7 r8 r9 r10 r11 r12 r13 r14 : RR} {x0 x1 x2 x3 x4 x5 x6 x7 x8 x9 x10 x11 x12 x13 x14 : Rat} {k0 : Rat} {L0 L1 L2 L3 L4 L5 L6 L7 L8 L9 L10 L11 L12 L13 L14 : Nat} (h0 : Num L0 r0 x0) (h1 : Num L1 r1 x1) (h2 : Num L2 r2 x2) (h3 : Num L3 r3 x3) (h4 : Num L4 r4 x4) (h5 : Num L5 r5 x5) (h6 : Num L6 r6 x6) (h7 : Num L7 r7 x7) (h8 : Num L8 r8 x8) (h9 : Num L9 r9 x9) (h10 : Num L10 r10 x10) (h11 : Num L11 r11 x11) (h12 : Num L12 r12 x12) (h13 : Num L13 r13 x13) (h14 : Num L14 r14 x14) (hl : L0 ≤ 90000000 ∧ L1 ≤ 90000000 ∧ L2 ≤ 90000000 ∧ L3 ≤ 90000000 ∧ L4 ≤ 90000000 ∧ L5 ≤ 90000000 ∧ L6 ≤ 90000000 ∧ L7 ≤ 90000000 ∧ L8 ≤ 90000000 ∧ L9 ≤ 90000000 ∧ L10 ≤ 90000000 ∧ L11 ≤ 90000000 ∧ L12 ≤ 90000000 ∧ L13 ≤ 90000000 ∧ L14 ≤ 90000000) (e0 : k0 = ((((x9 - x6) * ((x4 * (x14 - x8)) - (x5 * (x13 - x7)))) + ((x10 - x7) * ((x5 * (x12 - x6)) - (x3 * (x14 - x8))))) + ((x11 - x8) * ((x3 * (x13 - x7)) - (x4 * (x12 - x6)))))) (c0 : k0 = Z0) : PureCalls prog F.tri_Hit [.agg ([.bool r0.neg, nl r0.num, nl r0.den, .bool r1.neg, nl r1.num, nl r1.den, .bool r2.neg, nl r2.num, nl r2.den]), .agg ([.bool r3.neg, nl r3.num, nl r3.den, .bool r4.neg, nl r4.num, nl r4.den, .bool r5.neg, nl r5.num, nl r5.den]), .agg ([.bool r6.neg, nl r6.num, nl r6.den, .bool r7.neg, nl r7.num, nl r7.den, .bool r8.neg, nl r8.num, nl r8.den, .bool r9.neg, nl r9.num, nl r9.den, .bool r10.neg, nl r10.num, nl r10.den, .bool r11.neg, nl r11.num, nl r11.den, .bool r12.neg, nl r12.num, nl r12.den, .bool r13.neg, nl r13.num, nl r13.den, .bool r14.neg, nl r14.num, nl r14.den])] [.agg ([.bool (decide ((Z0).num < 0)), nn (Z0).num.natAbs, nn (Z0).den, .bool (decide ((Z0).num < 0)), nn (Z0).num.natAbs, nn (Z0).den, .bool (decide ((Z0).num < 0)), nn (Z0).num.natAbs, nn (Z0).den]), .one (.bool false)] := n_tri_Hit_0 Y0 Y1 (h0.mono hl.1) (h1.mono hl.2.1) (h2.mono hl.2.2.1) (h3.mono hl.2.2.2.1) (h4.mono hl.2.2.2.2.1) (h5.mono hl.2.2.2.2.2.1) (h6.mono hl.2.2.2.2.2.2.1) (h7.mono hl.2.2.2.2.2.2.2.1) (h8.mono hl.2.2.2.2.2.2.2.2.1) (h9.mono hl.2.2.2.2.2.2.2.2.2.1) (h10.mono hl.2.2.2.2.2.2.2.2.2.2.1) (h11.mono hl.2.2.2.2.2.2.2.2.2.2.2.1) (h12.mono hl.2.2.2.2.2.2.2.2.2.2.2.2.1) (h13.mono hl.2.2.2.2.2.2.2.2.2.2.2.2.2.1) (h14.mono hl.2.2.2.2.2.2.2.2.2.2.2.2.2.2) e0 c0

theorem n_tri_Hit_1 {Z0 Z1 : Rat} (Y0 : Z0 = (0 : Rat)) (Y1 : Z1 = (1 : Rat)) {r0 r1 r2 r3 r4 r5 r6 r7 r8 r9 r10 r11 r12 r13 r14 : RR} {x0 x1 x2 x3 x4 x5 x6 x7 x8 x9 x10 x11 x12 x13 x14 : Rat} {k0 k1 k2 : Rat} (h0 : Num 90000000 r0 x0) (h1 : Num 90000000 r1 x1) (h2 : Num 90000000 r2 x2) (h3 : Num 90000000 r3 x3) (h4 : Num 90000000 r4 x4) (h5 : Num 90000000 r5 x5) (h6 : Num 90000000 r6 x6) (h7 : Num 90000000 r7 x7) (h8 : Num 90000000 r8 x8) (h9 : Num 90000000 r9 x9) (h10 : Num 90000000 r10 x10) (h11 : Num 90000000 r11 x11) (h12 : Num 90000000 r12 x12) (h13 : Num 90000000 r13 x13) (h14 : Num 90000000 r14 x14) (e0 : k0 = ((((x9 - x6) * ((x4 * (x14 - x8)) - (x5 * (x13 - x7)))) + ((x10 - x7) * ((x5 * (x12 - x6)) - (x3 * (x14 - x8))))) + ((x11 - x8) * ((x3 * (x13 - x7)) - (x4 * (x12 - x6)))))) (e1 : k1 = (Z1 / k0)) (e2 : k2 = (k1 * ((((x0 - x6) * ((x4 * (x14 - x8)) - (x5 * (x13 - x7)))) + ((x1 - x7) * ((x5 * (x12 - x6)) - (x3 * (x14 - x8))))) + ((x2 - x8) * ((x3 * (x13 - x7)) - (x4 * (x12 - x6))))))) (c0 : ¬k0 = Z0) (c1 : k2 < Z0) : PureCalls prog F.tri_Hit [.agg ([.bool r0.neg, nl r0.num, nl r0.den, .bool r1.neg, nl r1.num, nl r1.den, .bool r2.neg, nl r2.num, nl r2.den]), .agg ([.bool r3.neg, nl r3.num, nl r3.den, .bool r4.neg, nl r4.num, nl r4.den, .bool r5.neg, nl r5.num, nl r5.den]), .agg ([.bool r6.neg, nl r6.num, nl r6.den, .bool r7.neg, nl r7.num, nl r7.den, .bool r8.neg, nl r8.num, nl r8.den, .bool r9.neg, nl r9.num, nl r9.den, .bool r10.neg, nl r10.num, nl r10.den, .bool r11.neg, nl r11.num, nl r11.den, .bool r12.neg, nl r12.num, nl r12.den, .bool r13.neg, nl r13.num, nl r13.den, .bool r14.neg, nl r14.num, nl r14.den])] [.agg ([.bool (decide ((Z0).num < 0)), nn (Z0).num.natAbs, nn (Z0).den, .bool (decide ((Z0).num < 0)), nn (Z0).num.natAbs, nn (Z0).den, .bool (decide ((Z0).num < 0)), nn (Z0).num.natAbs, nn (Z0).den]), .one (.bool false)] := by
  subst e0 e1 e2
  refine symFunc_sound hmix tree_tri_Hit (by kernel_rfl) rfl ?_
  unfold ir_tri_Hit
  simp only [fa_agg, fa_one, fa_nil, List.cons_append, List.nil_append, List.append_nil]
  refine call_step (n_rat_Of (0) (1) (by decide) (by decide) (by decide) (by decide) (Y0.trans (by decide +kernel))) rfl ?_
  simp only [fa_agg, fa_one, fa_nil, List.cons_append, List.nil_append, List.append_nil]
  refine call_step (n_tri_sides_0w (k0 := (x9 - x6)) (k1 := (x10 - x7)) (k2 := (x11 - x8)) (k3 := (x12 - x6)) (k4 := (x13 - x7)) (k5 := (x14 - x8)) h6 h7 h8 h9 h10 h11 h12 h13 h14 (by decide) rfl rfl rfl rfl rfl rfl) rfl ?_
  simp only [fa_agg, fa_one, fa_nil, List.cons_append, List.nil_append, List.append_nil]
  have m202 : Num 180000001 (cr (x12 - x6)) (x12 - x6) := Num.of (Sm.sub h12.sm h6.sm)
  have m203 : Num 180000001 (cr (x13 - x7)) (x13 - x7) := Num.of (Sm.sub h13.sm h7.sm)
  have m204 : Num 180000001 (cr (x14 - x8)) (x14 - x8) := Num.of (Sm.sub h14.sm h8.sm)
  refine call_step (n_vec_Cross_0w (k0 := ((x4 * (x14 - x8)) - (x5 * (x13 - x7)))) (k1 := ((x5 * (x12 - x6)) - (x3 * (x14 - x8)))) (k2 := ((x3 * (x13 - x7)) - (x4 * (x12 - x6)))) h3 h4 h5 m202 m203 m204 (by decide) rfl rfl rfl) rfl ?_
  simp only [fa_agg, fa_one, fa_nil, List.cons_append, List.nil_append, List.append_nil]
  have m205 : Num 180000001 (cr (x9 - x6)) (x9 - x6) := Num.of (Sm.sub h9.sm h6.sm)
  have m206 : Num 180000001 (cr (x10 - x7)) (x10 - x7) := Num.of (Sm.sub h10.sm h7.sm)
  have m207 : Num 180000001 (cr (x11 - x8)) (x11 - x8) := Num.of (Sm.sub h11.sm h8.sm)
  have m208 : Num 540000003 (cr ((x4 * (x14 - x8)) - (x5 * (x13 - x7)))) ((x4 * (x14 - x8)) - (x5 * (x13 - x7))) := Num.of (Sm.sub (Sm.mul h4.sm m204.sm) (Sm.mul h5.sm m203.sm))
  have m209 : Num 540000003 (cr ((x5 * (x12 - x6)) - (x3 * (x14 - x8)))) ((x5 * (x12 - x6)) - (x3 * (x14 - x8))) := Num.of (Sm.sub (Sm.mul h5.sm m202.sm) (Sm.mul h3.sm m204.sm))
  have m210 : Num 540000003 (cr ((x3 * (x13 - x7)) - (x4 * (x12 - x6)))) ((x3 * (x13 - x7)) - (x4 * (x12 - x6))) := Num.of (Sm.sub (Sm.mul h3.sm m203.sm) (Sm.mul h4.sm m202.sm))
  refine call_step (n_vec_Dot_0w (k0 := ((((x9 - x6) * ((x4 * (x14 - x8)) - (x5 * (x13 - x7)))) + ((x10 - x7) * ((x5 * (x12 - x6)) - (x3 * (x14 - x8))))) + ((x11 - x8) * ((x3 * (x13 - x7)) - (x4 * (x12 - x6)))))) m205 m206 m207 m208 m209 m210 (by decide) rfl) rfl ?_
  simp only [fa_agg, fa_one, fa_nil, List.cons_append, List.nil_append, List.append_nil]
  refine call_step (n_rat_Of (1) (1) (by decide) (by decide) (by decide) (by decide) (Y1.trans (by decide +kernel))) rfl ?_
  simp only [fa_agg, fa_one, fa_nil, List.cons_append, List.nil_append, List.append_nil]
  have m211 : Num 1 (cr Z1) Z1 := Num.c Y1 (by decide +kernel) (by decide +kernel)
  have m212 : Num 2160000014 (cr ((((x9 - x6) * ((x4 * (x14 - x8)) - (x5 * (x13 - x7)))) + ((x10 - x7) * ((x5 * (x12 - x6)) - (x3 * (x14 - x8))))) + ((x11 - x8) * ((x3 * (x13 - x7)) - (x4 * (x12 - x6)))))) ((((x9 - x6) * ((x4 * (x14 - x8)) - (x5 * (x13 - x7)))) + ((x10 - x7) * ((x5 * (x12 - x6)) - (x3 * (x14 - x8))))) + ((x11 - x8) * ((x3 * (x13 - x7)) - (x4 * (x12 - x6))))) := Num.of (Sm.add (Sm.add (Sm.mul m205.sm m208.sm) (Sm.mul m206.sm m209.sm)) (Sm.mul m207.sm m210.sm))
  refine call_step (n_rat_Div_f (k0 := (Z1 / ((((x9 - x6) * ((x4 * (x14 - x8)) - (x5 * (x13 - x7)))) + ((x10 - x7) * ((x5 * (x12 - x6)) - (x3 * (x14 - x8))))) + ((x11 - x8) * ((x3 * (x13 - x7)) - (x4 * (x12 - x6))))))) Y0 (m211.mono (by decide)) (m212.mono (by decide)) rfl c0) rfl ?_
  simp only [fa_agg, fa_one, fa_nil, List.cons_append, List.nil_append, List.append_nil]
  refine primS (.bool false) rfl ?_
  refine itF rfl ?_
  refine call_step (n_vec_Sub_0w (k0 := (x0 - x6)) (k1 := (x1 - x7)) (k2 := (x2 - x8)) h0 h1 h2 h6 h7 h8 (by decide) rfl rfl rfl) rfl ?_
  simp only [fa_agg, fa_one, fa_nil, List.cons_append, List.nil_append, List.append_nil]
  have m213 : Num 180000001 (cr (x0 - x6)) (x0 - x6) := Num.of (Sm.sub h0.sm h6.sm)
  have m214 : Num 180000001 (cr (x1 - x7)) (x1 - x7) := Num.of (Sm.sub h1.sm h7.sm)
  have m215 : Num 180000001 (cr (x2 - x8)) (x2 - x8) := Num.of (Sm.sub h2.sm h8.sm)
  refine call_step (n_vec_Dot_0w (k0 := ((((x0 - x6) * ((x4 * (x14 - x8)) - (x5 * (x13 - x7)))) + ((x1 - x7) * ((x5 * (x12 - x6)) - (x3 * (x14 - x8))))) + ((x2 - x8) * ((x3 * (x13 - x7)) - (x4 * (x12 - x6)))))) m213 m214 m215 m208 m209 m210 (by decide) rfl) rfl ?_
  simp only [fa_agg, fa_one, fa_nil, List.cons_append, List.nil_append, List.append_nil]
  refine primS (rl [(cr (Z1 / ((((x9 - x6) * ((x4 * (x14 - x8)) - (x5 * (x13 - x7)))) + ((x10 - x7) * ((x5 * (x12 - x6)) - (x3 * (x14 - x8))))) + ((x11 - x8) * ((x3 * (x13 - x7)) - (x4 * (x12 - x6))))))), (cr ((((x0 - x6) * ((x4 * (x14 - x8)) - (x5 * (x13 - x7)))) + ((x1 - x7) * ((x5 * (x12 - x6)) - (x3 * (x14 - x8))))) + ((x2 - x8) * ((x3 * (x13 - x7)) - (x4 * (x12 - x6))))))]) rfl ?_
  have m217 : Num 2160000015 (cr (Z1 / ((((x9 - x6) * ((x4 * (x14 - x8)) - (x5 * (x13 - x7)))) + ((x10 - x7) * ((x5 * (x12 - x6)) - (x3 * (x14 - x8))))) + ((x11 - x8) * ((x3 * (x13 - x7)) - (x4 * (x12 - x6))))))) (Z1 / ((((x9 - x6) * ((x4 * (x14 - x8)) - (x5 * (x13 - x7)))) + ((x10 - x7) * ((x5 * (x12 - x6)) - (x3 * (x14 - x8))))) + ((x11 - x8) * ((x3 * (x13 - x7)) - (x4 * (x12 - x6)))))) := Num.of (Sm.div m211.sm m212.sm)
  have m218 : Num 2160000014 (cr ((((x0 - x6) * ((x4 * (x14 - x8)) - (x5 * (x13 - x7)))) + ((x1 - x7) * ((x5 * (x12 - x6)) - (x3 * (x14 - x8))))) + ((x2 - x8) * ((x3 * (x13 - x7)) - (x4 * (x12 - x6)))))) ((((x0 - x6) * ((x4 * (x14 - x8)) - (x5 * (x13 - x7)))) + ((x1 - x7) * ((x5 * (x12 - x6)) - (x3 * (x14 - x8))))) + ((x2 - x8) * ((x3 * (x13 - x7)) - (x4 * (x12 - x6))))) := Num.of (Sm.add (Sm.add (Sm.mul m213.sm m208.sm) (Sm.mul m214.sm m209.sm)) (Sm.mul m215.sm m210.sm))
  refine call_step (n_rat_Product_2 (k0 := ((Z1 / ((((x9 - x6) * ((x4 * (x14 - x8)) - (x5 * (x13 - x7)))) + ((x10 - x7) * ((x5 * (x12 - x6)) - (x3 * (x14 - x8))))) + ((x11 - x8) * ((x3 * (x13 - x7)) - (x4 * (x12 - x6)))))) * ((((x0 - x6) * ((x4 * (x14 - x8)) - (x5 * (x13 - x7)))) + ((x1 - x7) * ((x5 * (x12 - x6)) - (x3 * (x14 - x8))))) + ((x2 - x8) * ((x3 * (x13 - x7)) - (x4 * (x12 - x6))))))) (m217.mono (by decide)) (m218.mono (by decide)) rfl) rfl ?_
  simp only [fa_agg, fa_one, fa_nil, List.cons_append, List.nil_append, List.append_nil]
  have m219 : Num 4320000029 (cr ((Z1 / ((((x9 - x6) * ((x4 * (x14 - x8)) - (x5 * (x13 - x7)))) + ((x10 - x7) * ((x5 * (x12 - x6)) - (x3 * (x14 - x8))))) + ((x11 - x8) * ((x3 * (x13 - x7)) - (x4 * (x12 - x6)))))) * ((((x0 - x6) * ((x4 * (x14 - x8)) - (x5 * (x13 - x7)))) + ((x1 - x7) * ((x5 * (x12 - x6)) - (x3 * (x14 - x8))))) + ((x2 - x8) * ((x3 * (x13 - x7)) - (x4 * (x12 - x6))))))) ((Z1 / ((((x9 - x6) * ((x4 * (x14 - x8)) - (x5 * (x13 - x7)))) + ((x10 - x7) * ((x5 * (x12 - x6)) - (x3 * (x14 - x8))))) + ((x11 - x8) * ((x3 * (x13 - x7)) - (x4 * (x12 - x6)))))) * ((((x0 - x6) * ((x4 * (x14 - x8)) - (x5 * (x13 - x7)))) + ((x1 - x7) * ((x5 * (x12 - x6)) - (x3 * (x14 - x8))))) + ((x2 - x8) * ((x3 * (x13 - x7)) - (x4 * (x12 - x6)))))) := Num.of (Sm.mul m217.sm m218.sm)
  refine call_step (n_rat_Sign (m219.mono (by decide))) rfl ?_
  simp only [fa_agg, fa_one, fa_nil, List.cons_append, List.nil_append, List.append_nil]
  refine primS (.bool true) (cs_lss_t ((sg_lt Y0).2 c1)) ?_
  refine itT rfl ?_
  exact ret_step rfl

theorem n_tri_Hit_1w {Z0 Z1 : Rat} (Y0 : Z0 = (0 : Rat)) (Y1 : Z1 = (1 : Rat)) {r0 r1 r2 r3 r4 r5 r6 r7 r8 r9 r10 r11 r12 r13 r14 : RR} {x0 x1 x2 x3 x4 x5 x6 x7 x8 x9 x10 x11 x12 x13 x14 : Rat} {k0 k1 k2 : Rat} {L0 L1 L2 L3 L4 L5 L6 L7 L8 L9 L10 L11 L12 L13 L14 : Nat} (h0 : Num L0 r0 x0) (h1 : Num L1 r1 x1) (h2 : Num L2 r2 x2) (h3 : Num L3 r3 x3) (h4 : Num L4 r4 x4) (h5 : Num L5 r5 x5) (h6 : Num L6 r6 x6) (h7 : Num L7 r7 x7) (h8 : Num L8 r8 x8) (h9 : Num L9 r9 x9) (h10 : Num L10 r10 x10) (h11 : Num L11 r11 x11) (h12 : Num L12 r12 x12) (h13 : Num L13 r13 x13) (h14 : Num L14 r14 x14) (hl : L0 ≤ 90000000 ∧ L1 ≤ 90000000 ∧ L2 ≤ 90000000 ∧ L3 ≤ 90000000 ∧ L4 ≤ 90000000 ∧ L5 ≤ 90000000 ∧ L6 ≤ 90000000 ∧ L7 ≤ 90000000 ∧ L8 ≤ 90000000 ∧ L9 ≤ 90000000 ∧ L10 ≤ 90000000 ∧ L11 ≤ 90000000 ∧ L12 ≤ 90000000 ∧ L13 ≤ 90000000 ∧ L14 ≤ 90000000) (e0 : k0 = ((((x9 - x6) * ((x4 * (x14 - x8)) - (x5 * (x13 - x7)))) + ((x10 - x7) * ((x5 * (x12 - x6)) - (x3 * (x14 - x8))))) + ((x11 - x8) * ((x3 * (x13 - x7)) - (x4 * (x12 - x6)))))) (e1 : k1 = (Z1 / k0)) (e2 : k2 = (k1 * ((((x0 - x6) * ((x4 * (x14 - x8)) - (x5 * (x13 - x7)))) + ((x1 - x7) * ((x5 * (x12 - x6)) - (x3 * (x14 - x8))))) + ((x2 - x8) * ((x3 * (x13 - x7)) - (x4 * (x12 - x6))))))) (c0 : ¬k0 = Z0) (c1 : k2 < Z0) : PureCalls prog F.tri_Hit [.agg ([.bool r0.neg, nl r0.num, nl r0.den, .bool r1.neg, nl r1.num, nl r1.den, .bool r2.neg, nl r2.num, nl r2.den]), .agg ([.bool r3.neg, nl r3.num, nl r3.den, .bool r4.neg, nl r4.num, nl r4.den, .bool r5.neg, nl r5.num, nl r5.den]), .agg ([.bool r6.neg, nl r6.num, nl r6.den, .bool r7.neg, nl r7.num, nl r7.den, .bool r8.neg, nl r8.num, nl r8.den, .bool r9.neg, nl r9.num, nl r9.den, .bool r10.neg, nl r10.num, nl r10.den, .bool r11.neg, nl r11.num, nl r11.den, .bool r12.neg, nl r12.num, nl r12.den, .bool r13.neg, nl r13.num, nl r13.den, .bool r14.neg, nl r14.num, nl r14.den])] [.agg ([.bool (decide ((Z0).num < 0)), nn (Z0).num.natAbs, nn (Z0).den, .bool (decide ((Z0).num < 0)), nn (Z0).num.natAbs, nn (Z0).den, .bool (decide ((Z0).num < 0)), nn (Z0).num.natAbs, nn (Z0).den]), .one (.bool false)] := n_tri_Hit_1 Y0 Y1 (h0.mono hl.1) (h1.mono hl.2.1) (h2.mono hl.2.2.1) (h3.mono hl.2.2.2.1) (h4.mono hl.2.2.2.2.1) (h5.mono hl.2.2.2.2.2.1) (h6.mono hl.2.2.2.2.2.2.1) (h7.mono hl.2.2.2.2.2.2.2.1) (h8.mono hl.2.2.2.2.2.2.2.2.1) (h9.mono hl.2.2.2.2.2.2.2.2.2.1) (h10.mono hl.2.2.2.2.2.2.2.2.2.2.1) (h11.mono hl.2.2.2.2.2.2.2.2.2.2.2.1) (h12.mono hl.2.2.2.2.2.2.2.2.2.2.2.2.1) (h13.mono hl.2.2.2.2.2.2.2.2.2.2.2.2.2.1) (h14.mono hl.2.2.2.2.2.2.2.2.2.2.2.2.2.2) e0 e1 e2 c0 c1

theorem n_tri_Hit_2 {Z0 Z1 : Rat} (Y0 : Z0 = (0 : Rat)) (Y1 : Z1 = (1 : Rat)) {r0 r1 r2 r3 r4 r5 r6 r7 r8 r9 r10 r11 r12 r13 r14 : RR} {x0 x1 x2 x3 x4 x5 x6 x7 x8 x9 x10 x11 x12 x13 x14 : Rat} {k0 k1 k2 k3 : Rat} (h0 : Num 90000000 r0 x0) (h1 : Num 90000000 r1 x1) (h2 : Num 90000000 r2 x2) (h3 : Num 90000000 r3 x3) (h4 : Num 90000000 r4 x4) (h5 : Num 90000000 r5 x5) (h6 : Num 90000000 r6 x6) (h7 : Num 90000000 r7 x7) (h8 : Num 90000000 r8 x8) (h9 : Num 90000000 r9 x9) (h10 : Num 90000000 r10 x10) (h11 : Num 90000000 r11 x11) (h12 : Num 90000000 r12 x12) (h13 : Num 90000000 r13 x13) (h14 : Num 90000000 r14 x14) (e0 : k0 = ((((x9 - x6) * ((x4 * (x14 - x8)) - (x5 * (x13 - x7)))) + ((x10 - x7) * ((x5 * (x12 - x6)) - (x3 * (x14 - x8))))) + ((x11 - x8) * ((x3 * (x13 - x7)) - (x4 * (x12 - x6)))))) (e1 : k1 = (Z1 / k0)) (e2 : k2 = (k1 * ((((x0 - x6) * ((x4 * (x14 - x8)) - (x5 * (x13 - x7)))) + ((x1 - x7) * ((x5 * (x12 - x6)) - (x3 * (x14 - x8))))) + ((x2 - x8) * ((x3 * (x13 - x7)) - (x4 * (x12 - x6))))))) (e3 : k3 = (k1 * (((x3 * (((x1 - x7) * (x11 - x8)) - ((x2 - x8) * (x10 - x7)))) + (x4 * (((x2 - x8) * (x9 - x6)) - ((x0 - x6) * (x11 - x8))))) + (x5 * (((x0 - x6) * (x10 - x7)) - ((x1 - x7) * (x9 - x6))))))) (c0 : ¬k0 = Z0) (c1 : ¬k2 < Z0) (c2 : k3 < Z0) : PureCalls prog F.tri_Hit [.agg ([.bool r0.neg, nl r0.num, nl r0.den, .bool r1.neg, nl r1.num, nl r1.den, .bool r2.neg, nl r2.num, nl r2.den]), .agg ([.bool r3.neg, nl r3.num, nl r3.den, .bool r4.neg, nl r4.num, nl r4.den, .bool r5.neg, nl r5.num, nl r5.den]), .agg ([.bool r6.neg, nl r6.num, nl r6.den, .bool r7.neg, nl r7.num, nl r7.den, .bool r8.neg, nl r8.num, nl r8.den, .bool r9.neg, nl r9.num, nl r9.den, .bool r10.neg, nl r10.num, nl r10.den, .bool r11.neg, nl r11.num, nl r11.den, .bool r12.neg, nl r12.num, nl r12.den, .bool r13.neg, nl r13.num, nl r13.den, .bool r14.neg, nl r14.num, nl r14.den])] [.agg ([.bool (decide ((Z0).num < 0)), nn (Z0).num.natAbs, nn (Z0).den, .bool (decide ((Z0).num < 0)), nn (Z0).num.natAbs, nn (Z0).den, .bool (decide ((Z0).num < 0)), nn (Z0).num.natAbs, nn (Z0).den]), .one (.bool false)] := by
  subst e0 e1 e2 e3
  refine symFunc_sound hmix tree_tri_Hit (by kernel_rfl) rfl ?_
  unfold ir_tri_Hit
  simp only [fa_agg, fa_one, fa_nil, List.cons_append, List.nil_append, List.append_nil]
  refine call_step (n_rat_Of (0) (1) (by decide) (by decide) (by decide) (by decide) (Y0.trans (by decide +kernel))) rfl ?_
  simp only [fa_agg, fa_one, fa_nil, List.cons_append, List.nil_append, List.append_nil]
  refine call_step (n_tri_sides_0w (k0 := (x9 - x6)) (k1 := (x10 - x7)) (k2 := (x11 - x8)) (k3 := (x12 - x6)) (k4 := (x13 - x7)) (k5 := (x14 - x8)) h6 h7 h8 h9 h10 h11 h12 h13 h14 (by decide) rfl rfl rfl rfl rfl rfl) rfl ?_
  simp only [fa_agg, fa_one, fa_nil, List.cons_append, List.nil_append, List.append_nil]
  have m220 : Num 180000001 (cr (x12 - x6)) (x12 - x6) := Num.of (Sm.sub h12.sm h6.sm)
  have m221 : Num 180000001 (cr (x13 - x7)) (x13 - x7) := Num.of (Sm.sub h13.sm h7.sm)
  have m222 : Num 180000001 (cr (x14 - x8)) (x14 - x8) := Num.of (Sm.sub h14.sm h8.sm)
  refine call_step (n_vec_Cross_0w (k0 := ((x4 * (x14 - x8)) - (x5 * (x13 - x7)))) (k1 := ((x5 * (x12 - x6)) - (x3 * (x14 - x8)))) (k2 := ((x3 * (x13 - x7)) - (x4 * (x12 - x6)))) h3 h4 h5 m220 m221 m222 (by decide) rfl rfl rfl) rfl ?_
  simp only [fa_agg, fa_one, fa_nil, List.cons_append, List.nil_append, List.append_nil]
  have m223 : Num 180000001 (cr (x9 - x6)) (x9 - x6) := Num.of (Sm.sub h9.sm h6.sm)
  have m224 : Num 180000001 (cr (x10 - x7)) (x10 - x7) := Num.of (Sm.sub h10.sm h7.sm)
  have m225 : Num 180000001 (cr (x11 - x8)) (x11 - x8) := Num.of (Sm.sub h11.sm h8.sm)
  have m226 : Num 540000003 (cr ((x4 * (x14 - x8)) - (x5 * (x13 - x7)))) ((x4 * (x14 - x8)) - (x5 * (x13 - x7))) := Num.of (Sm.sub (Sm.mul h4.sm m222.sm) (Sm.mul h5.sm m221.sm))
  have m227 : Num 540000003 (cr ((x5 * (x12 - x6)) - (x3 * (x14 - x8)))) ((x5 * (x12 - x6)) - (x3 * (x14 - x8))) := Num.of (Sm.sub (Sm.mul h5.sm m220.sm) (Sm.mul h3.sm m222.sm))
  have m228 : Num 540000003 (cr ((x3 * (x13 - x7)) - (x4 * (x12 - x6)))) ((x3 * (x13 - x7)) - (x4 * (x12 - x6))) := Num.of (Sm.sub (Sm.mul h3.sm m221.sm) (Sm.mul h4.sm m220.sm))
  refine call_step (n_vec_Dot_0w (k0 := ((((x9 - x6) * ((x4 * (x14 - x8)) - (x5 * (x13 - x7)))) + ((x10 - x7) * ((x5 * (x12 - x6)) - (x3 * (x14 - x8))))) + ((x11 - x8) * ((x3 * (x13 - x7)) - (x4 * (x12 - x6)))))) m223 m224 m225 m226 m227 m228 (by decide) rfl) rfl ?_
  simp only [fa_agg, fa_one, fa_nil, List.cons_append, List.nil_append, List.append_nil]
  refine call_step (n_rat_Of (1) (1) (by decide) (by decide) (by decide) (by decide) (Y1.trans (by decide +kernel))) rfl ?_
  simp only [fa_agg, fa_one, fa_nil, List.cons_append, List.nil_append, List.append_nil]
  have m229 : Num 1 (cr Z1) Z1 := Num.c Y1 (by decide +kernel) (by decide +kernel)
  have m230 : Num 2160000014 (cr ((((x9 - x6) * ((x4 * (x14 - x8)) - (x5 * (x13 - x7)))) + ((x10 - x7) * ((x5 * (x12 - x6)) - (x3 * (x14 - x8))))) + ((x11 - x8) * ((x3 * (x13 - x7)) - (x4 * (x12 - x6)))))) ((((x9 - x6) * ((x4 * (x14 - x8)) - (x5 * (x13 - x7)))) + ((x10 - x7) * ((x5 * (x12 - x6)) - (x3 * (x14 - x8))))) + ((x11 - x8) * ((x3 * (x13 - x7)) - (x4 * (x12 - x6))))) := Num.of (Sm.add (Sm.add (Sm.mul m223.sm m226.sm) (Sm.mul m224.sm m227.sm)) (Sm.mul m225.sm m228.sm))
  refine call_step (n_rat_Div_f (k0 := (Z1 / ((((x9 - x6) * ((x4 * (x14 - x8)) - (x5 * (x13 - x7)))) + ((x10 - x7) * ((x5 * (x12 - x6)) - (x3 * (x14 - x8))))) + ((x11 - x8) * ((x3 * (x13 - x7)) - (x4 * (x12 - x6))))))) Y0 (m229.mono (by decide)) (m230.mono (by decide)) rfl c0) rfl ?_
  simp only [fa_agg, fa_one, fa_nil, List.cons_append, List.nil_append, List.append_nil]
  refine primS (.bool false) rfl ?_
  refine itF rfl ?_
  refine call_step (n_vec_Sub_0w (k0 := (x0 - x6)) (k1 := (x1 - x7)) (k2 := (x2 - x8)) h0 h1 h2 h6 h7 h8 (by decide) rfl rfl rfl) rfl ?_
  simp only [fa_agg, fa_one, fa_nil, List.cons_append, List.nil_append, List.append_nil]
  have m231 : Num 180000001 (cr (x0 - x6)) (x0 - x6) := Num.of (Sm.sub h0.sm h6.sm)
  have m232 : Num 180000001 (cr (x1 - x7)) (x1 - x7) := Num.of (Sm.sub h1.sm h7.sm)
  have m233 : Num 180000001 (cr (x2 - x8)) (x2 - x8) := Num.of (Sm.sub h2.sm h8.sm)
  refine call_step (n_vec_Dot_0w (k0 := ((((x0 - x6) * ((x4 * (x14 - x8)) - (x5 * (x13 - x7)))) + ((x1 - x7) * ((x5 * (x12 - x6)) - (x3 * (x14 - x8))))) + ((x2 - x8) * ((x3 * (x13 - x7)) - (x4 * (x12 - x6)))))) m231 m232 m233 m226 m227 m228 (by decide) rfl) rfl ?_
  simp only [fa_agg, fa_one, fa_nil, List.cons_append, List.nil_append, List.append_nil]
  refine primS (rl [(cr (Z1 / ((((x9 - x6) * ((x4 * (x14 - x8)) - (x5 * (x13 - x7)))) + ((x10 - x7) * ((x5 * (x12 - x6)) - (x3 * (x14 - x8))))) + ((x11 - x8) * ((x3 * (x13 - x7)) - (x4 * (x12 - x6))))))), (cr ((((x0 - x6) * ((x4 * (x14 - x8)) - (x5 * (x13 - x7)))) + ((x1 - x7) * ((x5 * (x12 - x6)) - (x3 * (x14 - x8))))) + ((x2 - x8) * ((x3 * (x13 - x7)) - (x4 * (x12 - x6))))))]) rfl ?_
  have m235 : Num 2160000015 (cr (Z1 / ((((x9 - x6) * ((x4 * (x14 - x8)) - (x5 * (x13 - x7)))) + ((x10 - x7) * ((x5 * (x12 - x6)) - (x3 * (x14 - x8))))) + ((x11 - x8) * ((x3 * (x13 - x7)) - (x4 * (x12 - x6))))))) (Z1 / ((((x9 - x6) * ((x4 * (x14 - x8)) - (x5 * (x13 - x7)))) + ((x10 - x7) * ((x5 * (x12 - x6)) - (x3 * (x14 - x8))))) + ((x11 - x8) * ((x3 * (x13 - x7)) - (x4 * (x12 - x6)))))) := Num.of (Sm.div m229.sm m230.sm)
  have m236 : Num 2160000014 (cr ((((x0 - x6) * ((x4 * (x14 - x8)) - (x5 * (x13 - x7)))) + ((x1 - x7) * ((x5 * (x12 - x6)) - (x3 * (x14 - x8))))) + ((x2 - x8) * ((x3 * (x13 - x7)) - (x4 * (x12 - x6)))))) ((((x0 - x6) * ((x4 * (x14 - x8)) - (x5 * (x13 - x7)))) + ((x1 - x7) * ((x5 * (x12 - x6)) - (x3 * (x14 - x8))))) + ((x2 - x8) * ((x3 * (x13 - x7)) - (x4 * (x12 - x6))))) := Num.of (Sm.add (Sm.add (Sm.mul m231.sm m226.sm) (Sm.mul m232.sm m227.sm)) (Sm.mul m233.sm m228.sm))
  refine call_step (n_rat_Product_2 (k0 := ((Z1 / ((((x9 - x6) * ((x4 * (x14 - x8)) - (x5 * (x13 - x7)))) + ((x10 - x7) * ((x5 * (x12 - x6)) - (x3 * (x14 - x8))))) + ((x11 - x8) * ((x3 * (x13 - x7)) - (x4 * (x12 - x6)))))) * ((((x0 - x6) * ((x4 * (x14 - x8)) - (x5 * (x13 - x7)))) + ((x1 - x7) * ((x5 * (x12 - x6)) - (x3 * (x14 - x8))))) + ((x2 - x8) * ((x3 * (x13 - x7)) - (x4 * (x12 - x6))))))) (m235.mono (by decide)) (m236.mono (by decide)) rfl) rfl ?_
  simp only [fa_agg, fa_one, fa_nil, List.cons_append, List.nil_append, List.append_nil]
  have m237 : Num 4320000029 (cr ((Z1 / ((((x9 - x6) * ((x4 * (x14 - x8)) - (x5 * (x13 - x7)))) + ((x10 - x7) * ((x5 * (x12 - x6)) - (x3 * (x14 - x8))))) + ((x11 - x8) * ((x3 * (x13 - x7)) - (x4 * (x12 - x6)))))) * ((((x0 - x6) * ((x4 * (x14 - x8)) - (x5 * (x13 - x7)))) + ((x1 - x7) * ((x5 * (x12 - x6)) - (x3 * (x14 - x8))))) + ((x2 - x8) * ((x3 * (x13 - x7)) - (x4 * (x12 - x6))))))) ((Z1 / ((((x9 - x6) * ((x4 * (x14 - x8)) - (x5 * (x13 - x7)))) + ((x10 - x7) * ((x5 * (x12 - x6)) - (x3 * (x14 - x8))))) + ((x11 - x8) * ((x3 * (x13 - x7)) - (x4 * (x12 - x6)))))) * ((((x0 - x6) * ((x4 * (x14 - x8)) - (x5 * (x13 - x7)))) + ((x1 - x7) * ((x5 * (x12 - x6)) - (x3 * (x14 - x8))))) + ((x2 - x8) * ((x3 * (x13 - x7)) - (x4 * (x12 - x6)))))) := Num.of (Sm.mul m235.sm m236.sm)
  refine call_step (n_rat_Sign (m237.mono (by decide))) rfl ?_
  simp only [fa_agg, fa_one, fa_nil, List.cons_append, List.nil_append, List.append_nil]
  refine primS (.bool false) (cs_lss_f (fun z => c1 ((sg_lt Y0).1 z))) ?_
  refine itF rfl ?_
  refine call_step (n_vec_Cross_0w (k0 := (((x1 - x7) * (x11 - x8)) - ((x2 - x8) * (x10 - x7)))) (k1 := (((x2 - x8) * (x9 - x6)) - ((x0 - x6) * (x11 - x8)))) (k2 := (((x0 - x6) * (x10 - x7)) - ((x1 - x7) * (x9 - x6)))) m231 m232 m233 m223 m224 m225 (by decide) rfl rfl rfl) rfl ?_
  simp only [fa_agg, fa_one, fa_nil, List.cons_append, List.nil_append, List.append_nil]
  have m238 : Num 720000005 (cr (((x1 - x7) * (x11 - x8)) - ((x2 - x8) * (x10 - x7)))) (((x1 - x7) * (x11 - x8)) - ((x2 - x8) * (x10 - x7))) := Num.of (Sm.sub (Sm.mul m232.sm m225.sm) (Sm.mul m233.sm m224.sm))
  have m239 : Num 720000005 (cr (((x2 - x8) * (x9 - x6)) - ((x0 - x6) * (x11 - x8)))) (((x2 - x8) * (x9 - x6)) - ((x0 - x6) * (x11 - x8))) := Num.of (Sm.sub (Sm.mul m233.sm m223.sm) (Sm.mul m231.sm m225.sm))
  have m240 : Num 720000005 (cr (((x0 - x6) * (x10 - x7)) - ((x1 - x7) * (x9 - x6)))) (((x0 - x6) * (x10 - x7)) - ((x1 - x7) * (x9 - x6))) := Num.of (Sm.sub (Sm.mul m231.sm m224.sm) (Sm.mul m232.sm m223.sm))
  refine call_step (n_vec_Dot_0w (k0 := (((x3 * (((x1 - x7) * (x11 - x8)) - ((x2 - x8) * (x10 - x7)))) + (x4 * (((x2 - x8) * (x9 - x6)) - ((x0 - x6) * (x11 - x8))))) + (x5 * (((x0 - x6) * (x10 - x7)) - ((x1 - x7) * (x9 - x6)))))) h3 h4 h5 m238 m239 m240 (by decide) rfl) rfl ?_
  simp only [fa_agg, fa_one, fa_nil, List.cons_append, List.nil_append, List.append_nil]
  refine primS (rl [(cr (Z1 / ((((x9 - x6) * ((x4 * (x14 - x8)) - (x5 * (x13 - x7)))) + ((x10 - x7) * ((x5 * (x12 - x6)) - (x3 * (x14 - x8))))) + ((x11 - x8) * ((x3 * (x13 - x7)) - (x4 * (x12 - x6))))))), (cr (((x3 * (((x1 - x7) * (x11 - x8)) - ((x2 - x8) * (x10 - x7)))) + (x4 * (((x2 - x8) * (x9 - x6)) - ((x0 - x6) * (x11 - x8))))) + (x5 * (((x0 - x6) * (x10 - x7)) - ((x1 - x7) * (x9 - x6))))))]) rfl ?_
  have m242 : Num 2430000017 (cr (((x3 * (((x1 - x7) * (x11 - x8)) - ((x2 - x8) * (x10 - x7)))) + (x4 * (((x2 - x8) * (x9 - x6)) - ((x0 - x6) * (x11 - x8))))) + (x5 * (((x0 - x6) * (x10 - x7)) - ((x1 - x7) * (x9 - x6)))))) (((x3 * (((x1 - x7) * (x11 - x8)) - ((x2 - x8) * (x10 - x7)))) + (x4 * (((x2 - x8) * (x9 - x6)) - ((x0 - x6) * (x11 - x8))))) + (x5 * (((x0 - x6) * (x10 - x7)) - ((x1 - x7) * (x9 - x6))))) := Num.of (Sm.add (Sm.add (Sm.mul h3.sm m238.sm) (Sm.mul h4.sm m239.sm)) (Sm.mul h5.sm m240.sm))
  refine call_step (n_rat_Product_2 (k0 := ((Z1 / ((((x9 - x6) * ((x4 * (x14 - x8)) - (x5 * (x13 - x7)))) + ((x10 - x7) * ((x5 * (x12 - x6)) - (x3 * (x14 - x8))))) + ((x11 - x8) * ((x3 * (x13 - x7)) - (x4 * (x12 - x6)))))) * (((x3 * (((x1 - x7) * (x11 - x8)) - ((x2 - x8) * (x10 - x7)))) + (x4 * (((x2 - x8) * (x9 - x6)) - ((x0 - x6) * (x11 - x8))))) + (x5 * (((x0 - x6) * (x10 - x7)) - ((x1 - x7) * (x9 - x6))))))) (m235.mono (by decide)) (m242.mono (by decide)) rfl) rfl ?_
  simp only [fa_agg, fa_one, fa_nil, List.cons_append, List.nil_append, List.append_nil]
  refine call_step (n_vec_Dot_0w (k0 := ((((x12 - x6) * (((x1 - x7) * (x11 - x8)) - ((x2 - x8) * (x10 - x7)))) + ((x13 - x7) * (((x2 - x8) * (x9 - x6)) - ((x0 - x6) * (x11 - x8))))) + ((x14 - x8) * (((x0 - x6) * (x10 - x7)) - ((x1 - x7) * (x9 - x6)))))) m220 m221 m222 m238 m239 m240 (by decide) rfl) rfl ?_
  simp only [fa_agg, fa_one, fa_nil, List.cons_append, List.nil_append, List.append_nil]
  refine primS (rl [(cr (Z1 / ((((x9 - x6) * ((x4 * (x14 - x8)) - (x5 * (x13 - x7)))) + ((x10 - x7) * ((x5 * (x12 - x6)) - (x3 * (x14 - x8))))) + ((x11 - x8) * ((x3 * (x13 - x7)) - (x4 * (x12 - x6))))))), (cr ((((x12 - x6) * (((x1 - x7) * (x11 - x8)) - ((x2 - x8) * (x10 - x7)))) + ((x13 - x7) * (((x2 - x8) * (x9 - x6)) - ((x0 - x6) * (x11 - x8))))) + ((x14 - x8) * (((x0 - x6) * (x10 - x7)) - ((x1 - x7) * (x9 - x6))))))]) rfl ?_
  have m244 : Num 2700000020 (cr ((((x12 - x6) * (((x1 - x7) * (x11 - x8)) - ((x2 - x8) * (x10 - x7)))) + ((x13 - x7) * (((x2 - x8) * (x9 - x6)) - ((x0 - x6) * (x11 - x8))))) + ((x14 - x8) * (((x0 - x6) * (x10 - x7)) - ((x1 - x7) * (x9 - x6)))))) ((((x12 - x6) * (((x1 - x7) * (x11 - x8)) - ((x2 - x8) * (x10 - x7)))) + ((x13 - x7) * (((x2 - x8) * (x9 - x6)) - ((x0 - x6) * (x11 - x8))))) + ((x14 - x8) * (((x0 - x6) * (x10 - x7)) - ((x1 - x7) * (x9 - x6))))) := Num.of (Sm.add (Sm.add (Sm.mul m220.sm m238.sm) (Sm.mul m221.sm m239.sm)) (Sm.mul m222.sm m240.sm))
  refine call_step (n_rat_Product_2 (k0 := ((Z1 / ((((x9 - x6) * ((x4 * (x14 - x8)) - (x5 * (x13 - x7)))) + ((x10 - x7) * ((x5 * (x12 - x6)) - (x3 * (x14 - x8))))) + ((x11 - x8) * ((x3 * (x13 - x7)) - (x4 * (x12 - x6)))))) * ((((x12 - x6) * (((x1 - x7) * (x11 - x8)) - ((x2 - x8) * (x10 - x7)))) + ((x13 - x7) * (((x2 - x8) * (x9 - x6)) - ((x0 - x6) * (x11 - x8))))) + ((x14 - x8) * (((x0 - x6) * (x10 - x7)) - ((x1 - x7) * (x9 - x6))))))) (m235.mono (by decide)) (m244.mono (by decide)) rfl) rfl ?_
  simp only [fa_agg, fa_one, fa_nil, List.cons_append, List.nil_append, List.append_nil]
  have m245 : Num 4590000032 (cr ((Z1 / ((((x9 - x6) * ((x4 * (x14 - x8)) - (x5 * (x13 - x7)))) + ((x10 - x7) * ((x5 * (x12 - x6)) - (x3 * (x14 - x8))))) + ((x11 - x8) * ((x3 * (x13 - x7)) - (x4 * (x12 - x6)))))) * (((x3 * (((x1 - x7) * (x11 - x8)) - ((x2 - x8) * (x10 - x7)))) + (x4 * (((x2 - x8) * (x9 - x6)) - ((x0 - x6) * (x11 - x8))))) + (x5 * (((x0 - x6) * (x10 - x7)) - ((x1 - x7) * (x9 - x6))))))) ((Z1 / ((((x9 - x6) * ((x4 * (x14 - x8)) - (x5 * (x13 - x7)))) + ((x10 - x7) * ((x5 * (x12 - x6)) - (x3 * (x14 - x8))))) + ((x11 - x8) * ((x3 * (x13 - x7)) - (x4 * (x12 - x6)))))) * (((x3 * (((x1 - x7) * (x11 - x8)) - ((x2 - x8) * (x10 - x7)))) + (x4 * (((x2 - x8) * (x9 - x6)) - ((x0 - x6) * (x11 - x8))))) + (x5 * (((x0 - x6) * (x10 - x7)) - ((x1 - x7) * (x9 - x6)))))) := Num.of (Sm.mul m235.sm m242.sm)
  refine call_step (n_rat_Sign (m245.mono (by decide))) rfl ?_
  simp only [fa_agg, fa_one, fa_nil, List.cons_append, List.nil_append, List.append_nil]
  refine primS (.bool true) (cs_lss_t ((sg_lt Y0).2 c2)) ?_
  refine itT rfl ?_
  exact ret_step rfl

theorem n_tri_Hit_2w {Z0 Z1 : Rat} (Y0 : Z0 = (0 : Rat)) (Y1 : Z1 = (1 : Rat)) {r0 r1 r2 r3 r4 r5 r6 r7 r8 r9 r10 r11 r12 r13 r14 : RR} {x0 x1 x2 x3 x4 x5 x6 x7 x8 x9 x10 x11 x12 x13 x14 : Rat} {k0 k1 k2 k3 : Rat} {L0 L1 L2 L3 L4 L5 L6 L7 L8 L9 L10 L11 L12 L13 L14 : Nat} (h0 : Num L0 r0 x0) (h1 : Num L1 r1 x1) (h2 : Num L2 r2 x2) (h3 : Num L3 r3 x3) (h4 : Num L4 r4 x4) (h5 : Num L5 r5 x5) (h6 : Num L6 r6 x6) (h7 : Num L7 r7 x7) (h8 : Num L8 r8 x8) (h9 : Num L9 r9 x9) (h10 : Num L10 r10 x10) (h11 : Num L11 r11 x11) (h12 : Num L12 r12 x12) (h13 : Num L13 r13 x13) (h14 : Num L14 r14 x14) (hl : L0 ≤ 90000000 ∧ L1 ≤ 90000000 ∧ L2 ≤ 90000000 ∧ L3 ≤ 90000000 ∧ L4 ≤ 90000000 ∧ L5 ≤ 90000000 ∧ L6 ≤ 90000000 ∧ L7 ≤ 90000000 ∧ L8 ≤ 90000000 ∧ L9 ≤ 90000000 ∧ L10 ≤ 90000000 ∧ L11 ≤ 90000000 ∧ L12 ≤ 90000000 ∧ L13 ≤ 90000000 ∧ L14 ≤ 90000000) (e0 : k0 = ((((x9 - x6) * ((x4 * (x14 - x8)) - (x5 * (x13 - x7)))) + ((x10 - x7) * ((x5 * (x12 - x6)) - (x3 * (x14 - x8))))) + ((x11 - x8) * ((x3 * (x13 - x7)) - (x4 * (x12 - x6)))))) (e1 : k1 = (Z1 / k0)) (e2 : k2 = (k1 * ((((x0 - x6) * ((x4 * (x14 - x8)) - (x5 * (x13 - x7)))) + ((x1 - x7) * ((x5 * (x12 - x6)) - (x3 * (x14 - x8))))) + ((x2 - x8) * ((x3 * (x13 - x7)) - (x4 * (x12 - x6))))))) (e3 : k3 = (k1 * (((x3 * (((x1 - x7) * (x11 - x8)) - ((x2 - x8) * (x10 - x7)))) + (x4 * (((x2 - x8) * (x9 - x6)) - ((x0 - x6) * (x11 - x8))))) + (x5 * (((x0 - x6) * (x10 - x7)) - ((x1 - x7) * (x9 - x6))))))) (c0 : ¬k0 = Z0) (c1 : ¬k2 < Z0) (c2 : k3 < Z0) : PureCalls prog F.tri_Hit [.agg ([.bool r0.neg, nl r0.num, nl r0.den, .bool r1.neg, nl r1.num, nl r1.den, .bool r2.neg, nl r2.num, nl r2.den]), .agg ([.bool r3.neg, nl r3.num, nl r3.den, .bool r4.neg, nl r4.num, nl r4.den, .bool r5.neg, nl r5.num, nl r5.den]), .agg ([.bool r6.neg, nl r6.num, nl r6.den, .bool r7.neg, nl r7.num, nl r7.den, .bool r8.neg, nl r8.num, nl r8.den, .bool r9.neg, nl r9.num, nl r9.den, .bool r10.neg, nl r10.num, nl r10.den, .bool r11.neg, nl r11.num, nl r11.den, .bool r12.neg, nl r12.num, nl r12.den, .bool r13.neg, nl r13.num, nl r13.den, .bool r14.neg, nl r14.num, nl r14.den])] [.agg ([.bool (decide ((Z0).num < 0)), nn (Z0).num.natAbs, nn (Z0).den, .bool (decide ((Z0).num < 0)), nn (Z0).num.natAbs, nn (Z0).den, .bool (decide ((Z0).num < 0)), nn (Z0).num.natAbs, nn (Z0).den]), .one (.bool false)] := n_tri_Hit_2 Y0 Y1 (h0.mono hl.1) (h1.mono hl.2.1) (h2.mono hl.2.2.1) (h3.mono hl.2.2.2.1) (h4.mono hl.2.2.2.2.1) (h5.mono hl.2.2.2.2.2.1) (h6.mono hl.2.2.2.2.2.2.1) (h7.mono hl.2.2.2.2.2.2.2.1) (h8.mono hl.2.2.2.2.2.2.2.2.1) (h9.mono hl.2.2.2.2.2.2.2.2.2.1) (h10.mono hl.2.2.2.2.2.2.2.2.2.2.1) (h11.mono hl.2.2.2.2.2.2.2.2.2.2.2.1) (h12.mono hl.2.2.2.2.2.2.2.2.2.2.2.2.1) (h13.mono hl.2.2.2.2.2.2.2.2.2.2.2.2.2.1) (h14.mono hl.2.2.2.2.2.2.2.2.2.2.2.2.2.2) e0 e1 e2 e3 c0 c1 c2

theorem n_tri_Hit_3 {Z0 Z1 : Rat} (Y0 : Z0 = (0 : Rat)) (Y1 : Z1 = (1 : Rat)) {r0 r1 r2 r3 r4 r5 r6 r7 r8 r9 r10 r11 r12 r13 r14 : RR} {x0 x1 x2 x3 x4 x5 x6 x7 x8 x9 x10 x11 x12 x13 x14 : Rat} {k0 k1 k2 k3 k4 k5 : Rat} (h0 : Num 90000000 r0 x0) (h1 : Num 90000000 r1 x1) (h2 : Num 90000000 r2 x2) (h3 : Num 90000000 r3 x3) (h4 : Num 90000000 r4 x4) (h5 : Num 90000000 r5 x5) (h6 : Num 90000000 r6 x6) (h7 : Num 90000000 r7 x7) (h8 : Num 90000000 r8 x8) (h9 : Num 90000000 r9 x9) (h10 : Num 90000000 r10 x10) (h11 : Num 90000000 r11 x11) (h12 : Num 90000000 r12 x12) (h13 : Num 90000000 r13 x13) (h14 : Num 90000000 r14 x14) (e0 : k0 = ((((x9 - x6) * ((x4 * (x14 - x8)) - (x5 * (x13 - x7)))) + ((x10 - x7) * ((x5 * (x12 - x6)) - (x3 * (x14 - x8))))) + ((x11 - x8) * ((x3 * (x13 - x7)) - (x4 * (x12 - x6)))))) (e1 : k1 = (Z1 / k0)) (e2 : k2 = (k1 * ((((x0 - x6) * ((x4 * (x14 - x8)) - (x5 * (x13 - x7)))) + ((x1 - x7) * ((x5 * (x12 - x6)) - (x3 * (x14 - x8))))) + ((x2 - x8) * ((x3 * (x13 - x7)) - (x4 * (x12 - x6))))))) (e3 : k3 = (k1 * (((x3 * (((x1 - x7) * (x11 - x8)) - ((x2 - x8) * (x10 - x7)))) + (x4 * (((x2 - x8) * (x9 - x6)) - ((x0 - x6) * (x11 - x8))))) + (x5 * (((x0 - x6) * (x10 - x7)) - ((x1 - x7) * (x9 - x6))))))) (e4 : k4 = (k1 * ((((x12 - x6) * (((x1 - x7) * (x11 - x8)) - ((x2 - x8) * (x10 - x7)))) + ((x13 - x7) * (((x2 - x8) * (x9 - x6)) - ((x0 - x6) * (x11 - x8))))) + ((x14 - x8) * (((x0 - x6) * (x10 - x7)) - ((x1 - x7) * (x9 - x6))))))) (e5 : k5 = (k2 + k3)) (c0 : ¬k0 = Z0) (c1 : ¬k2 < Z0) (c2 : ¬k3 < Z0) (c3 : Z0 < k4) (c4 : Z1 < k5) : PureCalls prog F.tri_Hit [.agg ([.bool r0.neg, nl r0.num, nl r0.den, .bool r1.neg, nl r1.num, nl r1.den, .bool r2.neg, nl r2.num, nl r2.den]), .agg ([.bool r3.neg, nl r3.num, nl r3.den, .bool r4.neg, nl r4.num, nl r4.den, .bool r5.neg, nl r5.num, nl r5.den]), .agg ([.bool r6.neg, nl r6.num, nl r6.den, .bool r7.neg, nl r7.num, nl r7.den, .bool r8.neg, nl r8.num, nl r8.den, .bool r9.neg, nl r9.num, nl r9.den, .bool r10.neg, nl r10.num, nl r10.den, .bool r11.neg, nl r11.num, nl r11.den, .bool r12.neg, nl r12.num, nl r12.den, .bool r13.neg, nl r13.num, nl r13.den, .bool r14.neg, nl r14.num, nl r14.den])] [.agg ([.bool (decide ((Z0).num < 0)), nn (Z0).num.natAbs, nn (Z0).den, .bool (decide ((Z0).num < 0)), nn (Z0).num.natAbs, nn (Z0).den, .bool (decide ((Z0).num < 0)), nn (Z0).num.natAbs, nn (Z0).den]), .one (.bool false)] := by
  subst e0 e1 e2 e3 e4 e5
  refine symFunc_sound hmix tree_tri_Hit (by kernel_rfl) rfl ?_
  unfold ir_tri_Hit
  simp only [fa_agg, fa_one, fa_nil, List.cons_append, List.nil_append, List.append_nil]
  refine call_step (n_rat_Of (0) (1) (by decide) (by decide) (by decide) (by decide) (Y0.trans (by decide +kernel))) rfl ?_
  simp only [fa_agg, fa_one, fa_nil, List.cons_append, List.nil_append, List.append_nil]
  refine call_step (n_tri_sides_0w (k0 := (x9 - x6)) (k1 := (x10 - x7)) (k2 := (x11 - x8)) (k3 := (x12 - x6)) (k4 := (x13 - x7)) (k5 := (x14 - x8)) h6 h7 h8 h9 h10 h11 h12 h13 h14 (by decide) rfl rfl rfl rfl rfl rfl) rfl ?_
  simp only [fa_agg, fa_one, fa_nil, List.cons_append, List.nil_append, List.append_nil]
  have m246 : Num 180000001 (cr (x12 - x6)) (x12 - x6) := Num.of (Sm.sub h12.sm h6.sm)
  have m247 : Num 180000001 (cr (x13 - x7)) (x13 - x7) := Num.of (Sm.sub h13.sm h7.sm)
  have m248 : Num 180000001 (cr (x14 - x8)) (x14 - x8) := Num.of (Sm.sub h14.sm h8.sm)
  refine call_step (n_vec_Cross_0w (k0 := ((x4 * (x14 - x8)) - (x5 * (x13 - x7)))) (k1 := ((x5 * (x12 - x6)) - (x3 * (x14 - x8)))) (k2 := ((x3 * (x13 - x7)) - (x4 * (x12 - x6)))) h3 h4 h5 m246 m247 m248 (by decide) rfl rfl rfl) rfl ?_
  simp only [fa_agg, fa_one, fa_nil, List.cons_append, List.nil_append, List.append_nil]
  have m249 : Num 180000001 (cr (x9 - x6)) (x9 - x6) := Num.of (Sm.sub h9.sm h6.sm)
  have m250 : Num 180000001 (cr (x10 - x7)) (x10 - x7) := Num.of (Sm.sub h10.sm h7.sm)
  have m251 : Num 180000001 (cr (x11 - x8)) (x11 - x8) := Num.of (Sm.sub h11.sm h8.sm)
  have m252 : Num 540000003 (cr ((x4 * (x14 - x8)) - (x5 * (x13 - x7)))) ((x4 * (x14 - x8)) - (x5 * (x13 - x7))) := Num.of (Sm.sub (Sm.mul h4.sm m248.sm) (Sm.mul h5.sm m247.sm))
  have m253 : Num 540000003 (cr ((x5 * (x12 - x6)) - (x3 * (x14 - x8)))) ((x5 * (x12 - x6)) - (x3 * (x14 - x8))) := Num.of (Sm.sub (Sm.mul h5.sm m246.sm) (Sm.mul h3.sm m248.sm))
  have m254 : Num 540000003 (cr ((x3 * (x13 - x7)) - (x4 * (x12 - x6)))) ((x3 * (x13 - x7)) - (x4 * (x12 - x6))) := Num.of (Sm.sub (Sm.mul h3.sm m247.sm) (Sm.mul h4.sm m246.sm))
  refine call_step (n_vec_Dot_0w (k0 := ((((x9 - x6) * ((x4 * (x14 - x8)) - (x5 * (x13 - x7)))) + ((x10 - x7) * ((x5 * (x12 - x6)) - (x3 * (x14 - x8))))) + ((x11 - x8) * ((x3 * (x13 - x7)) - (x4 * (x12 - x6)))))) m249 m250 m251 m252 m253 m254 (by decide) rfl) rfl ?_
  simp only [fa_agg, fa_one, fa_nil, List.cons_append, List.nil_append, List.append_nil]
  refine call_step (n_rat_Of (1) (1) (by decide) (by decide) (by decide) (by decide) (Y1.trans (by decide +kernel))) rfl ?_
  simp only [fa_agg, fa_one, fa_nil, List.cons_append, List.nil_append, List.append_nil]
  have m255 : Num 1 (cr Z1) Z1 := Num.c Y1 (by decide +kernel) (by decide +kernel)
  have m256 : Num 2160000014 (cr ((((x9 - x6) * ((x4 * (x14 - x8)) - (x5 * (x13 - x7)))) + ((x10 - x7) * ((x5 * (x12 - x6)) - (x3 * (x14 - x8))))) + ((x11 - x8) * ((x3 * (x13 - x7)) - (x4 * (x12 - x6)))))) ((((x9 - x6) * ((x4 * (x14 - x8)) - (x5 * (x13 - x7)))) + ((x10 - x7) * ((x5 * (x12 - x6)) - (x3 * (x14 - x8))))) + ((x11 - x8) * ((x3 * (x13 - x7)) - (x4 * (x12 - x6))))) := Num.of (Sm.add (Sm.add (Sm.mul m249.sm m252.sm) (Sm.mul m250.sm m253.sm)) (Sm.mul m251.sm m254.sm))
  refine call_step (n_rat_Div_f (k0 := (Z1 / ((((x9 - x6) * ((x4 * (x14 - x8)) - (x5 * (x13 - x7)))) + ((x10 - x7) * ((x5 * (x12 - x6)) - (x3 * (x14 - x8))))) + ((x11 - x8) * ((x3 * (x13 - x7)) - (x4 * (x12 - x6))))))) Y0 (m255.mono (by decide)) (m256.mono (by decide)) rfl c0) rfl ?_
  simp only [fa_agg, fa_one, fa_nil, List.cons_append, List.nil_append, List.append_nil]
  refine primS (.bool false) rfl ?_
  refine itF rfl ?_
  refine call_step (n_vec_Sub_0w (k0 := (x0 - x6)) (k1 := (x1 - x7)) (k2 := (x2 - x8)) h0 h1 h2 h6 h7 h8 (by decide) rfl rfl rfl) rfl ?_
  simp only [fa_agg, fa_one, fa_nil, List.cons_append, List.nil_append, List.append_nil]
  have m257 : Num 180000001 (cr (x0 - x6)) (x0 - x6) := Num.of (Sm.sub h0.sm h6.sm)
  have m258 : Num 180000001 (cr (x1 - x7)) (x1 - x7) := Num.of (Sm.sub h1.sm h7.sm)
  have m259 : Num 180000001 (cr (x2 - x8)) (x2 - x8) := Num.of (Sm.sub h2.sm h8.sm)
  refine call_step (n_vec_Dot_0w (k0 := ((((x0 - x6) * ((x4 * (x14 - x8)) - (x5 * (x13 - x7)))) + ((x1 - x7) * ((x5 * (x12 - x6)) - (x3 * (x14 - x8))))) + ((x2 - x8) * ((x3 * (x13 - x7)) - (x4 * (x12 - x6)))))) m257 m258 m259 m252 m253 m254 (by decide) rfl) rfl ?_
  simp only [fa_agg, fa_one, fa_nil, List.cons_append, List.nil_append, List.append_nil]
  refine primS (rl [(cr (Z1 / ((((x9 - x6) * ((x4 * (x14 - x8)) - (x5 * (x13 - x7)))) + ((x10 - x7) * ((x5 * (x12 - x6)) - (x3 * (x14 - x8))))) + ((x11 - x8) * ((x3 * (x13 - x7)) - (x4 * (x12 - x6))))))), (cr ((((x0 - x6) * ((x4 * (x14 - x8)) - (x5 * (x13 - x7)))) + ((x1 - x7) * ((x5 * (x12 - x6)) - (x3 * (x14 - x8))))) + ((x2 - x8) * ((x3 * (x13 - x7)) - (x4 * (x12 - x6))))))]) rfl ?_
  have m261 : Num 2160000015 (cr (Z1 / ((((x9 - x6) * ((x4 * (x14 - x8)) - (x5 * (x13 - x7)))) + ((x10 - x7) * ((x5 * (x12 - x6)) - (x3 * (x14 - x8))))) + ((x11 - x8) * ((x3 * (x13 - x7)) - (x4 * (x12 - x6))))))) (Z1 / ((((x9 - x6) * ((x4 * (x14 - x8)) - (x5 * (x13 - x7)))) + ((x10 - x7) * ((x5 * (x12 - x6)) - (x3 * (x14 - x8))))) + ((x11 - x8) * ((x3 * (x13 - x7)) - (x4 * (x12 - x6)))))) := Num.of (Sm.div m255.sm m256.sm)
  have m262 : Num 2160000014 (cr ((((x0 - x6) * ((x4 * (x14 - x8)) - (x5 * (x13 - x7)))) + ((x1 - x7) * ((x5 * (x12 - x6)) - (x3 * (x14 - x8))))) + ((x2 - x8) * ((x3 * (x13 - x7)) - (x4 * (x12 - x6)))))) ((((x0 - x6) * ((x4 * (x14 - x8)) - (x5 * (x13 - x7)))) + ((x1 - x7) * ((x5 * (x12 - x6)) - (x3 * (x14 - x8))))) + ((x2 - x8) * ((x3 * (x13 - x7)) - (x4 * (x12 - x6))))) := Num.of (Sm.add (Sm.add (Sm.mul m257.sm m252.sm) (Sm.mul m258.sm m253.sm)) (Sm.mul m259.sm m254.sm))
  refine call_step (n_rat_Product_2 (k0 := ((Z1 / ((((x9 - x6) * ((x4 * (x14 - x8)) - (x5 * (x13 - x7)))) + ((x10 - x7) * ((x5 * (x12 - x6)) - (x3 * (x14 - x8))))) + ((x11 - x8) * ((x3 * (x13 - x7)) - (x4 * (x12 - x6)))))) * ((((x0 - x6) * ((x4 * (x14 - x8)) - (x5 * (x13 - x7)))) + ((x1 - x7) * ((x5 * (x12 - x6)) - (x3 * (x14 - x8))))) + ((x2 - x8) * ((x3 * (x13 - x7)) - (x4 * (x12 - x6))))))) (m261.mono (by decide)) (m262.mono (by decide)) rfl) rfl ?_
  simp only [fa_agg, fa_one, fa_nil, List.cons_append, List.nil_append, List.append_nil]
  have m263 : Num 4320000029 (cr ((Z1 / ((((x9 - x6) * ((x4 * (x14 - x8)) - (x5 * (x13 - x7)))) + ((x10 - x7) * ((x5 * (x12 - x6)) - (x3 * (x14 - x8))))) + ((x11 - x8) * ((x3 * (x13 - x7)) - (x4 * (x12 - x6)))))) * ((((x0 - x6) * ((x4 * (x14 - x8)) - (x5 * (x13 - x7)))) + ((x1 - x7) * ((x5 * (x12 - x6)) - (x3 * (x14 - x8))))) + ((x2 - x8) * ((x3 * (x13 - x7)) - (x4 * (x12 - x6))))))) ((Z1 / ((((x9 - x6) * ((x4 * (x14 - x8)) - (x5 * (x13 - x7)))) + ((x10 - x7) * ((x5 * (x12 - x6)) - (x3 * (x14 - x8))))) + ((x11 - x8) * ((x3 * (x13 - x7)) - (x4 * (x12 - x6)))))) * ((((x0 - x6) * ((x4 * (x14 - x8)) - (x5 * (x13 - x7)))) + ((x1 - x7) * ((x5 * (x12 - x6)) - (x3 * (x14 - x8))))) + ((x2 - x8) * ((x3 * (x13 - x7)) - (x4 * (x12 - x6)))))) := Num.of (Sm.mul m261.sm m262.sm)
  refine call_step (n_rat_Sign (m263.mono (by decide))) rfl ?_
  simp only [fa_agg, fa_one, fa_nil, List.cons_append, List.nil_append, List.append_nil]
  refine primS (.bool false) (cs_lss_f (fun z => c1 ((sg_lt Y0).1 z))) ?_
  refine itF rfl ?_
  refine call_step (n_vec_Cross_0w (k0 := (((x1 - x7) * (x11 - x8)) - ((x2 - x8) * (x10 - x7)))) (k1 := (((x2 - x8) * (x9 - x6)) - ((x0 - x6) * (x11 - x8)))) (k2 := (((x0 - x6) * (x10 - x7)) - ((x1 - x7) * (x9 - x6)))) m257 m258 m259 m249 m250 m251 (by decide) rfl rfl rfl) rfl ?_
  simp only [fa_agg, fa_one, fa_nil, List.cons_append, List.nil_append, List.append_nil]
  have m264 : Num 720000005 (cr (((x1 - x7) * (x11 - x8)) - ((x2 - x8) * (x10 - x7)))) (((x1 - x7) * (x11 - x8)) - ((x2 - x8) * (x10 - x7))) := Num.of (Sm.sub (Sm.mul m258.sm m251.sm) (Sm.mul m259.sm m250.sm))
  have m265 : Num 720000005 (cr (((x2 - x8) * (x9 - x6)) - ((x0 - x6) * (x11 - x8)))) (((x2 - x8) * (x9 - x6)) - ((x0 - x6) * (x11 - x8))) := Num.of (Sm.sub (Sm.mul m259.sm m249.sm) (Sm.mul m257.sm m251.sm))
  have m266 : Num 720000005 (cr (((x0 - x6) * (x10 - x7)) - ((x1 - x7) * (x9 - x6)))) (((x0 - x6) * (x10 - x7)) - ((x1 - x7) * (x9 - x6))) := Num.of (Sm.sub (Sm.mul m257.sm m250.sm) (Sm.mul m258.sm m249.sm))
  refine call_step (n_vec_Dot_0w (k0 := (((x3 * (((x1 - x7) * (x11 - x8)) - ((x2 - x8) * (x10 - x7)))) + (x4 * (((x2 - x8) * (x9 - x6)) - ((x0 - x6) * (x11 - x8))))) + (x5 * (((x0 - x6) * (x10 - x7)) - ((x1 - x7) * (x9 - x6)))))) h3 h4 h5 m264 m265 m266 (by decide) rfl) rfl ?_
  simp only [fa_agg, fa_one, fa_nil, List.cons_append, List.nil_append, List.append_nil]
  refine primS (rl [(cr (Z1 / ((((x9 - x6) * ((x4 * (x14 - x8)) - (x5 * (x13 - x7)))) + ((x10 - x7) * ((x5 * (x12 - x6)) - (x3 * (x14 - x8))))) + ((x11 - x8) * ((x3 * (x13 - x7)) - (x4 * (x12 - x6))))))), (cr (((x3 * (((x1 - x7) * (x11 - x8)) - ((x2 - x8) * (x10 - x7)))) + (x4 * (((x2 - x8) * (x9 - x6)) - ((x0 - x6) * (x11 - x8))))) + (x5 * (((x0 - x6) * (x10 - x7)) - ((x1 - x7) * (x9 - x6))))))]) rfl ?_
  have m268 : Num 2430000017 (cr (((x3 * (((x1 - x7) * (x11 - x8)) - ((x2 - x8) * (x10 - x7)))) + (x4 * (((x2 - x8) * (x9 - x6)) - ((x0 - x6) * (x11 - x8))))) + (x5 * (((x0 - x6) * (x10 - x7)) - ((x1 - x7) * (x9 - x6)))))) (((x3 * (((x1 - x7) * (x11 - x8)) - ((x2 - x8) * (x10 - x7)))) + (x4 * (((x2 - x8) * (x9 - x6)) - ((x0 - x6) * (x11 - x8))))) + (x5 * (((x0 - x6) * (x10 - x7)) - ((x1 - x7) * (x9 - x6))))) := Num.of (Sm.add (Sm.add (Sm.mul h3.sm m264.sm) (Sm.mul h4.sm m265.sm)) (Sm.mul h5.sm m266.sm))
  refine call_step (n_rat_Product_2 (k0 := ((Z1 / ((((x9 - x6) * ((x4 * (x14 - x8)) - (x5 * (x13 - x7)))) + ((x10 - x7) * ((x5 * (x12 - x6)) - (x3 * (x14 - x8))))) + ((x11 - x8) * ((x3 * (x13 - x7)) - (x4 * (x12 - x6)))))) * (((x3 * (((x1 - x7) * (x11 - x8)) - ((x2 - x8) * (x10 - x7)))) + (x4 * (((x2 - x8) * (x9 - x6)) - ((x0 - x6) * (x11 - x8))))) + (x5 * (((x0 - x6) * (x10 - x7)) - ((x1 - x7) * (x9 - x6))))))) (m261.mono (by decide)) (m268.mono (by decide)) rfl) rfl ?_
  simp only [fa_agg, fa_one, fa_nil, List.cons_append, List.nil_append, List.append_nil]
  refine call_step (n_vec_Dot_0w (k0 := ((((x12 - x6) * (((x1 - x7) * (x11 - x8)) - ((x2 - x8) * (x10 - x7)))) + ((x13 - x7) * (((x2 - x8) * (x9 - x6)) - ((x0 - x6) * (x11 - x8))))) + ((x14 - x8) * (((x0 - x6) * (x10 - x7)) - ((x1 - x7) * (x9 - x6)))))) m246 m247 m248 m264 m265 m266 (by decide) rfl) rfl ?_
  simp only [fa_agg, fa_one, fa_nil, List.cons_append, List.nil_append, List.append_nil]
  refine primS (rl [(cr (Z1 / ((((x9 - x6) * ((x4 * (x14 - x8)) - (x5 * (x13 - x7)))) + ((x10 - x7) * ((x5 * (x12 - x6)) - (x3 * (x14 - x8))))) + ((x11 - x8) * ((x3 * (x13 - x7)) - (x4 * (x12 - x6))))))), (cr ((((x12 - x6) * (((x1 - x7) * (x11 - x8)) - ((x2 - x8) * (x10 - x7)))) + ((x13 - x7) * (((x2 - x8) * (x9 - x6)) - ((x0 - x6) * (x11 - x8))))) + ((x14 - x8) * (((x0 - x6) * (x10 - x7)) - ((x1 - x7) * (x9 - x6))))))]) rfl ?_
  have m270 : Num 2700000020 (cr ((((x12 - x6) * (((x1 - x7) * (x11 - x8)) - ((x2 - x8) * (x10 - x7)))) + ((x13 - x7) * (((x2 - x8) * (x9 - x6)) - ((x0 - x6) * (x11 - x8))))) + ((x14 - x8) * (((x0 - x6) * (x10 - x7)) - ((x1 - x7) * (x9 - x6)))))) ((((x12 - x6) * (((x1 - x7) * (x11 - x8)) - ((x2 - x8) * (x10 - x7)))) + ((x13 - x7) * (((x2 - x8) * (x9 - x6)) - ((x0 - x6) * (x11 - x8))))) + ((x14 - x8) * (((x0 - x6) * (x10 - x7)) - ((x1 - x7) * (x9 - x6))))) := Num.of (Sm.add (Sm.add (Sm.mul m246.sm m264.sm) (Sm.mul m247.sm m265.sm)) (Sm.mul m248.sm m266.sm))
  refine call_step (n_rat_Product_2 (k0 := ((Z1 / ((((x9 - x6) * ((x4 * (x14 - x8)) - (x5 * (x13 - x7)))) + ((x10 - x7) * ((x5 * (x12 - x6)) - (x3 * (x14 - x8))))) + ((x11 - x8) * ((x3 * (x13 - x7)) - (x4 * (x12 - x6)))))) * ((((x12 - x6) * (((x1 - x7) * (x11 - x8)) - ((x2 - x8) * (x10 - x7)))) + ((x13 - x7) * (((x2 - x8) * (x9 - x6)) - ((x0 - x6) * (x11 - x8))))) + ((x14 - x8) * (((x0 - x6) * (x10 - x7)) - ((x1 - x7) * (x9 - x6))))))) (m261.mono (by decide)) (m270.mono (by decide)) rfl) rfl ?_
  simp only [fa_agg, fa_one, fa_nil, List.cons_append, List.nil_append, List.append_nil]
  have m271 : Num 4590000032 (cr ((Z1 / ((((x9 - x6) * ((x4 * (x14 - x8)) - (x5 * (x13 - x7)))) + ((x10 - x7) * ((x5 * (x12 - x6)) - (x3 * (x14 - x8))))) + ((x11 - x8) * ((x3 * (x13 - x7)) - (x4 * (x12 - x6)))))) * (((x3 * (((x1 - x7) * (x11 - x8)) - ((x2 - x8) * (x10 - x7)))) + (x4 * (((x2 - x8) * (x9 - x6)) - ((x0 - x6) * (x11 - x8))))) + (x5 * (((x0 - x6) * (x10 - x7)) - ((x1 - x7) * (x9 - x6))))))) ((Z1 / ((((x9 - x6) * ((x4 * (x14 - x8)) - (x5 * (x13 - x7)))) + ((x10 - x7) * ((x5 * (x12 - x6)) - (x3 * (x14 - x8))))) + ((x11 - x8) * ((x3 * (x13 - x7)) - (x4 * (x12 - x6)))))) * (((x3 * (((x1 - x7) * (x11 - x8)) - ((x2 - x8) * (x10 - x7)))) + (x4 * (((x2 - x8) * (x9 - x6)) - ((x0 - x6) * (x11 - x8))))) + (x5 * (((x0 - x6) * (x10 - x7)) - ((x1 - x7) * (x9 - x6)))))) := Num.of (Sm.mul m261.sm m268.sm)
  refine call_step (n_rat_Sign (m271.mono (by decide))) rfl ?_
  simp only [fa_agg, fa_one, fa_nil, List.cons_append, List.nil_append, List.append_nil]
  refine primS (.bool false) (cs_lss_f (fun z => c2 ((sg_lt Y0).1 z))) ?_
  refine itF rfl ?_
  have m272 : Num 4860000035 (cr ((Z1 / ((((x9 - x6) * ((x4 * (x14 - x8)) - (x5 * (x13 - x7)))) + ((x10 - x7) * ((x5 * (x12 - x6)) - (x3 * (x14 - x8))))) + ((x11 - x8) * ((x3 * (x13 - x7)) - (x4 * (x12 - x6)))))) * ((((x12 - x6) * (((x1 - x7) * (x11 - x8)) - ((x2 - x8) * (x10 - x7)))) + ((x13 - x7) * (((x2 - x8) * (x9 - x6)) - ((x0 - x6) * (x11 - x8))))) + ((x14 - x8) * (((x0 - x6) * (x10 - x7)) - ((x1 - x7) * (x9 - x6))))))) ((Z1 / ((((x9 - x6) * ((x4 * (x14 - x8)) - (x5 * (x13 - x7)))) + ((x10 - x7) * ((x5 * (x12 - x6)) - (x3 * (x14 - x8))))) + ((x11 - x8) * ((x3 * (x13 - x7)) - (x4 * (x12 - x6)))))) * ((((x12 - x6) * (((x1 - x7) * (x11 - x8)) - ((x2 - x8) * (x10 - x7)))) + ((x13 - x7) * (((x2 - x8) * (x9 - x6)) - ((x0 - x6) * (x11 - x8))))) + ((x14 - x8) * (((x0 - x6) * (x10 - x7)) - ((x1 - x7) * (x9 - x6)))))) := Num.of (Sm.mul m261.sm m270.sm)
  refine call_step (n_rat_Sign (m272.mono (by decide))) rfl ?_
  simp only [fa_agg, fa_one, fa_nil, List.cons_append, List.nil_append, List.append_nil]
  refine primS (.bool false) (cs_leq_f ((sg_gt Y0).2 c3)) ?_
  refine itF rfl ?_
  refine primS (rl [(cr ((Z1 / ((((x9 - x6) * ((x4 * (x14 - x8)) - (x5 * (x13 - x7)))) + ((x10 - x7) * ((x5 * (x12 - x6)) - (x3 * (x14 - x8))))) + ((x11 - x8) * ((x3 * (x13 - x7)) - (x4 * (x12 - x6)))))) * ((((x0 - x6) * ((x4 * (x14 - x8)) - (x5 * (x13 - x7)))) + ((x1 - x7) * ((x5 * (x12 - x6)) - (x3 * (x14 - x8))))) + ((x2 - x8) * ((x3 * (x13 - x7)) - (x4 * (x12 - x6))))))), (cr ((Z1 / ((((x9 - x6) * ((x4 * (x14 - x8)) - (x5 * (x13 - x7)))) + ((x10 - x7) * ((x5 * (x12 - x6)) - (x3 * (x14 - x8))))) + ((x11 - x8) * ((x3 * (x13 - x7)) - (x4 * (x12 - x6)))))) * (((x3 * (((x1 - x7) * (x11 - x8)) - ((x2 - x8) * (x10 - x7)))) + (x4 * (((x2 - x8) * (x9 - x6)) - ((x0 - x6) * (x11 - x8))))) + (x5 * (((x0 - x6) * (x10 - x7)) - ((x1 - x7) * (x9 - x6)))))))]) rfl ?_
  refine call_step (n_rat_Sum_2 (k0 := (((Z1 / ((((x9 - x6) * ((x4 * (x14 - x8)) - (x5 * (x13 - x7)))) + ((x10 - x7) * ((x5 * (x12 - x6)) - (x3 * (x14 - x8))))) + ((x11 - x8) * ((x3 * (x13 - x7)) - (x4 * (x12 - x6)))))) * ((((x0 - x6) * ((x4 * (x14 - x8)) - (x5 * (x13 - x7)))) + ((x1 - x7) * ((x5 * (x12 - x6)) - (x3 * (x14 - x8))))) + ((x2 - x8) * ((x3 * (x13 - x7)) - (x4 * (x12 - x6)))))) + ((Z1 / ((((x9 - x6) * ((x4 * (x14 - x8)) - (x5 * (x13 - x7)))) + ((x10 - x7) * ((x5 * (x12 - x6)) - (x3 * (x14 - x8))))) + ((x11 - x8) * ((x3 * (x13 - x7)) - (x4 * (x12 - x6)))))) * (((x3 * (((x1 - x7) * (x11 - x8)) - ((x2 - x8) * (x10 - x7)))) + (x4 * (((x2 - x8) * (x9 - x6)) - ((x0 - x6) * (x11 - x8))))) + (x5 * (((x0 - x6) * (x10 - x7)) - ((x1 - x7) * (x9 - x6)))))))) (m263.mono (by decide)) (m271.mono (by decide)) rfl) rfl ?_
  simp only [fa_agg, fa_one, fa_nil, List.cons_append, List.nil_append, List.append_nil]
  refine call_step (n_rat_Of (1) (1) (by decide) (by decide) (by decide) (by decide) (Y1.trans (by decide +kernel))) rfl ?_
  simp only [fa_agg, fa_one, fa_nil, List.cons_append, List.nil_append, List.append_nil]
  have m274 : Num 8910000062 (cr (((Z1 / ((((x9 - x6) * ((x4 * (x14 - x8)) - (x5 * (x13 - x7)))) + ((x10 - x7) * ((x5 * (x12 - x6)) - (x3 * (x14 - x8))))) + ((x11 - x8) * ((x3 * (x13 - x7)) - (x4 * (x12 - x6)))))) * ((((x0 - x6) * ((x4 * (x14 - x8)) - (x5 * (x13 - x7)))) + ((x1 - x7) * ((x5 * (x12 - x6)) - (x3 * (x14 - x8))))) + ((x2 - x8) * ((x3 * (x13 - x7)) - (x4 * (x12 - x6)))))) + ((Z1 / ((((x9 - x6) * ((x4 * (x14 - x8)) - (x5 * (x13 - x7)))) + ((x10 - x7) * ((x5 * (x12 - x6)) - (x3 * (x14 - x8))))) + ((x11 - x8) * ((x3 * (x13 - x7)) - (x4 * (x12 - x6)))))) * (((x3 * (((x1 - x7) * (x11 - x8)) - ((x2 - x8) * (x10 - x7)))) + (x4 * (((x2 - x8) * (x9 - x6)) - ((x0 - x6) * (x11 - x8))))) + (x5 * (((x0 - x6) * (x10 - x7)) - ((x1 - x7) * (x9 - x6)))))))) (((Z1 / ((((x9 - x6) * ((x4 * (x14 - x8)) - (x5 * (x13 - x7)))) + ((x10 - x7) * ((x5 * (x12 - x6)) - (x3 * (x14 - x8))))) + ((x11 - x8) * ((x3 * (x13 - x7)) - (x4 * (x12 - x6)))))) * ((((x0 - x6) * ((x4 * (x14 - x8)) - (x5 * (x13 - x7)))) + ((x1 - x7) * ((x5 * (x12 - x6)) - (x3 * (x14 - x8))))) + ((x2 - x8) * ((x3 * (x13 - x7)) - (x4 * (x12 - x6)))))) + ((Z1 / ((((x9 - x6) * ((x4 * (x14 - x8)) - (x5 * (x13 - x7)))) + ((x10 - x7) * ((x5 * (x12 - x6)) - (x3 * (x14 - x8))))) + ((x11 - x8) * ((x3 * (x13 - x7)) - (x4 * (x12 - x6)))))) * (((x3 * (((x1 - x7) * (x11 - x8)) - ((x2 - x8) * (x10 - x7)))) + (x4 * (((x2 - x8) * (x9 - x6)) - ((x0 - x6) * (x11 - x8))))) + (x5 * (((x0 - x6) * (x10 - x7)) - ((x1 - x7) * (x9 - x6))))))) := Num.of (Sm.add m263.sm m271.sm)
  refine call_step (n_rat_Cmp (m274.mono (by decide)) (m255.mono (by decide))) rfl ?_
  simp only [fa_agg, fa_one, fa_nil, List.cons_append, List.nil_append, List.append_nil]
  refine primS (.bool true) (cs_gtr_t (cq_gt.2 c4)) ?_
  refine itT rfl ?_
  exact ret_step rfl

theorem n_tri_Hit_3w {Z0 Z1 : Rat} (Y0 : Z0 = (0 : Rat)) (Y1 : Z1 = (1 : Rat)) {r0 r1 r2 r3 r4 r5 r6 r7 r8 r9 r10 r11 r12 r13 r14 : RR} {x0 x1 x2 x3 x4 x5 x6 x7 x8 x9 x10 x11 x12 x13 x14 : Rat} {k0 k1 k2 k3 k4 k5 : Rat} {L0 L1 L2 L3 L4 L5 L6 L7 L8 L9 L10 L11 L12 L13 L14 : Nat} (h0 : Num L0 r0 x0) (h1 : Num L1 r1 x1) (h2 : Num L2 r2 x2) (h3 : Num L3 r3 x3) (h4 : Num L4 r4 x4) (h5 : Num L5 r5 x5) (h6 : Num L6 r6 x6) (h7 : Num L7 r7 x7) (h8 : Num L8 r8 x8) (h9 : Num L9 r9 x9) (h10 : Num L10 r10 x10) (h11 : Num L11 r11 x11) (h12 : Num L12 r12 x12) (h13 : Num L13 r13 x13) (h14 : Num L14 r14 x14) (hl : L0 ≤ 90000000 ∧ L1 ≤ 90000000 ∧ L2 ≤ 90000000 ∧ L3 ≤ 90000000 ∧ L4 ≤ 90000000 ∧ L5 ≤ 90000000 ∧ L6 ≤ 90000000 ∧ L7 ≤ 90000000 ∧ L8 ≤ 90000000 ∧ L9 ≤ 90000000 ∧ L10 ≤ 90000000 ∧ L11 ≤ 90000000 ∧ L12 ≤ 90000000 ∧ L13 ≤ 90000000 ∧ L14 ≤ 90000000) (e0 : k0 = ((((x9 - x6) * ((x4 * (x14 - x8)) - (x5 * (x13 - x7)))) + ((x10 - x7) * ((x5 * (x12 - x6)) - (x3 * (x14 - x8))))) + ((x11 - x8) * ((x3 * (x13 - x7)) - (x4 * (x12 - x6)))))) (e1 : k1 = (Z1 / k0)) (e2 : k2 = (k1 * ((((x0 - x6) * ((x4 * (x14 - x8)) - (x5 * (x13 - x7)))) + ((x1 - x7) * ((x5 * (x12 - x6)) - (x3 * (x14 - x8))))) + ((x2 - x8) * ((x3 * (x13 - x7)) - (x4 * (x12 - x6))))))) (e3 : k3 = (k1 * (((x3 * (((x1 - x7) * (x11 - x8)) - ((x2 - x8) * (x10 - x7)))) + (x4 * (((x2 - x8) * (x9 - x6)) - ((x0 - x6) * (x11 - x8))))) + (x5 * (((x0 - x6) * (x10 - x7)) - ((x1 - x7) * (x9 - x6))))))) (e4 : k4 = (k1 * ((((x12 - x6) * (((x1 - x7) * (x11 - x8)) - ((x2 - x8) * (x10 - x7)))) + ((x13 - x7) * (((x2 - x8) * (x9 - x6)) - ((x0 - x6) * (x11 - x8))))) + ((x14 - x8) * (((x0 - x6) * (x10 - x7)) - ((x1 - x7) * (x9 - x6))))))) (e5 : k5 = (k2 + k3)) (c0 : ¬k0 = Z0) (c1 : ¬k2 < Z0) (c2 : ¬k3 < Z0) (c3 : Z0 < k4) (c4 : Z1 < k5) : PureCalls prog F.tri_Hit [.agg ([.bool r0.neg, nl r0.num, nl r0.den, .bool r1.neg, nl r1.num, nl r1.den, .bool r2.neg, nl r2.num, nl r2.den]), .agg ([.bool r3.neg, nl r3.num, nl r3.den, .bool r4.neg, nl r4.num, nl r4.den, .bool r5.neg, nl r5.num, nl r5.den]), .agg ([.bool r6.neg, nl r6.num, nl r6.den, .bool r7.neg, nl r7.num, nl r7.den, .bool r8.neg, nl r8.num, nl r8.den, .bool r9.neg, nl r9.num, nl r9.den, .bool r10.neg, nl r10.num, nl r10.den, .bool r11.neg, nl r11.num, nl r11.den, .bool r12.neg, nl r12.num, nl r12.den, .bool r13.neg, nl r13.num, nl r13.den, .bool r14.neg, nl r14.num, nl r14.den])] [.agg ([.bool (decide ((Z0).num < 0)), nn (Z0).num.natAbs, nn (Z0).den, .bool (decide ((Z0).num < 0)), nn (Z0).num.natAbs, nn (Z0).den, .bool (decide ((Z0).num < 0)), nn (Z0).num.natAbs, nn (Z0).den]), .one (.bool false)] := n_tri_Hit_3 Y0 Y1 (h0.mono hl.1) (h1.mono hl.2.1) (h2.mono hl.2.2.1) (h3.mono hl.2.2.2.1) (h4.mono hl.2.2.2.2.1) (h5.mono hl.2.2.2.2.2.1) (h6.mono hl.2.2.2.2.2.2.1) (h7.mono hl.2.2.2.2.2.2.2.1) (h8.mono hl.2.2.2.2.2.2.2.2.1) (h9.mono hl.2.2.2.2.2.2.2.2.2.1) (h10.mono hl.2.2.2.2.2.2.2.2.2.2.1) (h11.mono hl.2.2.2.2.2.2.2.2.2.2.2.1) (h12.mono hl.2.2.2.2.2.2.2.2.2.2.2.2.1) (h13.mono hl.2.2.2.2.2.2.2.2.2.2.2.2.2.1) (h14.mono hl.2.2.2.2.2.2.2.2.2.2.2.2.2.2) e0 e1 e2 e3 e4 e5 c0 c1 c2 c3 c4

theorem n_tri_Hit_4 {Z0 Z1 : Rat} (Y0 : Z0 = (0 : Rat)) (Y1 : Z1 = (1 : Rat)) {r0 r1 r2 r3 r4 r5 r6 r7 r8 r9 r10 r11 r12 r13 r14 : RR} {x0 x1 x2 x3 x4 x5 x6 x7 x8 x9 x10 x11 x12 x13 x14 : Rat} {k0 k1 k2 k3 k4 k5 : Rat} (h0 : Num 90000000 r0 x0) (h1 : Num 90000000 r1 x1) (h2 : Num 90000000 r2 x2) (h3 : Num 90000000 r3 x3) (h4 : Num 90000000 r4 x4) (h5 : Num 90000000 r5 x5) (h6 : Num 90000000 r6 x6) (h7 : Num 90000000 r7 x7) (h8 : Num 90000000 r8 x8) (h9 : Num 90000000 r9 x9) (h10 : Num 90000000 r10 x10) (h11 : Num 90000000 r11 x11) (h12 : Num 90000000 r12 x12) (h13 : Num 90000000 r13 x13) (h14 : Num 90000000 r14 x14) (e0 : k0 = ((((x9 - x6) * ((x4 * (x14 - x8)) - (x5 * (x13 - x7)))) + ((x10 - x7) * ((x5 * (x12 - x6)) - (x3 * (x14 - x8))))) + ((x11 - x8) * ((x3 * (x13 - x7)) - (x4 * (x12 - x6)))))) (e1 : k1 = (Z1 / k0)) (e2 : k2 = (k1 * ((((x0 - x6) * ((x4 * (x14 - x8)) - (x5 * (x13 - x7)))) + ((x1 - x7) * ((x5 * (x12 - x6)) - (x3 * (x14 - x8))))) + ((x2 - x8) * ((x3 * (x13 - x7)) - (x4 * (x12 - x6))))))) (e3 : k3 = (k1 * (((x3 * (((x1 - x7) * (x11 - x8)) - ((x2 - x8) * (x10 - x7)))) + (x4 * (((x2 - x8) * (x9 - x6)) - ((x0 - x6) * (x11 - x8))))) + (x5 * (((x0 - x6) * (x10 - x7)) - ((x1 - x7) * (x9 - x6))))))) (e4 : k4 = (k1 * ((((x12 - x6) * (((x1 - x7) * (x11 - x8)) - ((x2 - x8) * (x10 - x7)))) + ((x13 - x7) * (((x2 - x8) * (x9 - x6)) - ((x0 - x6) * (x11 - x8))))) + ((x14 - x8) * (((x0 - x6) * (x10 - x7)) - ((x1 - x7) * (x9 - x6))))))) (e5 : k5 = (k2 + k3)) (c0 : ¬k0 = Z0) (c1 : ¬k2 < Z0) (c2 : ¬k3 < Z0) (c3 : Z0 < k4) (c4 : ¬Z1 < k5) : PureCalls prog F.tri_Hit [.agg ([.bool r0.neg, nl r0.num, nl r0.den, .bool r1.neg, nl r1.num, nl r1.den, .bool r2.neg, nl r2.num, nl r2.den]), .agg ([.bool r3.neg, nl r3.num, nl r3.den, .bool r4.neg, nl r4.num, nl r4.den, .bool r5.neg, nl r5.num, nl r5.den]), .agg ([.bool r6.neg, nl r6.num, nl r6.den, .bool r7.neg, nl r7.num, nl r7.den, .bool r8.neg, nl r8.num, nl r8.den, .bool r9.neg, nl r9.num, nl r9.den, .bool r10.neg, nl r10.num, nl r10.den, .bool r11.neg, nl r11.num, nl r11.den, .bool r12.neg, nl r12.num, nl r12.den, .bool r13.neg, nl r13.num, nl r13.den, .bool r14.neg, nl r14.num, nl r14.den])] [.agg ([.bool (decide ((k4).num < 0)), nn (k4).num.natAbs, nn (k4).den, .bool (decide ((k2).num < 0)), nn (k2).num.natAbs, nn (k2).den, .bool (decide ((k3).num < 0)), nn (k3).num.natAbs, nn (k3).den]), .one (.bool true)] := by
  subst e0 e1 e2 e3 e4 e5
  refine symFunc_sound hmix tree_tri_Hit (by kernel_rfl) rfl ?_
  unfold ir_tri_Hit
  simp only [fa_agg, fa_one, fa_nil, List.cons_append, List.nil_append, List.append_nil]
  refine call_step (n_rat_Of (0) (1) (by decide) (by decide) (by decide) (by decide) (Y0.trans (by decide +kernel))) rfl ?_
  simp only [fa_agg, fa_one, fa_nil, List.cons_append, List.nil_append, List.append_nil]
  refine call_step (n_tri_sides_0w (k0 := (x9 - x6)) (k1 := (x10 - x7)) (k2 := (x11 - x8)) (k3 := (x12 - x6)) (k4 := (x13 - x7)) (k5 := (x14 - x8)) h6 h7 h8 h9 h10 h11 h12 h13 h14 (by decide) rfl rfl rfl rfl rfl rfl) rfl ?_
  simp only [fa_agg, fa_one, fa_nil, List.cons_append, List.nil_append, List.append_nil]
  have m275 : Num 180000001 (cr (x12 - x6)) (x12 - x6) := Num.of (Sm.sub h12.sm h6.sm)
  have m276 : Num 180000001 (cr (x13 - x7)) (x13 - x7) := Num.of (Sm.sub h13.sm h7.sm)
  have m277 : Num 180000001 (cr (x14 - x8)) (x14 - x8) := Num.of (Sm.sub h14.sm h8.sm)
  refine call_step (n_vec_Cross_0w (k0 := ((x4 * (x14 - x8)) - (x5 * (x13 - x7)))) (k1 := ((x5 * (x12 - x6)) - (x3 * (x14 - x8)))) (k2 := ((x3 * (x13 - x7)) - (x4 * (x12 - x6)))) h3 h4 h5 m275 m276 m277 (by decide) rfl rfl rfl) rfl ?_
  simp only [fa_agg, fa_one, fa_nil, List.cons_append, List.nil_append, List.append_nil]
  have m278 : Num 180000001 (cr (x9 - x6)) (x9 - x6) := Num.of (Sm.sub h9.sm h6.sm)
  have m279 : Num 180000001 (cr (x10 - x7)) (x10 - x7) := Num.of (Sm.sub h10.sm h7.sm)
  have m280 : Num 180000001 (cr (x11 - x8)) (x11 - x8) := Num.of (Sm.sub h11.sm h8.sm)
  have m281 : Num 540000003 (cr ((x4 * (x14 - x8)) - (x5 * (x13 - x7)))) ((x4 * (x14 - x8)) - (x5 * (x13 - x7))) := Num.of (Sm.sub (Sm.mul h4.sm m277.sm) (Sm.mul h5.sm m276.sm))
  have m282 : Num 540000003 (cr ((x5 * (x12 - x6)) - (x3 * (x14 - x8)))) ((x5 * (x12 - x6)) - (x3 * (x14 - x8))) := Num.of (Sm.sub (Sm.mul h5.sm m275.sm) (Sm.mul h3.sm m277.sm))
  have m283 : Num 540000003 (cr ((x3 * (x13 - x7)) - (x4 * (x12 - x6)))) ((x3 * (x13 - x7)) - (x4 * (x12 - x6))) := Num.of (Sm.sub (Sm.mul h3.sm m276.sm) (Sm.mul h4.sm m275.sm))
  refine call_step (n_vec_Dot_0w (k0 := ((((x9 - x6) * ((x4 * (x14 - x8)) - (x5 * (x13 - x7)))) + ((x10 - x7) * ((x5 * (x12 - x6)) - (x3 * (x14 - x8))))) + ((x11 - x8) * ((x3 * (x13 - x7)) - (x4 * (x12 - x6)))))) m278 m279 m280 m281 m282 m283 (by decide) rfl) rfl ?_
  simp only [fa_agg, fa_one, fa_nil, List.cons_append, List.nil_append, List.append_nil]
  refine call_step (n_rat_Of (1) (1) (by decide) (by decide) (by decide) (by decide) (Y1.trans (by decide +kernel))) rfl ?_
  simp only [fa_agg, fa_one, fa_nil, List.cons_append, List.nil_append, List.append_nil]
  have m284 : Num 1 (cr Z1) Z1 := Num.c Y1 (by decide +kernel) (by decide +kernel)
  have m285 : Num 2160000014 (cr ((((x9 - x6) * ((x4 * (x14 - x8)) - (x5 * (x13 - x7)))) + ((x10 - x7) * ((x5 * (x12 - x6)) - (x3 * (x14 - x8))))) + ((x11 - x8) * ((x3 * (x13 - x7)) - (x4 * (x12 - x6)))))) ((((x9 - x6) * ((x4 * (x14 - x8)) - (x5 * (x13 - x7)))) + ((x10 - x7) * ((x5 * (x12 - x6)) - (x3 * (x14 - x8))))) + ((x11 - x8) * ((x3 * (x13 - x7)) - (x4 * (x12 - x6))))) := Num.of (Sm.add (Sm.add (Sm.mul m278.sm m281.sm) (Sm.mul m279.sm m282.sm)) (Sm.mul m280.sm m283.sm))
  refine call_step (n_rat_Div_f (k0 := (Z1 / ((((x9 - x6) * ((x4 * (x14 - x8)) - (x5 * (x13 - x7)))) + ((x10 - x7) * ((x5 * (x12 - x6)) - (x3 * (x14 - x8))))) + ((x11 - x8) * ((x3 * (x13 - x7)) - (x4 * (x12 - x6))))))) Y0 (m284.mono (by decide)) (m285.mono (by decide)) rfl c0) rfl ?_
  simp only [fa_agg, fa_one, fa_nil, List.cons_append, List.nil_append, List.append_nil]
  refine primS (.bool false) rfl ?_
  refine itF rfl ?_
  refine call_step (n_vec_Sub_0w (k0 := (x0 - x6)) (k1 := (x1 - x7)) (k2 := (x2 - x8)) h0 h1 h2 h6 h7 h8 (by decide) rfl rfl rfl) rfl ?_
  simp only [fa_agg, fa_one, fa_nil, List.cons_append, List.nil_append, List.append_nil]
  have m286 : Num 180000001 (cr (x0 - x6)) (x0 - x6) := Num.of (Sm.sub h0.sm h6.sm)
  have m287 : Num 180000001 (cr (x1 - x7)) (x1 - x7) := Num.of (Sm.sub h1.sm h7.sm)
  have m288 : Num 180000001 (cr (x2 - x8)) (x2 - x8) := Num.of (Sm.sub h2.sm h8.sm)
  refine call_step (n_vec_Dot_0w (k0 := ((((x0 - x6) * ((x4 * (x14 - x8)) - (x5 * (x13 - x7)))) + ((x1 - x7) * ((x5 * (x12 - x6)) - (x3 * (x14 - x8))))) + ((x2 - x8) * ((x3 * (x13 - x7)) - (x4 * (x12 - x6)))))) m286 m287 m288 m281 m282 m283 (by decide) rfl) rfl ?_
  simp only [fa_agg, fa_one, fa_nil, List.cons_append, List.nil_append, List.append_nil]
  refine primS (rl [(cr (Z1 / ((((x9 - x6) * ((x4 * (x14 - x8)) - (x5 * (x13 - x7)))) + ((x10 - x7) * ((x5 * (x12 - x6)) - (x3 * (x14 - x8))))) + ((x11 - x8) * ((x3 * (x13 - x7)) - (x4 * (x12 - x6))))))), (cr ((((x0 - x6) * ((x4 * (x14 - x8)) - (x5 * (x13 - x7)))) + ((x1 - x7) * ((x5 * (x12 - x6)) - (x3 * (x14 - x8))))) + ((x2 - x8) * ((x3 * (x13 - x7)) - (x4 * (x12 - x6))))))]) rfl ?_
  have m290 : Num 2160000015 (cr (Z1 / ((((x9 - x6) * ((x4 * (x14 - x8)) - (x5 * (x13 - x7)))) + ((x10 - x7) * ((x5 * (x12 - x6)) - (x3 * (x14 - x8))))) + ((x11 - x8) * ((x3 * (x13 - x7)) - (x4 * (x12 - x6))))))) (Z1 / ((((x9 - x6) * ((x4 * (x14 - x8)) - (x5 * (x13 - x7)))) + ((x10 - x7) * ((x5 * (x12 - x6)) - (x3 * (x14 - x8))))) + ((x11 - x8) * ((x3 * (x13 - x7)) - (x4 * (x12 - x6)))))) := Num.of (Sm.div m284.sm m285.sm)
  have m291 : Num 2160000014 (cr ((((x0 - x6) * ((x4 * (x14 - x8)) - (x5 * (x13 - x7)))) + ((x1 - x7) * ((x5 * (x12 - x6)) - (x3 * (x14 - x8))))) + ((x2 - x8) * ((x3 * (x13 - x7)) - (x4 * (x12 - x6)))))) ((((x0 - x6) * ((x4 * (x14 - x8)) - (x5 * (x13 - x7)))) + ((x1 - x7) * ((x5 * (x12 - x6)) - (x3 * (x14 - x8))))) + ((x2 - x8) * ((x3 * (x13 - x7)) - (x4 * (x12 - x6))))) := Num.of (Sm.add (Sm.add (Sm.mul m286.sm m281.sm) (Sm.mul m287.sm m282.sm)) (Sm.mul m288.sm m283.sm))
  refine call_step (n_rat_Product_2 (k0 := ((Z1 / ((((x9 - x6) * ((x4 * (x14 - x8)) - (x5 * (x13 - x7)))) + ((x10 - x7) * ((x5 * (x12 - x6)) - (x3 * (x14 - x8))))) + ((x11 - x8) * ((x3 * (x13 - x7)) - (x4 * (x12 - x6)))))) * ((((x0 - x6) * ((x4 * (x14 - x8)) - (x5 * (x13 - x7)))) + ((x1 - x7) * ((x5 * (x12 - x6)) - (x3 * (x14 - x8))))) + ((x2 - x8) * ((x3 * (x13 - x7)) - (x4 * (x12 - x6))))))) (m290.mono (by decide)) (m291.mono (by decide)) rfl) rfl ?_
  simp only [fa_agg, fa_one, fa_nil, List.cons_append, List.nil_append, List.append_nil]
  have m292 : Num 4320000029 (cr ((Z1 / ((((x9 - x6) * ((x4 * (x14 - x8)) - (x5 * (x13 - x7)))) + ((x10 - x7) * ((x5 * (x12 - x6)) - (x3 * (x14 - x8))))) + ((x11 - x8) * ((x3 * (x13 - x7)) - (x4 * (x12 - x6)))))) * ((((x0 - x6) * ((x4 * (x14 - x8)) - (x5 * (x13 - x7)))) + ((x1 - x7) * ((x5 * (x12 - x6)) - (x3 * (x14 - x8))))) + ((x2 - x8) * ((x3 * (x13 - x7)) - (x4 * (x12 - x6))))))) ((Z1 / ((((x9 - x6) * ((x4 * (x14 - x8)) - (x5 * (x13 - x7)))) + ((x10 - x7) * ((x5 * (x12 - x6)) - (x3 * (x14 - x8))))) + ((x11 - x8) * ((x3 * (x13 - x7)) - (x4 * (x12 - x6)))))) * ((((x0 - x6) * ((x4 * (x14 - x8)) - (x5 * (x13 - x7)))) + ((x1 - x7) * ((x5 * (x12 - x6)) - (x3 * (x14 - x8))))) + ((x2 - x8) * ((x3 * (x13 - x7)) - (x4 * (x12 - x6)))))) := Num.of (Sm.mul m290.sm m291.sm)
  refine call_step (n_rat_Sign (m292.mono (by decide))) rfl ?_
  simp only [fa_agg, fa_one, fa_nil, List.cons_append, List.nil_append, List.append_nil]
  refine primS (.bool false) (cs_lss_f (fun z => c1 ((sg_lt Y0).1 z))) ?_
  refine itF rfl ?_
  refine call_step (n_vec_Cross_0w (k0 := (((x1 - x7) * (x11 - x8)) - ((x2 - x8) * (x10 - x7)))) (k1 := (((x2 - x8) * (x9 - x6)) - ((x0 - x6) * (x11 - x8)))) (k2 := (((x0 - x6) * (x10 - x7)) - ((x1 - x7) * (x9 - x6)))) m286 m287 m288 m278 m279 m280 (by decide) rfl rfl rfl) rfl ?_
  simp only [fa_agg, fa_one, fa_nil, List.cons_append, List.nil_append, List.append_nil]
  have m293 : Num 720000005 (cr (((x1 - x7) * (x11 - x8)) - ((x2 - x8) * (x10 - x7)))) (((x1 - x7) * (x11 - x8)) - ((x2 - x8) * (x10 - x7))) := Num.of (Sm.sub (Sm.mul m287.sm m280.sm) (Sm.mul m288.sm m279.sm))
  have m294 : Num 720000005 (cr (((x2 - x8) * (x9 - x6)) - ((x0 - x6) * (x11 - x8)))) (((x2 - x8) * (x9 - x6)) - ((x0 - x6) * (x11 - x8))) := Num.of (Sm.sub (Sm.mul m288.sm m278.sm) (Sm.mul m286.sm m280.sm))
  have m295 : Num 720000005 (cr (((x0 - x6) * (x10 - x7)) - ((x1 - x7) * (x9 - x6)))) (((x0 - x6) * (x10 - x7)) - ((x1 - x7) * (x9 - x6))) := Num.of (Sm.sub (Sm.mul m286.sm m279.sm) (Sm.mul m287.sm m278.sm))
  refine call_step (n_vec_Dot_0w (k0 := (((x3 * (((x1 - x7) * (x11 - x8)) - ((x2 - x8) * (x10 - x7)))) + (x4 * (((x2 - x8) * (x9 - x6)) - ((x0 - x6) * (x11 - x8))))) + (x5 * (((x0 - x6) * (x10 - x7)) - ((x1 - x7) * (x9 - x6)))))) h3 h4 h5 m293 m294 m295 (by decide) rfl) rfl ?_
  simp only [fa_agg, fa_one, fa_nil, List.cons_append, List.nil_append, List.append_nil]
  refine primS (rl [(cr (Z1 / ((((x9 - x6) * ((x4 * (x14 - x8)) - (x5 * (x13 - x7)))) + ((x10 - x7) * ((x5 * (x12 - x6)) - (x3 * (x14 - x8))))) + ((x11 - x8) * ((x3 * (x13 - x7)) - (x4 * (x12 - x6))))))), (cr (((x3 * (((x1 - x7) * (x11 - x8)) - ((x2 - x8) * (x10 - x7)))) + (x4 * (((x2 - x8) * (x9 - x6)) - ((x0 - x6) * (x11 - x8))))) + (x5 * (((x0 - x6) * (x10 - x7)) - ((x1 - x7) * (x9 - x6))))))]) rfl ?_
  have m297 : Num 2430000017 (cr (((x3 * (((x1 - x7) * (x11 - x8)) - ((x2 - x8) * (x10 - x7)))) + (x4 * (((x2 - x8) * (x9 - x6)) - ((x0 - x6) * (x11 - x8))))) + (x5 * (((x0 - x6) * (x10 - x7)) - ((x1 - x7) * (x9 - x6)))))) (((x3 * (((x1 - x7) * (x11 - x8)) - ((x2 - x8) * (x10 - x7)))) + (x4 * (((x2 - x8) * (x9 - x6)) - ((x0 - x6) * (x11 - x8))))) + (x5 * (((x0 - x6) * (x10 - x7)) - ((x1 - x7) * (x9 - x6))))) := Num.of (Sm.add (Sm.add (Sm.mul h3.sm m293.sm) (Sm.mul h4.sm m294.sm)) (Sm.mul h5.sm m295.sm))
  refine call_step (n_rat_Product_2 (k0 := ((Z1 / ((((x9 - x6) * ((x4 * (x14 - x8)) - (x5 * (x13 - x7)))) + ((x10 - x7) * ((x5 * (x12 - x6)) - (x3 * (x14 - x8))))) + ((x11 - x8) * ((x3 * (x13 - x7)) - (x4 * (x12 - x6)))))) * (((x3 * (((x1 - x7) * (x11 - x8)) - ((x2 - x8) * (x10 - x7)))) + (x4 * (((x2 - x8) * (x9 - x6)) - ((x0 - x6) * (x11 - x8))))) + (x5 * (((x0 - x6) * (x10 - x7)) - ((x1 - x7) * (x9 - x6))))))) (m290.mono (by decide)) (m297.mono (by decide)) rfl) rfl ?_
  simp only [fa_agg, fa_one, fa_nil, List.cons_append, List.nil_append, List.append_nil]
  refine call_step (n_vec_Dot_0w (k0 := ((((x12 - x6) * (((x1 - x7) * (x11 - x8)) - ((x2 - x8) * (x10 - x7)))) + ((x13 - x7) * (((x2 - x8) * (x9 - x6)) - ((x0 - x6) * (x11 - x8))))) + ((x14 - x8) * (((x0 - x6) * (x10 - x7)) - ((x1 - x7) * (x9 - x6)))))) m275 m276 m277 m293 m294 m295 (by decide) rfl) rfl ?_
  simp only [fa_agg, fa_one, fa_nil, List.cons_append, List.nil_append, List.append_nil]
  refine primS (rl [(cr (Z1 / ((((x9 - x6) * ((x4 * (x14 - x8)) - (x5 * (x13 - x7)))) + ((x10 - x7) * ((x5 * (x12 - x6)) - (x3 * (x14 - x8))))) + ((x11 - x8) * ((x3 * (x13 - x7)) - (x4 * (x12 - x6))))))), (cr ((((x12 - x6) * (((x1 - x7) * (x11 - x8)) - ((x2 - x8) * (x10 - x7)))) + ((x13 - x7) * (((x2 - x8) * (x9 - x6)) - ((x0 - x6) * (x11 - x8))))) + ((x14 - x8) * (((x0 - x6) * (x10 - x7)) - ((x1 - x7) * (x9 - x6))))))]) rfl ?_
  have m299 : Num 2700000020 (cr ((((x12 - x6) * (((x1 - x7) * (x11 - x8)) - ((x2 - x8) * (x10 - x7)))) + ((x13 - x7) * (((x2 - x8) * (x9 - x6)) - ((x0 - x6) * (x11 - x8))))) + ((x14 - x8) * (((x0 - x6) * (x10 - x7)) - ((x1 - x7) * (x9 - x6)))))) ((((x12 - x6) * (((x1 - x7) * (x11 - x8)) - ((x2 - x8) * (x10 - x7)))) + ((x13 - x7) * (((x2 - x8) * (x9 - x6)) - ((x0 - x6) * (x11 - x8))))) + ((x14 - x8) * (((x0 - x6) * (x10 - x7)) - ((x1 - x7) * (x9 - x6))))) := Num.of (Sm.add (Sm.add (Sm.mul m275.sm m293.sm) (Sm.mul m276.sm m294.sm)) (Sm.mul m277.sm m295.sm))
  refine call_step (n_rat_Product_2 (k0 := ((Z1 / ((((x9 - x6) * ((x4 * (x14 - x8)) - (x5 * (x13 - x7)))) + ((x10 - x7) * ((x5 * (x12 - x6)) - (x3 * (x14 - x8))))) + ((x11 - x8) * ((x3 * (x13 - x7)) - (x4 * (x12 - x6)))))) * ((((x12 - x6) * (((x1 - x7) * (x11 - x8)) - ((x2 - x8) * (x10 - x7)))) + ((x13 - x7) * (((x2 - x8) * (x9 - x6)) - ((x0 - x6) * (x11 - x8))))) + ((x14 - x8) * (((x0 - x6) * (x10 - x7)) - ((x1 - x7) * (x9 - x6))))))) (m290.mono (by decide)) (m299.mono (by decide)) rfl) rfl ?_
  simp only [fa_agg, fa_one, fa_nil, List.cons_append, List.nil_append, List.append_nil]
  have m300 : Num 4590000032 (cr ((Z1 / ((((x9 - x6) * ((x4 * (x14 - x8)) - (x5 * (x13 - x7)))) + ((x10 - x7) * ((x5 * (x12 - x6)) - (x3 * (x14 - x8))))) + ((x11 - x8) * ((x3 * (x13 - x7)) - (x4 * (x12 - x6)))))) * (((x3 * (((x1 - x7) * (x11 - x8)) - ((x2 - x8) * (x10 - x7)))) + (x4 * (((x2 - x8) * (x9 - x6)) - ((x0 - x6) * (x11 - x8))))) + (x5 * (((x0 - x6) * (x10 - x7)) - ((x1 - x7) * (x9 - x6))))))) ((Z1 / ((((x9 - x6) * ((x4 * (x14 - x8)) - (x5 * (x13 - x7)))) + ((x10 - x7) * ((x5 * (x12 - x6)) - (x3 * (x14 - x8))))) + ((x11 - x8) * ((x3 * (x13 - x7)) - (x4 * (x12 - x6)))))) * (((x3 * (((x1 - x7) * (x11 - x8)) - ((x2 - x8) * (x10 - x7)))) + (x4 * (((x2 - x8) * (x9 - x6)) - ((x0 - x6) * (x11 - x8))))) + (x5 * (((x0 - x6) * (x10 - x7)) - ((x1 - x7) * (x9 - x6)))))) := Num.of (Sm.mul m290.sm m297.sm)
  refine call_step (n_rat_Sign (m300.mono (by decide))) rfl ?_
  simp only [fa_agg, fa_one, fa_nil, List.cons_append, List.nil_append, List.append_nil]
  refine primS (.bool false) (cs_lss_f (fun z => c2 ((sg_lt Y0).1 z))) ?_
  refine itF rfl ?_
  have m301 : Num 4860000035 (cr ((Z1 / ((((x9 - x6) * ((x4 * (x14 - x8)) - (x5 * (x13 - x7)))) + ((x10 - x7) * ((x5 * (x12 - x6)) - (x3 * (x14 - x8))))) + ((x11 - x8) * ((x3 * (x13 - x7)) - (x4 * (x12 - x6)))))) * ((((x12 - x6) * (((x1 - x7) * (x11 - x8)) - ((x2 - x8) * (x10 - x7)))) + ((x13 - x7) * (((x2 - x8) * (x9 - x6)) - ((x0 - x6) * (x11 - x8))))) + ((x14 - x8) * (((x0 - x6) * (x10 - x7)) - ((x1 - x7) * (x9 - x6))))))) ((Z1 / ((((x9 - x6) * ((x4 * (x14 - x8)) - (x5 * (x13 - x7)))) + ((x10 - x7) * ((x5 * (x12 - x6)) - (x3 * (x14 - x8))))) + ((x11 - x8) * ((x3 * (x13 - x7)) - (x4 * (x12 - x6)))))) * ((((x12 - x6) * (((x1 - x7) * (x11 - x8)) - ((x2 - x8) * (x10 - x7)))) + ((x13 - x7) * (((x2 - x8) * (x9 - x6)) - ((x0 - x6) * (x11 - x8))))) + ((x14 - x8) * (((x0 - x6) * (x10 - x7)) - ((x1 - x7) * (x9 - x6)))))) := Num.of (Sm.mul m290.sm m299.sm)
  refine call_step (n_rat_Sign (m301.mono (by decide))) rfl ?_
  simp only [fa_agg, fa_one, fa_nil, List.cons_append, List.nil_append, List.append_nil]
  refine primS (.bool false) (cs_leq_f ((sg_gt Y0).2 c3)) ?_
  refine itF rfl ?_
  refine primS (rl [(cr ((Z1 / ((((x9 - x6) * ((x4 * (x14 - x8)) - (x5 * (x13 - x7)))) + ((x10 - x7) * ((x5 * (x12 - x6)) - (x3 * (x14 - x8))))) + ((x11 - x8) * ((x3 * (x13 - x7)) - (x4 * (x12 - x6)))))) * ((((x0 - x6) * ((x4 * (x14 - x8)) - (x5 * (x13 - x7)))) + ((x1 - x7) * ((x5 * (x12 - x6)) - (x3 * (x14 - x8))))) + ((x2 - x8) * ((x3 * (x13 - x7)) - (x4 * (x12 - x6))))))), (cr ((Z1 / ((((x9 - x6) * ((x4 * (x14 - x8)) - (x5 * (x13 - x7)))) + ((x10 - x7) * ((x5 * (x12 - x6)) - (x3 * (x14 - x8))))) + ((x11 - x8) * ((x3 * (x13 - x7)) - (x4 * (x12 - x6)))))) * (((x3 * (((x1 - x7) * (x11 - x8)) - ((x2 - x8) * (x10 - x7)))) + (x4 * (((x2 - x8) * (x9 - x6)) - ((x0 - x6) * (x11 - x8))))) + (x5 * (((x0 - x6) * (x10 - x7)) - ((x1 - x7) * (x9 - x6)))))))]) rfl ?_
  refine call_step (n_rat_Sum_2 (k0 := (((Z1 / ((((x9 - x6) * ((x4 * (x14 - x8)) - (x5 * (x13 - x7)))) + ((x10 - x7) * ((x5 * (x12 - x6)) - (x3 * (x14 - x8))))) + ((x11 - x8) * ((x3 * (x13 - x7)) - (x4 * (x12 - x6)))))) * ((((x0 - x6) * ((x4 * (x14 - x8)) - (x5 * (x13 - x7)))) + ((x1 - x7) * ((x5 * (x12 - x6)) - (x3 * (x14 - x8))))) + ((x2 - x8) * ((x3 * (x13 - x7)) - (x4 * (x12 - x6)))))) + ((Z1 / ((((x9 - x6) * ((x4 * (x14 - x8)) - (x5 * (x13 - x7)))) + ((x10 - x7) * ((x5 * (x12 - x6)) - (x3 * (x14 - x8))))) + ((x11 - x8) * ((x3 * (x13 - x7)) - (x4 * (x12 - x6)))))) * (((x3 * (((x1 - x7) * (x11 - x8)) - ((x2 - x8) * (x10 - x7)))) + (x4 * (((x2 - x8) * (x9 - x6)) - ((x0 - x6) * (x11 - x8))))) + (x5 * (((x0 - x6) * (x10 - x7)) - ((x1 - x7) * (x9 - x6)))))))) (m292.mono (by decide)) (m300.mono (by decide)) rfl) rfl ?_
  simp only [fa_agg, fa_one, fa_nil, List.cons_append, List.nil_append, List.append_nil]
  refine call_step (n_rat_Of (1) (1) (by decide) (by decide) (by decide) (by decide) (Y1.trans (by decide +kernel))) rfl ?_
  simp only [fa_agg, fa_one, fa_nil, List.cons_append, List.nil_append, List.append_nil]
  have m303 : Num 8910000062 (cr (((Z1 / ((((x9 - x6) * ((x4 * (x14 - x8)) - (x5 * (x13 - x7)))) + ((x10 - x7) * ((x5 * (x12 - x6)) - (x3 * (x14 - x8))))) + ((x11 - x8) * ((x3 * (x13 - x7)) - (x4 * (x12 - x6)))))) * ((((x0 - x6) * ((x4 * (x14 - x8)) - (x5 * (x13 - x7)))) + ((x1 - x7) * ((x5 * (x12 - x6)) - (x3 * (x14 - x8))))) + ((x2 - x8) * ((x3 * (x13 - x7)) - (x4 * (x12 - x6)))))) + ((Z1 / ((((x9 - x6) * ((x4 * (x14 - x8)) - (x5 * (x13 - x7)))) + ((x10 - x7) * ((x5 * (x12 - x6)) - (x3 * (x14 - x8))))) + ((x11 - x8) * ((x3 * (x13 - x7)) - (x4 * (x12 - x6)))))) * (((x3 * (((x1 - x7) * (x11 - x8)) - ((x2 - x8) * (x10 - x7)))) + (x4 * (((x2 - x8) * (x9 - x6)) - ((x0 - x6) * (x11 - x8))))) + (x5 * (((x0 - x6) * (x10 - x7)) - ((x1 - x7) * (x9 - x6)))))))) (((Z1 / ((((x9 - x6) * ((x4 * (x14 - x8)) - (x5 * (x13 - x7)))) + ((x10 - x7) * ((x5 * (x12 - x6)) - (x3 * (x14 - x8))))) + ((x11 - x8) * ((x3 * (x13 - x7)) - (x4 * (x12 - x6)))))) * ((((x0 - x6) * ((x4 * (x14 - x8)) - (x5 * (x13 - x7)))) + ((x1 - x7) * ((x5 * (x12 - x6)) - (x3 * (x14 - x8))))) + ((x2 - x8) * ((x3 * (x13 - x7)) - (x4 * (x12 - x6)))))) + ((Z1 / ((((x9 - x6) * ((x4 * (x14 - x8)) - (x5 * (x13 - x7)))) + ((x10 - x7) * ((x5 * (x12 - x6)) - (x3 * (x14 - x8))))) + ((x11 - x8) * ((x3 * (x13 - x7)) - (x4 * (x12 - x6)))))) * (((x3 * (((x1 - x7) * (x11 - x8)) - ((x2 - x8) * (x10 - x7)))) + (x4 * (((x2 - x8) * (x9 - x6)) - ((x0 - x6) * (x11 - x8))))) + (x5 * (((x0 - x6) * (x10 - x7)) - ((x1 - x7) * (x9 - x6))))))) := Num.of (Sm.add m292.sm m300.sm)
  refine call_step (n_rat_Cmp (m303.mono (by decide)) (m284.mono (by decide))) rfl ?_
  simp only [fa_agg, fa_one, fa_nil, List.cons_append, List.nil_append, List.append_nil]
  refine primS (.bool false) (cs_gtr_f (fun z => c4 (cq_gt.1 z))) ?_
  refine itF rfl ?_
  exact ret_step rfl

theorem n_tri_Hit_4w {Z0 Z1 : Rat} (Y0 : Z0 = (0 : Rat)) (Y1 : Z1 = (1 : Rat)) {r0 r1 r2 r3 r4 r5 r6 r7 r8 r9 r10 r11 r12 r13 r14 : RR} {x0 x1 x2 x3 x4 x5 x6 x7 x8 x9 x10 x11 x12 x13 x14 : Rat} {k0 k1 k2 k3 k4 k5 : Rat} {L0 L1 L2 L3 L4 L5 L6 L7 L8 L9 L10 L11 L12 L13 L14 : Nat} (h0 : Num L0 r0 x0) (h1 : Num L1 r1 x1) (h2 : Num L2 r2 x2) (h3 : Num L3 r3 x3) (h4 : Num L4 r4 x4) (h5 : Num L5 r5 x5) (h6 : Num L6 r6 x6) (h7 : Num L7 r7 x7) (h8 : Num L8 r8 x8) (h9 : Num L9 r9 x9) (h10 : Num L10 r10 x10) (h11 : Num L11 r11 x11) (h12 : Num L12 r12 x12) (h13 : Num L13 r13 x13) (h14 : Num L14 r14 x14) (hl : L0 ≤ 90000000 ∧ L1 ≤ 90000000 ∧ L2 ≤ 90000000 ∧ L3 ≤ 90000000 ∧ L4 ≤ 90000000 ∧ L5 ≤ 90000000 ∧ L6 ≤ 90000000 ∧ L7 ≤ 90000000 ∧ L8 ≤ 90000000 ∧ L9 ≤ 90000000 ∧ L10 ≤ 90000000 ∧ L11 ≤ 90000000 ∧ L12 ≤ 90000000 ∧ L13 ≤ 90000000 ∧ L14 ≤ 90000000) (e0 : k0 = ((((x9 - x6) * ((x4 * (x14 - x8)) - (x5 * (x13 - x7)))) + ((x10 - x7) * ((x5 * (x12 - x6)) - (x3 * (x14 - x8))))) + ((x11 - x8) * ((x3 * (x13 - x7)) - (x4 * (x12 - x6)))))) (e1 : k1 = (Z1 / k0)) (e2 : k2 = (k1 * ((((x0 - x6) * ((x4 * (x14 - x8)) - (x5 * (x13 - x7)))) + ((x1 - x7) * ((x5 * (x12 - x6)) - (x3 * (x14 - x8))))) + ((x2 - x8) * ((x3 * (x13 - x7)) - (x4 * (x12 - x6))))))) (e3 : k3 = (k1 * (((x3 * (((x1 - x7) * (x11 - x8)) - ((x2 - x8) * (x10 - x7)))) + (x4 * (((x2 - x8) * (x9 - x6)) - ((x0 - x6) * (x11 - x8))))) + (x5 * (((x0 - x6) * (x10 - x7)) - ((x1 - x7) * (x9 - x6))))))) (e4 : k4 = (k1 * ((((x12 - x6) * (((x1 - x7) * (x11 - x8)) - ((x2 - x8) * (x10 - x7)))) + ((x13 - x7) * (((x2 - x8) * (x9 - x6)) - ((x0 - x6) * (x11 - x8))))) + ((x14 - x8) * (((x0 - x6) * (x10 - x7)) - ((x1 - x7) * (x9 - x6))))))) (e5 : k5 = (k2 + k3)) (c0 : ¬k0 = Z0) (c1 : ¬k2 < Z0) (c2 : ¬k3 < Z0) (c3 : Z0 < k4) (c4 : ¬Z1 < k5) : PureCalls prog F.tri_Hit [.agg ([.bool r0.neg, nl r0.num, nl r0.den, .bool r1.neg, nl r1.num, nl r1.den, .bool r2.neg, nl r2.num, nl r2.den]), .agg ([.bool r3.neg, nl r3.num, nl r3.den, .bool r4.neg, nl r4.num, nl r4.den, .bool r5.neg, nl r5.num, nl r5.den]), .agg ([.bool r6.neg, nl r6.num, nl r6.den, .bool r7.neg, nl r7.num, nl r7.den, .bool r8.neg, nl r8.num, nl r8.den, .bool r9.neg, nl r9.num, nl r9.den, .bool r10.neg, nl r10.num, nl r10.den, .bool r11.neg, nl r11.num, nl r11.den, .bool r12.neg, nl r12.num, nl r12.den, .bool r13.neg, nl r13.num, nl r13.den, .bool r14.neg, nl r14.num, nl r14.den])] [.agg ([.bool (decide ((k4).num < 0)), nn (k4).num.natAbs, nn (k4).den, .bool (decide ((k2).num < 0)), nn (k2).num.natAbs, nn (k2).den, .bool (decide ((k3).num < 0)), nn (k3).num.natAbs, nn (k3).den]), .one (.bool true)] := n_tri_Hit_4 Y0 Y1 (h0.mono hl.1) (h1.mono hl.2.1) (h2.mono hl.2.2.1) (h3.mono hl.2.2.2.1) (h4.mono hl.2.2.2.2.1) (h5.mono hl.2.2.2.2.2.1) (h6.mono hl.2.2.2.2.2.2.1) (h7.mono hl.2.2.2.2.2.2.2.1) (h8.mono hl.2.2.2.2.2.2.2.2.1) (h9.mono hl.2.2.2.2.2.2.2.2.2.1) (h10.mono hl.2.2.2.2.2.2.2.2.2.2.1) (h11.mono hl.2.2.2.2.2.2.2.2.2.2.2.1) (h12.mono hl.2.2.2.2.2.2.2.2.2.2.2.2.1) (h13.mono hl.2.2.2.2.2.2.2.2.2.2.2.2.2.1) (h14.mono hl.2.2.2.2.2.2.2.2.2.2.2.2.2.2) e0 e1 e2 e3 e4 e5 c0 c1 c2 c3 c4

theorem n_tri_Hit_5 {Z0 Z1 : Rat} (Y0 : Z0 = (0 : Rat)) (Y1 : Z1 = (1 : Rat)) {r0 r1 r2 r3 r4 r5 r6 r7 r8 r9 r10 r11 r12 r13 r14 : RR} {x0 x1 x2 x3 x4 x5 x6 x7 x8 x9 x10 x11 x12 x13 x14 : Rat} {k0 k1 k2 k3 k4 : Rat} (h0 : Num 90000000 r0 x0) (h1 : Num 90000000 r1 x1) (h2 : Num 90000000 r2 x2) (h3 : Num 90000000 r3 x3) (h4 : Num 90000000 r4 x4) (h5 : Num 90000000 r5 x5) (h6 : Num 90000000 r6 x6) (h7 : Num 90000000 r7 x7) (h8 : Num 90000000 r8 x8) (h9 : Num 90000000 r9 x9) (h10 : Num 90000000 r10 x10) (h11 : Num 90000000 r11 x11) (h12 : Num 90000000 r12 x12) (h13 : Num 90000000 r13 x13) (h14 : Num 90000000 r14 x14) (e0 : k0 = ((((x9 - x6) * ((x4 * (x14 - x8)) - (x5 * (x13 - x7)))) + ((x10 - x7) * ((x5 * (x12 - x6)) - (x3 * (x14 - x8))))) + ((x11 - x8) * ((x3 * (x13 - x7)) - (x4 * (x12 - x6)))))) (e1 : k1 = (Z1 / k0)) (e2 : k2 = (k1 * ((((x0 - x6) * ((x4 * (x14 - x8)) - (x5 * (x13 - x7)))) + ((x1 - x7) * ((x5 * (x12 - x6)) - (x3 * (x14 - x8))))) + ((x2 - x8) * ((x3 * (x13 - x7)) - (x4 * (x12 - x6))))))) (e3 : k3 = (k1 * (((x3 * (((x1 - x7) * (x11 - x8)) - ((x2 - x8) * (x10 - x7)))) + (x4 * (((x2 - x8) * (x9 - x6)) - ((x0 - x6) * (x11 - x8))))) + (x5 * (((x0 - x6) * (x10 - x7)) - ((x1 - x7) * (x9 - x6))))))) (e4 : k4 = (k1 * ((((x12 - x6) * (((x1 - x7) * (x11 - x8)) - ((x2 - x8) * (x10 - x7)))) + ((x13 - x7) * (((x2 - x8) * (x9 - x6)) - ((x0 - x6) * (x11 - x8))))) + ((x14 - x8) * (((x0 - x6) * (x10 - x7)) - ((x1 - x7) * (x9 - x6))))))) (c0 : ¬k0 = Z0) (c1 : ¬k2 < Z0) (c2 : ¬k3 < Z0) (c3 : ¬Z0 < k4) : PureCalls prog F.tri_Hit [.agg ([.bool r0.neg, nl r0.num, nl r0.den, .bool r1.neg, nl r1.num, nl r1.den, .bool r2.neg, nl r2.num, nl r2.den]), .agg ([.bool r3.neg, nl r3.num, nl r3.den, .bool r4.neg, nl r4.num, nl r4.den, .bool r5.neg, nl r5.num, nl r5.den]), .agg ([.bool r6.neg, nl r6.num, nl r6.den, .bool r7.neg, nl r7.num, nl r7.den, .bool r8.neg, nl r8.num, nl r8.den, .bool r9.neg, nl r9.num, nl r9.den, .bool r10.neg, nl r10.num, nl r10.den, .bool r11.neg, nl r11.num, nl r11.den, .bool r12.neg, nl r12.num, nl r12.den, .bool r13.neg, nl r13.num, nl r13.den, .bool r14.neg, nl r14.num, nl r14.den])] [.agg ([.bool (decide ((Z0).num < 0)), nn (Z0).num.natAbs, nn (Z0).den, .bool (decide ((Z0).num < 0)), nn (Z0).num.natAbs, nn (Z0).den, .bool (decide ((Z0).num < 0)), nn (Z0).num.natAbs, nn (Z0).den]), .one (.bool false)] := by
  subst e0 e1 e2 e3 e4
  refine symFunc_sound hmix tree_tri_Hit (by kernel_rfl) rfl ?_
  unfold ir_tri_Hit
  simp only [fa_agg, fa_one, fa_nil, List.cons_append, List.nil_append, List.append_nil]
  refine call_step (n_rat_Of (0) (1) (by decide) (by decide) (by decide) (by decide) (Y0.trans (by decide +kernel))) rfl ?_
  simp only [fa_agg, fa_one, fa_nil, List.cons_append, List.nil_append, List.append_nil]
  refine call_step (n_tri_sides_0w (k0 := (x9 - x6)) (k1 := (x10 - x7)) (k2 := (x11 - x8)) (k3 := (x12 - x6)) (k4 := (x13 - x7)) (k5 := (x14 - x8)) h6 h7 h8 h9 h10 h11 h12 h13 h14 (by decide) rfl rfl rfl rfl rfl rfl) rfl ?_
  simp only [fa_agg, fa_one, fa_nil, List.cons_append, List.nil_append, List.append_nil]
  have m304 : Num 180000001 (cr (x12 - x6)) (x12 - x6) := Num.of (Sm.sub h12.sm h6.sm)
  have m305 : Num 180000001 (cr (x13 - x7)) (x13 - x7) := Num.of (Sm.sub h13.sm h7.sm)
  have m306 : Num 180000001 (cr (x14 - x8)) (x14 - x8) := Num.of (Sm.sub h14.sm h8.sm)
  refine call_step (n_vec_Cross_0w (k0 := ((x4 * (x14 - x8)) - (x5 * (x13 - x7)))) (k1 := ((x5 * (x12 - x6)) - (x3 * (x14 - x8)))) (k2 := ((x3 * (x13 - x7)) - (x4 * (x12 - x6)))) h3 h4 h5 m304 m305 m306 (by decide) rfl rfl rfl) rfl ?_
  simp only [fa_agg, fa_one, fa_nil, List.cons_append, List.nil_append, List.append_nil]
  have m307 : Num 180000001 (cr (x9 - x6)) (x9 - x6) := Num.of (Sm.sub h9.sm h6.sm)
  have m308 : Num 180000001 (cr (x10 - x7)) (x10 - x7) := Num.of (Sm.sub h10.sm h7.sm)
  have m309 : Num 180000001 (cr (x11 - x8)) (x11 - x8) := Num.of (Sm.sub h11.sm h8.sm)
  have m310 : Num 540000003 (cr ((x4 * (x14 - x8)) - (x5 * (x13 - x7)))) ((x4 * (x14 - x8)) - (x5 * (x13 - x7))) := Num.of (Sm.sub (Sm.mul h4.sm m306.sm) (Sm.mul h5.sm m305.sm))
  have m311 : Num 540000003 (cr ((x5 * (x12 - x6)) - (x3 * (x14 - x8)))) ((x5 * (x12 - x6)) - (x3 * (x14 - x8))) := Num.of (Sm.sub (Sm.mul h5.sm m304.sm) (Sm.mul h3.sm m306.sm))
  have m312 : Num 540000003 (cr ((x3 * (x13 - x7)) - (x4 * (x12 - x6)))) ((x3 * (x13 - x7)) - (x4 * (x12 - x6))) := Num.of (Sm.sub (Sm.mul h3.sm m305.sm) (Sm.mul h4.sm m304.sm))
  refine call_step (n_vec_Dot_0w (k0 := ((((x9 - x6) * ((x4 * (x14 - x8)) - (x5 * (x13 - x7)))) + ((x10 - x7) * ((x5 * (x12 - x6)) - (x3 * (x14 - x8))))) + ((x11 - x8) * ((x3 * (x13 - x7)) - (x4 * (x12 - x6)))))) m307 m308 m309 m310 m311 m312 (by decide) rfl) rfl ?_
  simp only [fa_agg, fa_one, fa_nil, List.cons_append, List.nil_append, List.append_nil]
  refine call_step (n_rat_Of (1) (1) (by decide) (by decide) (by decide) (by decide) (Y1.trans (by decide +kernel))) rfl ?_
  simp only [fa_agg, fa_one, fa_nil, List.cons_append, List.nil_append, List.append_nil]
  have m313 : Num 1 (cr Z1) Z1 := Num.c Y1 (by decide +kernel) (by decide +kernel)
  have m314 : Num 2160000014 (cr ((((x9 - x6) * ((x4 * (x14 - x8)) - (x5 * (x13 - x7)))) + ((x10 - x7) * ((x5 * (x12 - x6)) - (x3 * (x14 - x8))))) + ((x11 - x8) * ((x3 * (x13 - x7)) - (x4 * (x12 - x6)))))) ((((x9 - x6) * ((x4 * (x14 - x8)) - (x5 * (x13 - x7)))) + ((x10 - x7) * ((x5 * (x12 - x6)) - (x3 * (x14 - x8))))) + ((x11 - x8) * ((x3 * (x13 - x7)) - (x4 * (x12 - x6))))) := Num.of (Sm.add (Sm.add (Sm.mul m307.sm m310.sm) (Sm.mul m308.sm m311.sm)) (Sm.mul m309.sm m312.sm))
  refine call_step (n_rat_Div_f (k0 := (Z1 / ((((x9 - x6) * ((x4 * (x14 - x8)) - (x5 * (x13 - x7)))) + ((x10 - x7) * ((x5 * (x12 - x6)) - (x3 * (x14 - x8))))) + ((x11 - x8) * ((x3 * (x13 - x7)) - (x4 * (x12 - x6))))))) Y0 (m313.mono (by decide)) (m314.mono (by decide)) rfl c0) rfl ?_
  simp only [fa_agg, fa_one, fa_nil, List.cons_append, List.nil_append, List.append_nil]
  refine primS (.bool false) rfl ?_
  refine itF rfl ?_
  refine call_step (n_vec_Sub_0w (k0 := (x0 - x6)) (k1 := (x1 - x7)) (k2 := (x2 - x8)) h0 h1 h2 h6 h7 h8 (by decide) rfl rfl rfl) rfl ?_
  simp only [fa_agg, fa_one, fa_nil, List.cons_append, List.nil_append, List.append_nil]
  have m315 : Num 180000001 (cr (x0 - x6)) (x0 - x6) := Num.of (Sm.sub h0.sm h6.sm)
  have m316 : Num 180000001 (cr (x1 - x7)) (x1 - x7) := Num.of (Sm.sub h1.sm h7.sm)
  have m317 : Num 180000001 (cr (x2 - x8)) (x2 - x8) := Num.of (Sm.sub h2.sm h8.sm)
  refine call_step (n_vec_Dot_0w (k0 := ((((x0 - x6) * ((x4 * (x14 - x8)) - (x5 * (x13 - x7)))) + ((x1 - x7) * ((x5 * (x12 - x6)) - (x3 * (x14 - x8))))) + ((x2 - x8) * ((x3 * (x13 - x7)) - (x4 * (x12 - x6)))))) m315 m316 m317 m310 m311 m312 (by decide) rfl) rfl ?_
  simp only [fa_agg, fa_one, fa_nil, List.cons_append, List.nil_append, List.append_nil]
  refine primS (rl [(cr (Z1 / ((((x9 - x6) * ((x4 * (x14 - x8)) - (x5 * (x13 - x7)))) + ((x10 - x7) * ((x5 * (x12 - x6)) - (x3 * (x14 - x8))))) + ((x11 - x8) * ((x3 * (x13 - x7)) - (x4 * (x12 - x6))))))), (cr ((((x0 - x6) * ((x4 * (x14 - x8)) - (x5 * (x13 - x7)))) + ((x1 - x7) * ((x5 * (x12 - x6)) - (x3 * (x14 - x8))))) + ((x2 - x8) * ((x3 * (x13 - x7)) - (x4 * (x12 - x6))))))]) rfl ?_
  have m319 : Num 2160000015 (cr (Z1 / ((((x9 - x6) * ((x4 * (x14 - x8)) - (x5 * (x13 - x7)))) + ((x10 - x7) * ((x5 * (x12 - x6)) - (x3 * (x14 - x8))))) + ((x11 - x8) * ((x3 * (x13 - x7)) - (x4 * (x12 - x6))))))) (Z1 / ((((x9 - x6) * ((x4 * (x14 - x8)) - (x5 * (x13 - x7)))) + ((x10 - x7) * ((x5 * (x12 - x6)) - (x3 * (x14 - x8))))) + ((x11 - x8) * ((x3 * (x13 - x7)) - (x4 * (x12 - x6)))))) := Num.of (Sm.div m313.sm m314.sm)
  have m320 : Num 2160000014 (cr ((((x0 - x6) * ((x4 * (x14 - x8)) - (x5 * (x13 - x7)))) + ((x1 - x7) * ((x5 * (x12 - x6)) - (x3 * (x14 - x8))))) + ((x2 - x8) * ((x3 * (x13 - x7)) - (x4 * (x12 - x6)))))) ((((x0 - x6) * ((x4 * (x14 - x8)) - (x5 * (x13 - x7)))) + ((x1 - x7) * ((x5 * (x12 - x6)) - (x3 * (x14 - x8))))) + ((x2 - x8) * ((x3 * (x13 - x7)) - (x4 * (x12 - x6))))) := Num.of (Sm.add (Sm.add (Sm.mul m315.sm m310.sm) (Sm.mul m316.sm m311.sm)) (Sm.mul m317.sm m312.sm))
  refine call_step (n_rat_Product_2 (k0 := ((Z1 / ((((x9 - x6) * ((x4 * (x14 - x8)) - (x5 * (x13 - x7)))) + ((x10 - x7) * ((x5 * (x12 - x6)) - (x3 * (x14 - x8))))) + ((x11 - x8) * ((x3 * (x13 - x7)) - (x4 * (x12 - x6)))))) * ((((x0 - x6) * ((x4 * (x14 - x8)) - (x5 * (x13 - x7)))) + ((x1 - x7) * ((x5 * (x12 - x6)) - (x3 * (x14 - x8))))) + ((x2 - x8) * ((x3 * (x13 - x7)) - (x4 * (x12 - x6))))))) (m319.mono (by decide)) (m320.mono (by decide)) rfl) rfl ?_
  simp only [fa_agg, fa_one, fa_nil, List.cons_append, List.nil_append, List.append_nil]
  have m321 : Num 4320000029 (cr ((Z1 / ((((x9 - x6) * ((x4 * (x14 - x8)) - (x5 * (x13 - x7)))) + ((x10 - x7) * ((x5 * (x12 - x6)) - (x3 * (x14 - x8))))) + ((x11 - x8) * ((x3 * (x13 - x7)) - (x4 * (x12 - x6)))))) * ((((x0 - x6) * ((x4 * (x14 - x8)) - (x5 * (x13 - x7)))) + ((x1 - x7) * ((x5 * (x12 - x6)) - (x3 * (x14 - x8))))) + ((x2 - x8) * ((x3 * (x13 - x7)) - (x4 * (x12 - x6))))))) ((Z1 / ((((x9 - x6) * ((x4 * (x14 - x8)) - (x5 * (x13 - x7)))) + ((x10 - x7) * ((x5 * (x12 - x6)) - (x3 * (x14 - x8))))) + ((x11 - x8) * ((x3 * (x13 - x7)) - (x4 * (x12 - x6)))))) * ((((x0 - x6) * ((x4 * (x14 - x8)) - (x5 * (x13 - x7)))) + ((x1 - x7) * ((x5 * (x12 - x6)) - (x3 * (x14 - x8))))) + ((x2 - x8) * ((x3 * (x13 - x7)) - (x4 * (x12 - x6)))))) := Num.of (Sm.mul m319.sm m320.sm)
  refine call_step (n_rat_Sign (m321.mono (by decide))) rfl ?_
  simp only [fa_agg, fa_one, fa_nil, List.cons_append, List.nil_append, List.append_nil]
  refine primS (.bool false) (cs_lss_f (fun z => c1 ((sg_lt Y0).1 z))) ?_
  refine itF rfl ?_
  refine call_step (n_vec_Cross_0w (k0 := (((x1 - x7) * (x11 - x8)) - ((x2 - x8) * (x10 - x7)))) (k1 := (((x2 - x8) * (x9 - x6)) - ((x0 - x6) * (x11 - x8)))) (k2 := (((x0 - x6) * (x10 - x7)) - ((x1 - x7) * (x9 - x6)))) m315 m316 m317 m307 m308 m309 (by decide) rfl rfl rfl) rfl ?_
  simp only [fa_agg, fa_one, fa_nil, List.cons_append, List.nil_append, List.append_nil]
  have m322 : Num 720000005 (cr (((x1 - x7) * (x11 - x8)) - ((x2 - x8) * (x10 - x7)))) (((x1 - x7) * (x11 - x8)) - ((x2 - x8) * (x10 - x7))) := Num.of (Sm.sub (Sm.mul m316.sm m309.sm) (Sm.mul m317.sm m308.sm))
  have m323 : Num 720000005 (cr (((x2 - x8) * (x9 - x6)) - ((x0 - x6) * (x11 - x8)))) (((x2 - x8) * (x9 - x6)) - ((x0 - x6) * (x11 - x8))) := Num.of (Sm.sub (Sm.mul m317.sm m307.sm) (Sm.mul m315.sm m309.sm))
  have m324 : Num 720000005 (cr (((x0 - x6) * (x10 - x7)) - ((x1 - x7) * (x9 - x6)))) (((x0 - x6) * (x10 - x7)) - ((x1 - x7) * (x9 - x6))) := Num.of (Sm.sub (Sm.mul m315.sm m308.sm) (Sm.mul m316.sm m307.sm))
  refine call_step (n_vec_Dot_0w (k0 := (((x3 * (((x1 - x7) * (x11 - x8)) - ((x2 - x8) * (x10 - x7)))) + (x4 * (((x2 - x8) * (x9 - x6)) - ((x0 - x6) * (x11 - x8))))) + (x5 * (((x0 - x6) * (x10 - x7)) - ((x1 - x7) * (x9 - x6)))))) h3 h4 h5 m322 m323 m324 (by decide) rfl) rfl ?_
  simp only [fa_agg, fa_one, fa_nil, List.cons_append, List.nil_append, List.append_nil]
  refine primS (rl [(cr (Z1 / ((((x9 - x6) * ((x4 * (x14 - x8)) - (x5 * (x13 - x7)))) + ((x10 - x7) * ((x5 * (x12 - x6)) - (x3 * (x14 - x8))))) + ((x11 - x8) * ((x3 * (x13 - x7)) - (x4 * (x12 - x6))))))), (cr (((x3 * (((x1 - x7) * (x11 - x8)) - ((x2 - x8) * (x10 - x7)))) + (x4 * (((x2 - x8) * (x9 - x6)) - ((x0 - x6) * (x11 - x8))))) + (x5 * (((x0 - x6) * (x10 - x7)) - ((x1 - x7) * (x9 - x6))))))]) rfl ?_
  have m326 : Num 2430000017 (cr (((x3 * (((x1 - x7) * (x11 - x8)) - ((x2 - x8) * (x10 - x7)))) + (x4 * (((x2 - x8) * (x9 - x6)) - ((x0 - x6) * (x11 - x8))))) + (x5 * (((x0 - x6) * (x10 - x7)) - ((x1 - x7) * (x9 - x6)))))) (((x3 * (((x1 - x7) * (x11 - x8)) - ((x2 - x8) * (x10 - x7)))) + (x4 * (((x2 - x8) * (x9 - x6)) - ((x0 - x6) * (x11 - x8))))) + (x5 * (((x0 - x6) * (x10 - x7)) - ((x1 - x7) * (x9 - x6))))) := Num.of (Sm.add (Sm.add (Sm.mul h3.sm m322.sm) (Sm.mul h4.sm m323.sm)) (Sm.mul h5.sm m324.sm))
  refine call_step (n_rat_Product_2 (k0 := ((Z1 / ((((x9 - x6) * ((x4 * (x14 - x8)) - (x5 * (x13 - x7)))) + ((x10 - x7) * ((x5 * (x12 - x6)) - (x3 * (x14 - x8))))) + ((x11 - x8) * ((x3 * (x13 - x7)) - (x4 * (x12 - x6)))))) * (((x3 * (((x1 - x7) * (x11 - x8)) - ((x2 - x8) * (x10 - x7)))) + (x4 * (((x2 - x8) * (x9 - x6)) - ((x0 - x6) * (x11 - x8))))) + (x5 * (((x0 - x6) * (x10 - x7)) - ((x1 - x7) * (x9 - x6))))))) (m319.mono (by decide)) (m326.mono (by decide)) rfl) rfl ?_
  simp only [fa_agg, fa_one, fa_nil, List.cons_append, List.nil_append, List.append_nil]
  refine call_step (n_vec_Dot_0w (k0 := ((((x12 - x6) * (((x1 - x7) * (x11 - x8)) - ((x2 - x8) * (x10 - x7)))) + ((x13 - x7) * (((x2 - x8) * (x9 - x6)) - ((x0 - x6) * (x11 - x8))))) + ((x14 - x8) * (((x0 - x6) * (x10 - x7)) - ((x1 - x7) * (x9 - x6)))))) m304 m305 m306 m322 m323 m324 (by decide) rfl) rfl ?_
  simp only [fa_agg, fa_one, fa_nil, List.cons_append, List.nil_append, List.append_nil]
  refine primS (rl [(cr (Z1 / ((((x9 - x6) * ((x4 * (x14 - x8)) - (x5 * (x13 - x7)))) + ((x10 - x7) * ((x5 * (x12 - x6)) - (x3 * (x14 - x8))))) + ((x11 - x8) * ((x3 * (x13 - x7)) - (x4 * (x12 - x6))))))), (cr ((((x12 - x6) * (((x1 - x7) * (x11 - x8)) - ((x2 - x8) * (x10 - x7)))) + ((x13 - x7) * (((x2 - x8) * (x9 - x6)) - ((x0 - x6) * (x11 - x8))))) + ((x14 - x8) * (((x0 - x6) * (x10 - x7)) - ((x1 - x7) * (x9 - x6))))))]) rfl ?_
  have m328 : Num 2700000020 (cr ((((x12 - x6) * (((x1 - x7) * (x11 - x8)) - ((x2 - x8) * (x10 - x7)))) + ((x13 - x7) * (((x2 - x8) * (x9 - x6)) - ((x0 - x6) * (x11 - x8))))) + ((x14 - x8) * (((x0 - x6) * (x10 - x7)) - ((x1 - x7) * (x9 - x6)))))) ((((x12 - x6) * (((x1 - x7) * (x11 - x8)) - ((x2 - x8) * (x10 - x7)))) + ((x13 - x7) * (((x2 - x8) * (x9 - x6)) - ((x0 - x6) * (x11 - x8))))) + ((x14 - x8) * (((x0 - x6) * (x10 - x7)) - ((x1 - x7) * (x9 - x6))))) := Num.of (Sm.add (Sm.add (Sm.mul m304.sm m322.sm) (Sm.mul m305.sm m323.sm)) (Sm.mul m306.sm m324.sm))
  refine call_step (n_rat_Product_2 (k0 := ((Z1 / ((((x9 - x6) * ((x4 * (x14 - x8)) - (x5 * (x13 - x7)))) + ((x10 - x7) * ((x5 * (x12 - x6)) - (x3 * (x14 - x8))))) + ((x11 - x8) * ((x3 * (x13 - x7)) - (x4 * (x12 - x6)))))) * ((((x12 - x6) * (((x1 - x7) * (x11 - x8)) - ((x2 - x8) * (x10 - x7)))) + ((x13 - x7) * (((x2 - x8) * (x9 - x6)) - ((x0 - x6) * (x11 - x8))))) + ((x14 - x8) * (((x0 - x6) * (x10 - x7)) - ((x1 - x7) * (x9 - x6))))))) (m319.mono (by decide)) (m328.mono (by decide)) rfl) rfl ?_
  simp only [fa_agg, fa_one, fa_nil, List.cons_append, List.nil_append, List.append_nil]
  have m329 : Num 4590000032 (cr ((Z1 / ((((x9 - x6) * ((x4 * (x14 - x8)) - (x5 * (x13 - x7)))) + ((x10 - x7) * ((x5 * (x12 - x6)) - (x3 * (x14 - x8))))) + ((x11 - x8) * ((x3 * (x13 - x7)) - (x4 * (x12 - x6)))))) * (((x3 * (((x1 - x7) * (x11 - x8)) - ((x2 - x8) * (x10 - x7)))) + (x4 * (((x2 - x8) * (x9 - x6)) - ((x0 - x6) * (x11 - x8))))) + (x5 * (((x0 - x6) * (x10 - x7)) - ((x1 - x7) * (x9 - x6))))))) ((Z1 / ((((x9 - x6) * ((x4 * (x14 - x8)) - (x5 * (x13 - x7)))) + ((x10 - x7) * ((x5 * (x12 - x6)) - (x3 * (x14 - x8))))) + ((x11 - x8) * ((x3 * (x13 - x7)) - (x4 * (x12 - x6)))))) * (((x3 * (((x1 - x7) * (x11 - x8)) - ((x2 - x8) * (x10 - x7)))) + (x4 * (((x2 - x8) * (x9 - x6)) - ((x0 - x6) * (x11 - x8))))) + (x5 * (((x0 - x6) * (x10 - x7)) - ((x1 - x7) * (x9 - x6)))))) := Num.of (Sm.mul m319.sm m326.sm)
  refine call_step (n_rat_Sign (m329.mono (by decide))) rfl ?_
  simp only [fa_agg, fa_one, fa_nil, List.cons_append, List.nil_append, List.append_nil]
  refine primS (.bool false) (cs_lss_f (fun z => c2 ((sg_lt Y0).1 z))) ?_
  refine itF rfl ?_
  have m330 : Num 4860000035 (cr ((Z1 / ((((x9 - x6) * ((x4 * (x14 - x8)) - (x5 * (x13 - x7)))) + ((x10 - x7) * ((x5 * (x12 - x6)) - (x3 * (x14 - x8))))) + ((x11 - x8) * ((x3 * (x13 - x7)) - (x4 * (x12 - x6)))))) * ((((x12 - x6) * (((x1 - x7) * (x11 - x8)) - ((x2 - x8) * (x10 - x7)))) + ((x13 - x7) * (((x2 - x8) * (x9 - x6)) - ((x0 - x6) * (x11 - x8))))) + ((x14 - x8) * (((x0 - x6) * (x10 - x7)) - ((x1 - x7) * (x9 - x6))))))) ((Z1 / ((((x9 - x6) * ((x4 * (x14 - x8)) - (x5 * (x13 - x7)))) + ((x10 - x7) * ((x5 * (x12 - x6)) - (x3 * (x14 - x8))))) + ((x11 - x8) * ((x3 * (x13 - x7)) - (x4 * (x12 - x6)))))) * ((((x12 - x6) * (((x1 - x7) * (x11 - x8)) - ((x2 - x8) * (x10 - x7)))) + ((x13 - x7) * (((x2 - x8) * (x9 - x6)) - ((x0 - x6) * (x11 - x8))))) + ((x14 - x8) * (((x0 - x6) * (x10 - x7)) - ((x1 - x7) * (x9 - x6)))))) := Num.of (Sm.mul m319.sm m328.sm)
  refine call_step (n_rat_Sign (m330.mono (by decide))) rfl ?_
  simp only [fa_agg, fa_one, fa_nil, List.cons_append, List.nil_append, List.append_nil]
  refine primS (.bool true) (cs_leq_t (fun z => c3 ((sg_gt Y0).1 z))) ?_
  refine itT rfl ?_
  exact ret_step rfl

theorem n_tri_Hit_5w {Z0 Z1 : Rat} (Y0 : Z0 = (0 : Rat)) (Y1 : Z1 = (1 : Rat)) {r0 r1 r2 r3 r4 r5 r6 r7 r8 r9 r10 r11 r12 r13 r14 : RR} {x0 x1 x2 x3 x4 x5 x6 x7 x8 x9 x10 x11 x12 x13 x14 : Rat} {k0 k1 k2 k3 k4 : Rat} {L0 L1 L2 L3 L4 L5 L6 L7 L8 L9 L10 L11 L12 L13 L14 : Nat} (h0 : Num L0 r0 x0) (h1 : Num L1 r1 x1) (h2 : Num L2 r2 x2) (h3 : Num L3 r3 x3) (h4 : Num L4 r4 x4) (h5 : Num L5 r5 x5) (h6 : Num L6 r6 x6) (h7 : Num L7 r7 x7) (h8 : Num L8 r8 x8) (h9 : Num L9 r9 x9) (h10 : Num L10 r10 x10) (h11 : Num L11 r11 x11) (h12 : Num L12 r12 x12) (h13 : Num L13 r13 x13) (h14 : Num L14 r14 x14) (hl : L0 ≤ 90000000 ∧ L1 ≤ 90000000 ∧ L2 ≤ 90000000 ∧ L3 ≤ 90000000 ∧ L4 ≤ 90000000 ∧ L5 ≤ 90000000 ∧ L6 ≤ 90000000 ∧ L7 ≤ 90000000 ∧ L8 ≤ 90000000 ∧ L9 ≤ 90000000 ∧ L10 ≤ 90000000 ∧ L11 ≤ 90000000 ∧ L12 ≤ 90000000 ∧ L13 ≤ 90000000 ∧ L14 ≤ 90000000) (e0 : k0 = ((((x9 - x6) * ((x4 * (x14 - x8)) - (x5 * (x13 - x7)))) + ((x10 - x7) * ((x5 * (x12 - x6)) - (x3 * (x14 - x8))))) + ((x11 - x8) * ((x3 * (x13 - x7)) - (x4 * (x12 - x6)))))) (e1 : k1 = (Z1 / k0)) (e2 : k2 = (k1 * ((((x0 - x6) * ((x4 * (x14 - x8)) - (x5 * (x13 - x7)))) + ((x1 - x7) * ((x5 * (x12 - x6)) - (x3 * (x14 - x8))))) + ((x2 - x8) * ((x3 * (x13 - x7)) - (x4 * (x12 - x6))))))) (e3 : k3 = (k1 * (((x3 * (((x1 - x7) * (x11 - x8)) - ((x2 - x8) * (x10 - x7)))) + (x4 * (((x2 - x8) * (x9 - x6)) - ((x0 - x6) * (x11 - x8))))) + (x5 * (((x0 - x6) * (x10 - x7)) - ((x1 - x7) * (x9 - x6))))))) (e4 : k4 = (k1 * ((((x12 - x6) * (((x1 - x7) * (x11 - x8)) - ((x2 - x8) * (x10 - x7)))) + ((x13 - x7) * (((x2 - x8) * (x9 - x6)) - ((x0 - x6) * (x11 - x8))))) + ((x14 - x8) * (((x0 - x6) * (x10 - x7)) - ((x1 - x7) * (x9 - x6))))))) (c0 : ¬k0 = Z0) (c1 : ¬k2 < Z0) (c2 : ¬k3 < Z0) (c3 : ¬Z0 < k4) : PureCalls prog F.tri_Hit [.agg ([.bool r0.neg, nl r0.num, nl r0.den, .bool r1.neg, nl r1.num, nl r1.den, .bool r2.neg, nl r2.num, nl r2.den]), .agg ([.bool r3.neg, nl r3.num, nl r3.den, .bool r4.neg, nl r4.num, nl r4.den, .bool r5.neg, nl r5.num, nl r5.den]), .agg ([.bool r6.neg, nl r6.num, nl r6.den, .bool r7.neg, nl r7.num, nl r7.den, .bool r8.neg, nl r8.num, nl r8.den, .bool r9.neg, nl r9.num, nl r9.den, .bool r10.neg, nl r10.num, nl r10.den, .bool r11.neg, nl r11.num, nl r11.den, .bool r12.neg, nl r12.num, nl r12.den, .bool r13.neg, nl r13.num, nl r13.den, .bool r14.neg, nl r14.num, nl r14.den])] [.agg ([.bool (decide ((Z0).num < 0)), nn (Z0).num.natAbs, nn (Z0).den, .bool (decide ((Z0).num < 0)), nn (Z0).num.natAbs, nn (Z0).den, .bool (decide ((Z0).num < 0)), nn (Z0).num.natAbs, nn (Z0).den]), .one (.bool false)] := n_tri_Hit_5 Y0 Y1 (h0.mono hl.1) (h1.mono hl.2.1) (h2.mono hl.2.2.1) (h3.mono hl.2.2.2.1) (h4.mono hl.2.2.2.2.1) (h5.mono hl.2.2.2.2.2.1) (h6.mono hl.2.2.2.2.2.2.1) (h7.mono hl.2.2.2.2.2.2.2.1) (h8.mono hl.2.2.2.2.2.2.2.2.1) (h9.mono hl.2.2.2.2.2.2.2.2.2.1) (h10.mono hl.2.2.2.2.2.2.2.2.2.2.1) (h11.mono hl.2.2.2.2.2.2.2.2.2.2.2.1) (h12.mono hl.2.2.2.2.2.2.2.2.2.2.2.2.1) (h13.mono hl.2.2.2.2.2.2.2.2.2.2.2.2.2.1) (h14.mono hl.2.2.2.2.2.2.2.2.2.2.2.2.2.2) e0 e1 e2 e3 e4 c0 c1 c2 c3

theorem n_penumbraref05_Sub_0  {r0 r1 r2 r3 r4 r5 : RR} {x0 x1 x2 x3 x4 x5 : Rat} {k0 k1 k2 : Rat} (h0 : Num 9000000000 r0 x0) (h1 : Num 9000000000 r1 x1) (h2 : Num 9000000000 r2 x2) (h3 : Num 9000000000 r3 x3) (h4 : Num 9000000000 r4 x4) (h5 : Num 9000000000 r5 x5) (e0 : k0 = (x0 - x3)) (e1 : k1 = (x1 - x4)) (e2 : k2 = (x2 - x5))  : PureCalls prog F.penumbraref05_Sub [.agg ([.bool r0.neg, nl r0.num, nl r0.den, .bool r1.neg, nl r1.num, nl r1.den, .bool r2.neg, nl r2.num, nl r2.den]), .agg ([.bool r3.neg, nl r3.num, nl r3.den, .bool r4.neg, nl r4.num, nl r4.den, .bool r5.neg, nl r5.num, nl r5.den])] [.agg ([.bool (decide ((k0).num < 0)), nn (k0).num.natAbs, nn (k0).den, .bool (decide ((k1).num < 0)), nn (k1).num.natAbs, nn (k1).den, .bool (decide ((k2).num < 0)), nn (k2).num.natAbs, nn (k2).den])] := by
  subst e0 e1 e2
  refine symFunc_sound hmix tree_penumbraref05_Sub (by kernel_rfl) rfl ?_
  unfold ir_penumbraref05_Sub
  simp only [fa_agg, fa_one, fa_nil, List.cons_append, List.nil_append, List.append_nil]
  refine call_step (n_penumbraref03_Sub (k0 := (x0 - x3)) (h0.mono (by decide)) (h3.mono (by decide)) rfl) rfl ?_
  simp only [fa_agg, fa_one, fa_nil, List.cons_append, List.nil_append, List.append_nil]
  refine call_step (n_penumbraref03_Sub (k0 := (x1 - x4)) (h1.mono (by decide)) (h4.mono (by decide)) rfl) rfl ?_
  simp only [fa_agg, fa_one, fa_nil, List.cons_append, List.nil_append, List.append_nil]
  refine call_step (n_penumbraref03_Sub (k0 := (x2 - x5)) (h2.mono (by decide)) (h5.mono (by decide)) rfl) rfl ?_
  simp only [fa_agg, fa_one, fa_nil, List.cons_append, List.nil_append, List.append_nil]
  exact ret_step rfl

theorem n_penumbraref05_Sub_0w  {r0 r1 r2 r3 r4 r5 : RR} {x0 x1 x2 x3 x4 x5 : Rat} {k0 k1 k2 : Rat} {L0 L1 L2 L3 L4 L5 : Nat} (h0 : Num L0 r0 x0) (h1 : Num L1 r1 x1) (h2 : Num L2 r2 x2) (h3 : Num L3 r3 x3) (h4 : Num L4 r4 x4) (h5 : Num L5 r5 x5) (hl : L0 ≤ 9000000000 ∧ L1 ≤ 9000000000 ∧ L2 ≤ 9000000000 ∧ L3 ≤ 9000000000 ∧ L4 ≤ 9000000000 ∧ L5 ≤ 9000000000) (e0 : k0 = (x0 - x3)) (e1 : k1 = (x1 - x4)) (e2 : k2 = (x2 - x5))  : PureCalls prog F.penumbraref05_Sub [.agg ([.bool r0.neg, nl r0.num, nl r0.den, .bool r1.neg, nl r1.num, nl r1.den, .bool r2.neg, nl r2.num, nl r2.den]), .agg ([.bool r3.neg, nl r3.num, nl r3.den, .bool r4.neg, nl r4.num, nl r4.den, .bool r5.neg, nl r5.num, nl r5.den])] [.agg ([.bool (decide ((k0).num < 0)), nn (k0).num.natAbs, nn (k0).den, .bool (decide ((k1).num < 0)), nn (k1).num.natAbs, nn (k1).den, .bool (decide ((k2).num < 0)), nn (k2).num.natAbs, nn (k2).den])] := n_penumbraref05_Sub_0 (h0.mono hl.1) (h1.mono hl.2.1) (h2.mono hl.2.2.1) (h3.mono hl.2.2.2.1) (h4.mono hl.2.2.2.2.1) (h5.mono hl.2.2.2.2.2) e0 e1 e2

theorem n_penumbraref05_Cross_0  {r0 r1 r2 r3 r4 r5 : RR} {x0 x1 x2 x3 x4 x5 : Rat} {k0 k1 k2 : Rat} (h0 : Num 9000000000 r0 x0) (h1 : Num 9000000000 r1 x1) (h2 : Num 9000000000 r2 x2) (h3 : Num 9000000000 r3 x3) (h4 : Num 9000000000 r4 x4) (h5 : Num 9000000000 r5 x5) (e0 : k0 = ((x1 * x5) - (x2 * x4))) (e1 : k1 = ((x2 * x3) - (x0 * x5))) (e2 : k2 = ((x0 * x4) - (x1 * x3)))  : PureCalls prog F.penumbraref05_Cross [.agg ([.bool r0.neg, nl r0.num, nl r0.den, .bool r1.neg, nl r1.num, nl r1.den, .bool r2.neg, nl r2.num, nl r2.den]), .agg ([.bool r3.neg, nl r3.num, nl r3.den, .bool r4.neg, nl r4.num, nl r4.den, .bool r5.neg, nl r5.num, nl r5.den])] [.agg ([.bool (decide ((k0).num < 0)), nn (k0).num.natAbs, nn (k0).den, .bool (decide ((k1).num < 0)), nn (k1).num.natAbs, nn (k1).den, .bool (decide ((k2).num < 0)), nn (k2).num.natAbs, nn (k2).den])] := by
  subst e0 e1 e2
  refine symFunc_sound hmix tree_penumbraref05_Cross (by kernel_rfl) rfl ?_
  unfold ir_penumbraref05_Cross
  simp only [fa_agg, fa_one, fa_nil, List.cons_append, List.nil_append, List.append_nil]
  refine call_step (n_penumbraref03_Mul (k0 := (x1 * x5)) (h1.mono (by decide)) (h5.mono (by decide)) rfl) rfl ?_
  simp only [fa_agg, fa_one, fa_nil, List.cons_append, List.nil_append, List.append_nil]
  refine call_step (n_penumbraref03_Mul (k0 := (x2 * x4)) (h2.mono (by decide)) (h4.mono (by decide)) rfl) rfl ?_
  simp only [fa_agg, fa_one, fa_nil, List.cons_append, List.nil_append, List.append_nil]
  have m337 : Num 18000000000 (cr (x1 * x5)) (x1 * x5) := Num.of (Sm.mul h1.sm h5.sm)
  have m338 : Num 18000000000 (cr (x2 * x4)) (x2 * x4) := Num.of (Sm.mul h2.sm h4.sm)
  refine call_step (n_penumbraref03_Sub (k0 := ((x1 * x5) - (x2 * x4))) (m337.mono (by decide)) (m338.mono (by decide)) rfl) rfl ?_
  simp only [fa_agg, fa_one, fa_nil, List.cons_append, List.nil_append, List.append_nil]
  refine call_step (n_penumbraref03_Mul (k0 := (x2 * x3)) (h2.mono (by decide)) (h3.mono (by decide)) rfl) rfl ?_
  simp only [fa_agg, fa_one, fa_nil, List.cons_append, List.nil_append, List.append_nil]
  refine call_step (n_penumbraref03_Mul (k0 := (x0 * x5)) (h0.mono (by decide)) (h5.mono (by decide)) rfl) rfl ?_
  simp only [fa_agg, fa_one, fa_nil, List.cons_append, List.nil_append, List.append_nil]
  have m339 : Num 18000000000 (cr (x2 * x3)) (x2 * x3) := Num.of (Sm.mul h2.sm h3.sm)
  have m340 : Num 18000000000 (cr (x0 * x5)) (x0 * x5) := Num.of (Sm.mul h0.sm h5.sm)
  refine call_step (n_penumbraref03_Sub (k0 := ((x2 * x3) - (x0 * x5))) (m339.mono (by decide)) (m340.mono (by decide)) rfl) rfl ?_
  simp only [fa_agg, fa_one, fa_nil, List.cons_append, List.nil_append, List.append_nil]
  refine call_step (n_penumbraref03_Mul (k0 := (x0 * x4)) (h0.mono (by decide)) (h4.mono (by decide)) rfl) rfl ?_
  simp only [fa_agg, fa_one, fa_nil, List.cons_append, List.nil_append, List.append_nil]
  refine call_step (n_penumbraref03_Mul (k0 := (x1 * x3)) (h1.mono (by decide)) (h3.mono (by decide)) rfl) rfl ?_
  simp only [fa_agg, fa_one, fa_nil, List.cons_append, List.nil_append, List.append_nil]
  have m341 : Num 18000000000 (cr (x0 * x4)) (x0 * x4) := Num.of (Sm.mul h0.sm h4.sm)
  have m342 : Num 18000000000 (cr (x1 * x3)) (x1 * x3) := Num.of (Sm.mul h1.sm h3.sm)
  refine call_step (n_penumbraref03_Sub (k0 := ((x0 * x4) - (x1 * x3))) (m341.mono (by decide)) (m342.mono (by decide)) rfl) rfl ?_
  simp only [fa_agg, fa_one, fa_nil, List.cons_append, List.nil_append, List.append_nil]
  exact ret_step rfl

theorem n_penumbraref05_Cross_0w  {r0 r1 r2 r3 r4 r5 : RR} {x0 x1 x2 x3 x4 x5 : Rat} {k0 k1 k2 : Rat} {L0 L1 L2 L3 L4 L5 : Nat} (h0 : Num L0 r0 x0) (h1 : Num L1 r1 x1) (h2 : Num L2 r2 x2) (h3 : Num L3 r3 x3) (h4 : Num L4 r4 x4) (h5 : Num L5 r5 x5) (hl : L0 ≤ 9000000000 ∧ L1 ≤ 9000000000 ∧ L2 ≤ 9000000000 ∧ L3 ≤ 9000000000 ∧ L4 ≤ 9000000000 ∧ L5 ≤ 9000000000) (e0 : k0 = ((x1 * x5) - (x2 * x4))) (e1 : k1 = ((x2 * x3) - (x0 * x5))) (e2 : k2 = ((x0 * x4) - (x1 * x3)))  : PureCalls prog F.penumbraref05_Cross [.agg ([.bool r0.neg, nl r0.num, nl r0.den, .bool r1.neg, nl r1.num, nl r1.den, .bool r2.neg, nl r2.num, nl r2.den]), .agg ([.bool r3.neg, nl r3.num, nl r3.den, .bool r4.neg, nl r4.num, nl r4.den, .bool r5.neg, nl r5.num, nl r5.den])] [.agg ([.bool (decide ((k0).num < 0)), nn (k0).num.natAbs, nn (k0).den, .bool (decide ((k1).num < 0)), nn (k1).num.natAbs, nn (k1).den, .bool (decide ((k2).num < 0)), nn (k2).num.natAbs, nn (k2).den])] := n_penumbraref05_Cross_0 (h0.mono hl.1) (h1.mono hl.2.1) (h2.mono hl.2.2.1) (h3.mono hl.2.2.2.1) (h4.mono hl.2.2.2.2.1) (h5.mono hl.2.2.2.2.2) e0 e1 e2

theorem n_penumbraref08_Normal_0  {r0 r1 r2 r3 r4 r5 r6 r7 r8 : RR} {x0 x1 x2 x3 x4 x5 x6 x7 x8 : Rat} {k0 k1 k2 : Rat} (h0 : Num 900000000 r0 x0) (h1 : Num 900000000 r1 x1) (h2 : Num 900000000 r2 x2) (h3 : Num 900000000 r3 x3) (h4 : Num 900000000 r4 x4) (h5 : Num 900000000 r5 x5) (h6 : Num 900000000 r6 x6) (h7 : Num 900000000 r7 x7) (h8 : Num 900000000 r8 x8) (e0 : k0 = (((x4 - x1) * (x8 - x2)) - ((x5 - x2) * (x7 - x1)))) (e1 : k1 = (((x5 - x2) * (x6 - x0)) - ((x3 - x0) * (x8 - x2)))) (e2 : k2 = (((x3 - x0) * (x7 - x1)) - ((x4 - x1) * (x6 - x0))))  : PureCalls prog F.penumbraref08_Normal [.agg ([.bool r0.neg, nl r0.num, nl r0.den, .bool r1.neg, nl r1.num, nl r1.den, .bool r2.neg, nl r2.num, nl r2.den, .bool r3.neg, nl r3.num, nl r3.den, .bool r4.neg, nl r4.num, nl r4.den, .bool r5.neg, nl r5.num, nl r5.den, .bool r6.neg, nl r6.num, nl r6.den, .bool r7.neg, nl r7.num, nl r7.den, .bool r8.neg, nl r8.num, nl r8.den])] [.agg ([.bool (decide ((k0).num < 0)), nn (k0).num.natAbs, nn (k0).den, .bool (decide ((k1).num < 0)), nn (k1).num.natAbs, nn (k1).den, .bool (decide ((k2).num < 0)), nn (k2).num.natAbs, nn (k2).den])] := by
  subst e0 e1 e2
  refine symFunc_sound hmix tree_penumbraref08_Normal (by kernel_rfl) rfl ?_
  unfold ir_penumbraref08_Normal
  simp only [fa_agg, fa_one, fa_nil, List.cons_append, List.nil_append, List.append_nil]
  refine call_step (n_penumbraref05_Sub_0w (k0 := (x3 - x0)) (k1 := (x4 - x1)) (k2 := (x5 - x2)) h3 h4 h5 h0 h1 h2 (by decide) rfl rfl rfl) rfl ?_
  simp only [fa_agg, fa_one, fa_nil, List.cons_append, List.nil_append, List.append_nil]
  refine call_step (n_penumbraref05_Sub_0w (k0 := (x6 - x0)) (k1 := (x7 - x1)) (k2 := (x8 - x2)) h6 h7 h8 h0 h1 h2 (by decide) rfl rfl rfl) rfl ?_
  simp only [fa_agg, fa_one, fa_nil, List.cons_append, List.nil_append, List.append_nil]
  have m349 : Num 1800000001 (cr (x3 - x0)) (x3 - x0) := Num.of (Sm.sub h3.sm h0.sm)
  have m350 : Num 1800000001 (cr (x4 - x1)) (x4 - x1) := Num.of (Sm.sub h4.sm h1.sm)
  have m351 : Num 1800000001 (cr (x5 - x2)) (x5 - x2) := Num.of (Sm.sub h5.sm h2.sm)
  have m352 : Num 1800000001 (cr (x6 - x0)) (x6 - x0) := Num.of (Sm.sub h6.sm h0.sm)
  have m353 : Num 1800000001 (cr (x7 - x1)) (x7 - x1) := Num.of (Sm.sub h7.sm h1.sm)
  have m354 : Num 1800000001 (cr (x8 - x2)) (x8 - x2) := Num.of (Sm.sub h8.sm h2.sm)
  refine call_step (n_penumbraref05_Cross_0w (k0 := (((x4 - x1) * (x8 - x2)) - ((x5 - x2) * (x7 - x1)))) (k1 := (((x5 - x2) * (x6 - x0)) - ((x3 - x0) * (x8 - x2)))) (k2 := (((x3 - x0) * (x7 - x1)) - ((x4 - x1) * (x6 - x0)))) m349 m350 m351 m352 m353 m354 (by decide) rfl rfl rfl) rfl ?_
  simp only [fa_agg, fa_one, fa_nil, List.cons_append, List.nil_append, List.append_nil]
  exact ret_step rfl

theorem n_penumbraref08_Normal_0w  {r0 r1 r2 r3 r4 r5 r6 r7 r8 : RR} {x0 x1 x2 x3 x4 x5 x6 x7 x8 : Rat} {k0 k1 k2 : Rat} {L0 L1 L2 L3 L4 L5 L6 L7 L8 : Nat} (h0 : Num L0 r0 x0) (h1 : Num L1 r1 x1) (h2 : Num L2 r2 x2) (h3 : Num L3 r3 x3) (h4 : Num L4 r4 x4) (h5 : Num L5 r5 x5) (h6 : Num L6 r6 x6) (h7 : Num L7 r7 x7) (h8 : Num L8 r8 x8) (hl : L0 ≤ 900000000 ∧ L1 ≤ 900000000 ∧ L2 ≤ 900000000 ∧ L3 ≤ 900000000 ∧ L4 ≤ 900000000 ∧ L5 ≤ 900000000 ∧ L6 ≤ 900000000 ∧ L7 ≤ 900000000 ∧ L8 ≤ 900000000) (e0 : k0 = (((x4 - x1) * (x8 - x2)) - ((x5 - x2) * (x7 - x1)))) (e1 : k1 = (((x5 - x2) * (x6 - x0)) - ((x3 - x0) * (x8 - x2)))) (e2 : k2 = (((x3 - x0) * (x7 - x1)) - ((x4 - x1) * (x6 - x0))))  : PureCalls prog F.penumbraref08_Normal [.agg ([.bool r0.neg, nl r0.num, nl r0.den, .bool r1.neg, nl r1.num, nl r1.den, .bool r2.neg, nl r2.num, nl r2.den, .bool r3.neg, nl r3.num, nl r3.den, .bool r4.neg, nl r4.num, nl r4.den, .bool r5.neg, nl r5.num, nl r5.den, .bool r6.neg, nl r6.num, nl r6.den, .bool r7.neg, nl r7.num, nl r7.den, .bool r8.neg, nl r8.num, nl r8.den])] [.agg ([.bool (decide ((k0).num < 0)), nn (k0).num.natAbs, nn (k0).den, .bool (decide ((k1).num < 0)), nn (k1).num.natAbs, nn (k1).den, .bool (decide ((k2).num < 0)), nn (k2).num.natAbs, nn (k2).den])] := n_penumbraref08_Normal_0 (h0.mono hl.1) (h1.mono hl.2.1) (h2.mono hl.2.2.1) (h3.mono hl.2.2.2.1) (h4.mono hl.2.2.2.2.1) (h5.mono hl.2.2.2.2.2.1) (h6.mono hl.2.2.2.2.2.2.1) (h7.mono hl.2.2.2.2.2.2.2.1) (h8.mono hl.2.2.2.2.2.2.2.2) e0 e1 e2

theorem n_penumbraref05_Dot_0  {r0 r1 r2 r3 r4 r5 : RR} {x0 x1 x2 x3 x4 x5 : Rat} {k0 : Rat} (h0 : Num 9000000000 r0 x0) (h1 : Num 9000000000 r1 x1) (h2 : Num 9000000000 r2 x2) (h3 : Num 9000000000 r3 x3) (h4 : Num 9000000000 r4 x4) (h5 : Num 9000000000 r5 x5) (e0 : k0 = (((x0 * x3) + (x1 * x4)) + (x2 * x5)))  : PureCalls prog F.penumbraref05_Dot [.agg ([.bool r0.neg, nl r0.num, nl r0.den, .bool r1.neg, nl r1.num, nl r1.den, .bool r2.neg, nl r2.num, nl r2.den]), .agg ([.bool r3.neg, nl r3.num, nl r3.den, .bool r4.neg, nl r4.num, nl r4.den, .bool r5.neg, nl r5.num, nl r5.den])] [.agg ([.bool (decide ((k0).num < 0)), nn (k0).num.natAbs, nn (k0).den])] := by
  subst e0
  refine symFunc_sound hmix tree_penumbraref05_Dot (by kernel_rfl) rfl ?_
  unfold ir_penumbraref05_Dot
  simp only [fa_agg, fa_one, fa_nil, List.cons_append, List.nil_append, List.append_nil]
  refine call_step (n_penumbraref03_Mul (k0 := (x0 * x3)) (h0.mono (by decide)) (h3.mono (by decide)) rfl) rfl ?_
  simp only [fa_agg, fa_one, fa_nil, List.cons_append, List.nil_append, List.append_nil]
  refine call_step (n_penumbraref03_Mul (k0 := (x1 * x4)) (h1.mono (by decide)) (h4.mono (by decide)) rfl) rfl ?_
  simp only [fa_agg, fa_one, fa_nil, List.cons_append, List.nil_append, List.append_nil]
  have m359 : Num 18000000000 (cr (x0 * x3)) (x0 * x3) := Num.of (Sm.mul h0.sm h3.sm)
  have m360 : Num 18000000000 (cr (x1 * x4)) (x1 * x4) := Num.of (Sm.mul h1.sm h4.sm)
  refine call_step (n_penumbraref03_Add (k0 := ((x0 * x3) + (x1 * x4))) (m359.mono (by decide)) (m360.mono (by decide)) rfl) rfl ?_
  simp only [fa_agg, fa_one, fa_nil, List.cons_append, List.nil_append, List.append_nil]
  refine call_step (n_penumbraref03_Mul (k0 := (x2 * x5)) (h2.mono (by decide)) (h5.mono (by decide)) rfl) rfl ?_
  simp only [fa_agg, fa_one, fa_nil, List.cons_append, List.nil_append, List.append_nil]
  have m361 : Num 36000000001 (cr ((x0 * x3) + (x1 * x4))) ((x0 * x3) + (x1 * x4)) := Num.of (Sm.add m359.sm m360.sm)
  have m362 : Num 18000000000 (cr (x2 * x5)) (x2 * x5) := Num.of (Sm.mul h2.sm h5.sm)
  refine call_step (n_penumbraref03_Add (k0 := (((x0 * x3) + (x1 * x4)) + (x2 * x5))) (m361.mono (by decide)) (m362.mono (by decide)) rfl) rfl ?_
  simp only [fa_agg, fa_one, fa_nil, List.cons_append, List.nil_append, List.append_nil]
  exact ret_step rfl

theorem n_penumbraref05_Dot_0w  {r0 r1 r2 r3 r4 r5 : RR} {x0 x1 x2 x3 x4 x5 : Rat} {k0 : Rat} {L0 L1 L2 L3 L4 L5 : Nat} (h0 : Num L0 r0 x0) (h1 : Num L1 r1 x1) (h2 : Num L2 r2 x2) (h3 : Num L3 r3 x3) (h4 : Num L4 r4 x4) (h5 : Num L5 r5 x5) (hl : L0 ≤ 9000000000 ∧ L1 ≤ 9000000000 ∧ L2 ≤ 9000000000 ∧ L3 ≤ 9000000000 ∧ L4 ≤ 9000000000 ∧ L5 ≤ 9000000000) (e0 : k0 = (((x0 * x3) + (x1 * x4)) + (x2 * x5)))  : PureCalls prog F.penumbraref05_Dot [.agg ([.bool r0.neg, nl r0.num, nl r0.den, .bool r1.neg, nl r1.num, nl r1.den, .bool r2.neg, nl r2.num, nl r2.den]), .agg ([.bool r3.neg, nl r3.num, nl r3.den, .bool r4.neg, nl r4.num, nl r4.den, .bool r5.neg, nl r5.num, nl r5.den])] [.agg ([.bool (decide ((k0).num < 0)), nn (k0).num.natAbs, nn (k0).den])] := n_penumbraref05_Dot_0 (h0.mono hl.1) (h1.mono hl.2.1) (h2.mono hl.2.2.1) (h3.mono hl.2.2.2.1) (h4.mono hl.2.2.2.2.1) (h5.mono hl.2.2.2.2.2) e0

theorem n_penumbraref08_None_0 {Z0 : Rat} (Y0 : Z0 = (0 : Rat))    : PureCalls prog F.penumbraref08_None [] [.agg ([.bool (decide ((Z0).num < 0)), nn (Z0).num.natAbs, nn (Z0).den, .bool (decide ((Z0).num < 0)), nn (Z0).num.natAbs, nn (Z0).den, .bool (decide ((Z0).num < 0)), nn (Z0).num.natAbs, nn (Z0).den])] := by
  refine symFunc_sound hmix tree_penumbraref08_None (by kernel_rfl) rfl ?_
  unfold ir_penumbraref08_None
  simp only [fa_agg, fa_one, fa_nil, List.cons_append, List.nil_append, List.append_nil]
  refine call_step (n_penumbraref03_Zero Y0) rfl ?_
  simp only [fa_agg, fa_one, fa_nil, List.cons_append, List.nil_append, List.append_nil]
  refine call_step (n_penumbraref03_Zero Y0) rfl ?_
  simp only [fa_agg, fa_one, fa_nil, List.cons_append, List.nil_append, List.append_nil]
  refine call_step (n_penumbraref03_Zero Y0) rfl ?_
  simp only [fa_agg, fa_one, fa_nil, List.cons_append, List.nil_append, List.append_nil]
  exact ret_step rfl

theorem n_penumbraref05_Scale_0  {r0 r1 r2 r3 : RR} {x0 x1 x2 x3 : Rat} {k0 k1 k2 : Rat} (h0 : Num 9000000000 r0 x0) (h1 : Num 9000000000 r1 x1) (h2 : Num 9000000000 r2 x2) (h3 : Num 9000000000 r3 x3) (e0 : k0 = (x0 * x1)) (e1 : k1 = (x0 * x2)) (e2 : k2 = (x0 * x3))  : PureCalls prog F.penumbraref05_Scale [.agg ([.bool r0.neg, nl r0.num, nl r0.den]), .agg ([.bool r1.neg, nl r1.num, nl r1.den, .bool r2.neg, nl r2.num, nl r2.den, .bool r3.neg, nl r3.num, nl r3.den])] [.agg ([.bool (decide ((k0).num < 0)), nn (k0).num.natAbs, nn (k0).den, .bool (decide ((k1).num < 0)), nn (k1).num.natAbs, nn (k1).den, .bool (decide ((k2).num < 0)), nn (k2).num.natAbs, nn (k2).den])] := by
  subst e0 e1 e2
  refine symFunc_sound hmix tree_penumbraref05_Scale (by kernel_rfl) rfl ?_
  unfold ir_penumbraref05_Scale
  simp only [fa_agg, fa_one, fa_nil, List.cons_append, List.nil_append, List.append_nil]
  refine call_step (n_penumbraref03_Mul (k0 := (x0 * x1)) (h0.mono (by decide)) (h1.mono (by decide)) rfl) rfl ?_
  simp only [fa_agg, fa_one, fa_nil, List.cons_append, List.nil_append, List.append_nil]
  refine call_step (n_penumbraref03_Mul (k0 := (x0 * x2)) (h0.mono (by decide)) (h2.mono (by decide)) rfl) rfl ?_
  simp only [fa_agg, fa_one, fa_nil, List.cons_append, List.nil_append, List.append_nil]
  refine call_step (n_penumbraref03_Mul (k0 := (x0 * x3)) (h0.mono (by decide)) (h3.mono (by decide)) rfl) rfl ?_
  simp only [fa_agg, fa_one, fa_nil, List.cons_append, List.nil_append, List.append_nil]
  exact ret_step rfl

theorem n_penumbraref05_Add_0  {r0 r1 r2 r3 r4 r5 : RR} {x0 x1 x2 x3 x4 x5 : Rat} {k0 k1 k2 : Rat} (h0 : Num 9000000000 r0 x0) (h1 : Num 9000000000 r1 x1) (h2 : Num 9000000000 r2 x2) (h3 : Num 9000000000 r3 x3) (h4 : Num 9000000000 r4 x4) (h5 : Num 9000000000 r5 x5) (e0 : k0 = (x0 + x3)) (e1 : k1 = (x1 + x4)) (e2 : k2 = (x2 + x5))  : PureCalls prog F.penumbraref05_Add [.agg ([.bool r0.neg, nl r0.num, nl r0.den, .bool r1.neg, nl r1.num, nl r1.den, .bool r2.neg, nl r2.num, nl r2.den]), .agg ([.bool r3.neg, nl r3.num, nl r3.den, .bool r4.neg, nl r4.num, nl r4.den, .bool r5.neg, nl r5.num, nl r5.den])] [.agg ([.bool (decide ((k0).num < 0)), nn (k0).num.natAbs, nn (k0).den, .bool (decide ((k1).num < 0)), nn (k1).num.natAbs, nn (k1).den, .bool (decide ((k2).num < 0)), nn (k2).num.natAbs, nn (k2).den])] := by
  subst e0 e1 e2
  refine symFunc_sound hmix tree_penumbraref05_Add (by kernel_rfl) rfl ?_
  unfold ir_penumbraref05_Add
  simp only [fa_agg, fa_one, fa_nil, List.cons_append, List.nil_append, List.append_nil]
  refine call_step (n_penumbraref03_Add (k0 := (x0 + x3)) (h0.mono (by decide)) (h3.mono (by decide)) rfl) rfl ?_
  simp only [fa_agg, fa_one, fa_nil, List.cons_append, List.nil_append, List.append_nil]
  refine call_step (n_penumbraref03_Add (k0 := (x1 + x4)) (h1.mono (by decide)) (h4.mono (by decide)) rfl) rfl ?_
  simp only [fa_agg, fa_one, fa_nil, List.cons_append, List.nil_append, List.append_nil]
  refine call_step (n_penumbraref03_Add (k0 := (x2 + x5)) (h2.mono (by decide)) (h5.mono (by decide)) rfl) rfl ?_
  simp only [fa_agg, fa_one, fa_nil, List.cons_append, List.nil_append, List.append_nil]
  exact ret_step rfl

theorem n_penumbraref05_Add_0w  {r0 r1 r2 r3 r4 r5 : RR} {x0 x1 x2 x3 x4 x5 : Rat} {k0 k1 k2 : Rat} {L0 L1 L2 L3 L4 L5 : Nat} (h0 : Num L0 r0 x0) (h1 : Num L1 r1 x1) (h2 : Num L2 r2 x2) (h3 : Num L3 r3 x3) (h4 : Num L4 r4 x4) (h5 : Num L5 r5 x5) (hl : L0 ≤ 9000000000 ∧ L1 ≤ 9000000000 ∧ L2 ≤ 9000000000 ∧ L3 ≤ 9000000000 ∧ L4 ≤ 9000000000 ∧ L5 ≤ 9000000000) (e0 : k0 = (x0 + x3)) (e1 : k1 = (x1 + x4)) (e2 : k2 = (x2 + x5))  : PureCalls prog F.penumbraref05_Add [.agg ([.bool r0.neg, nl r0.num, nl r0.den, .bool r1.neg, nl r1.num, nl r1.den, .bool r2.neg, nl r2.num, nl r2.den]), .agg ([.bool r3.neg, nl r3.num, nl r3.den, .bool r4.neg, nl r4.num, nl r4.den, .bool r5.neg, nl r5.num, nl r5.den])] [.agg ([.bool (decide ((k0).num < 0)), nn (k0).num.natAbs, nn (k0).den, .bool (decide ((k1).num < 0)), nn (k1).num.natAbs, nn (k1).den, .bool (decide ((k2).num < 0)), nn (k2).num.natAbs, nn (k2).den])] := n_penumbraref05_Add_0 (h0.mono hl.1) (h1.mono hl.2.1) (h2.mono hl.2.2.1) (h3.mono hl.2.2.2.1) (h4.mono hl.2.2.2.2.1) (h5.mono hl.2.2.2.2.2) e0 e1 e2

theorem n_penumbraref08_At_0  {r0 r1 r2 r3 r4 r5 r6 : RR} {x0 x1 x2 x3 x4 x5 x6 : Rat} {k0 k1 k2 : Rat} (h0 : Num 900000000 r0 x0) (h1 : Num 900000000 r1 x1) (h2 : Num 900000000 r2 x2) (h3 : Num 900000000 r3 x3) (h4 : Num 900000000 r4 x4) (h5 : Num 900000000 r5 x5) (h6 : Num 900000000 r6 x6) (e0 : k0 = (x0 + (x6 * x3))) (e1 : k1 = (x1 + (x6 * x4))) (e2 : k2 = (x2 + (x6 * x5)))  : PureCalls prog F.penumbraref08_At [.agg ([.bool r0.neg, nl r0.num, nl r0.den, .bool r1.neg, nl r1.num, nl r1.den, .bool r2.neg, nl r2.num, nl r2.den]), .agg ([.bool r3.neg, nl r3.num, nl r3.den, .bool r4.neg, nl r4.num, nl r4.den, .bool r5.neg, nl r5.num, nl r5.den]), .agg ([.bool r6.neg, nl r6.num, nl r6.den])] [.agg ([.bool (decide ((k0).num < 0)), nn (k0).num.natAbs, nn (k0).den, .bool (decide ((k1).num < 0)), nn (k1).num.natAbs, nn (k1).den, .bool (decide ((k2).num < 0)), nn (k2).num.natAbs, nn (k2).den])] := by
  subst e0 e1 e2
  refine symFunc_sound hmix tree_penumbraref08_At (by kernel_rfl) rfl ?_
  unfold ir_penumbraref08_At
  simp only [fa_agg, fa_one, fa_nil, List.cons_append, List.nil_append, List.append_nil]
  refine call_step (n_penumbraref05_Scale_0 (k0 := (x6 * x3)) (k1 := (x6 * x4)) (k2 := (x6 * x5)) (h6.mono (by decide)) (h3.mono (by decide)) (h4.mono (by decide)) (h5.mono (by decide)) rfl rfl rfl) rfl ?_
  simp only [fa_agg, fa_one, fa_nil, List.cons_append, List.nil_append, List.append_nil]
  have m366 : Num 1800000000 (cr (x6 * x3)) (x6 * x3) := Num.of (Sm.mul h6.sm h3.sm)
  have m367 : Num 1800000000 (cr (x6 * x4)) (x6 * x4) := Num.of (Sm.mul h6.sm h4.sm)
  have m368 : Num 1800000000 (cr (x6 * x5)) (x6 * x5) := Num.of (Sm.mul h6.sm h5.sm)
  refine call_step (n_penumbraref05_Add_0w (k0 := (x0 + (x6 * x3))) (k1 := (x1 + (x6 * x4))) (k2 := (x2 + (x6 * x5))) h0 h1 h2 m366 m367 m368 (by decide) rfl rfl rfl) rfl ?_
  simp only [fa_agg, fa_one, fa_nil, List.cons_append, List.nil_append, List.append_nil]
  exact ret_step rfl

theorem n_penumbraref08_At_0w  {r0 r1 r2 r3 r4 r5 r6 : RR} {x0 x1 x2 x3 x4 x5 x6 : Rat} {k0 k1 k2 : Rat} {L0 L1 L2 L3 L4 L5 L6 : Nat} (h0 : Num L0 r0 x0) (h1 : Num L1 r1 x1) (h2 : Num L2 r2 x2) (h3 : Num L3 r3 x3) (h4 : Num L4 r4 x4) (h5 : Num L5 r5 x5) (h6 : Num L6 r6 x6) (hl : L0 ≤ 900000000 ∧ L1 ≤ 900000000 ∧ L2 ≤ 900000000 ∧ L3 ≤ 900000000 ∧ L4 ≤ 900000000 ∧ L5 ≤ 900000000 ∧ L6 ≤ 900000000) (e0 : k0 = (x0 + (x6 * x3))) (e1 : k1 = (x1 + (x6 * x4))) (e2 : k2 = (x2 + (x6 * x5)))  : PureCalls prog F.penumbraref08_At [.agg ([.bool r0.neg, nl r0.num, nl r0.den, .bool r1.neg, nl r1.num, nl r1.den, .bool r2.neg, nl r2.num, nl r2.den]), .agg ([.bool r3.neg, nl r3.num, nl r3.den, .bool r4.neg, nl r4.num, nl r4.den, .bool r5.neg, nl r5.num, nl r5.den]), .agg ([.bool r6.neg, nl r6.num, nl r6.den])] [.agg ([.bool (decide ((k0).num < 0)), nn (k0).num.natAbs, nn (k0).den, .bool (decide ((k1).num < 0)), nn (k1).num.natAbs, nn (k1).den, .bool (decide ((k2).num < 0)), nn (k2).num.natAbs, nn (k2).den])] := n_penumbraref08_At_0 (h0.mono hl.1) (h1.mono hl.2.1) (h2.mono hl.2.2.1) (h3.mono hl.2.2.2.1) (h4.mono hl.2.2.2.2.1) (h5.mono hl.2.2.2.2.2.1) (h6.mono hl.2.2.2.2.2.2) e0 e1 e2

theorem n_penumbralaw08_unit_0 {Z0 Z1 : Rat} (Y0 : Z0 = (0 : Rat)) (Y1 : Z1 = (1 : Rat))    : PureCalls prog F.penumbralaw08_unit [] [.agg ([.bool (decide ((Z0).num < 0)), nn (Z0).num.natAbs, nn (Z0).den, .bool (decide ((Z0).num < 0)), nn (Z0).num.natAbs, nn (Z0).den, .bool (decide ((Z0).num < 0)), nn (Z0).num.natAbs, nn (Z0).den, .bool (decide ((Z1).num < 0)), nn (Z1).num.natAbs, nn (Z1).den, .bool (decide ((Z0).num < 0)), nn (Z0).num.natAbs, nn (Z0).den, .bool (decide ((Z0).num < 0)), nn (Z0).num.natAbs, nn (Z0).den, .bool (decide ((Z0).num < 0)), nn (Z0).num.natAbs, nn (Z0).den, .bool (decide ((Z1).num < 0)), nn (Z1).num.natAbs, nn (Z1).den, .bool (decide ((Z0).num < 0)), nn (Z0).num.natAbs, nn (Z0).den])] := by
  refine symFunc_sound hmix tree_penumbralaw08_unit (by kernel_rfl) rfl ?_
  unfold ir_penumbralaw08_unit
  simp only [fa_agg, fa_one, fa_nil, List.cons_append, List.nil_append, List.append_nil]
  refine call_step (n_vec_Of (0) (0) (0) (by decide) (by decide) (by decide) (by decide) (by decide) (by decide) (Y0.trans (by decide +kernel)) (Y0.trans (by decide +kernel)) (Y0.trans (by decide +kernel))) rfl ?_
  simp only [fa_agg, fa_one, fa_nil, List.cons_append, List.nil_append, List.append_nil]
  refine call_step (n_vec_Of (1) (0) (0) (by decide) (by decide) (by decide) (by decide) (by decide) (by decide) (Y1.trans (by decide +kernel)) (Y0.trans (by decide +kernel)) (Y0.trans (by decide +kernel))) rfl ?_
  simp only [fa_agg, fa_one, fa_nil, List.cons_append, List.nil_append, List.append_nil]
  refine call_step (n_vec_Of (0) (1) (0) (by decide) (by decide) (by decide) (by decide) (by decide) (by decide) (Y0.trans (by decide +kernel)) (Y1.trans (by decide +kernel)) (Y0.trans (by decide +kernel))) rfl ?_
  simp only [fa_agg, fa_one, fa_nil, List.cons_append, List.nil_append, List.append_nil]
  exact ret_step rfl

theorem n_tri_Normal_0  {r0 r1 r2 r3 r4 r5 r6 r7 r8 : RR} {x0 x1 x2 x3 x4 x5 x6 x7 x8 : Rat} {k0 k1 k2 : Rat} (h0 : Num 900000000 r0 x0) (h1 : Num 900000000 r1 x1) (h2 : Num 900000000 r2 x2) (h3 : Num 900000000 r3 x3) (h4 : Num 900000000 r4 x4) (h5 : Num 900000000 r5 x5) (h6 : Num 900000000 r6 x6) (h7 : Num 900000000 r7 x7) (h8 : Num 900000000 r8 x8) (e0 : k0 = (((x4 - x1) * (x8 - x2)) - ((x5 - x2) * (x7 - x1)))) (e1 : k1 = (((x5 - x2) * (x6 - x0)) - ((x3 - x0) * (x8 - x2)))) (e2 : k2 = (((x3 - x0) * (x7 - x1)) - ((x4 - x1) * (x6 - x0))))  : PureCalls prog F.tri_Normal [.agg ([.bool r0.neg, nl r0.num, nl r0.den, .bool r1.neg, nl r1.num, nl r1.den, .bool r2.neg, nl r2.num, nl r2.den, .bool r3.neg, nl r3.num, nl r3.den, .bool r4.neg, nl r4.num, nl r4.den, .bool r5.neg, nl r5.num, nl r5.den, .bool r6.neg, nl r6.num, nl r6.den, .bool r7.neg, nl r7.num, nl r7.den, .bool r8.neg, nl r8.num, nl r8.den])] [.agg ([.bool (decide ((k0).num < 0)), nn (k0).num.natAbs, nn (k0).den, .bool (decide ((k1).num < 0)), nn (k1).num.natAbs, nn (k1).den, .bool (decide ((k2).num < 0)), nn (k2).num.natAbs, nn (k2).den])] := by
  subst e0 e1 e2
  refine symFunc_sound hmix tree_tri_Normal (by kernel_rfl) rfl ?_
  unfold ir_tri_Normal
  simp only [fa_agg, fa_one, fa_nil, List.cons_append, List.nil_append, List.append_nil]
  refine call_step (n_tri_sides_0w (k0 := (x3 - x0)) (k1 := (x4 - x1)) (k2 := (x5 - x2)) (k3 := (x6 - x0)) (k4 := (x7 - x1)) (k5 := (x8 - x2)) h0 h1 h2 h3 h4 h5 h6 h7 h8 (by decide) rfl rfl rfl rfl rfl rfl) rfl ?_
  simp only [fa_agg, fa_one, fa_nil, List.cons_append, List.nil_append, List.append_nil]
  have m375 : Num 1800000001 (cr (x3 - x0)) (x3 - x0) := Num.of (Sm.sub h3.sm h0.sm)
  have m376 : Num 1800000001 (cr (x4 - x1)) (x4 - x1) := Num.of (Sm.sub h4.sm h1.sm)
  have m377 : Num 1800000001 (cr (x5 - x2)) (x5 - x2) := Num.of (Sm.sub h5.sm h2.sm)
  have m378 : Num 1800000001 (cr (x6 - x0)) (x6 - x0) := Num.of (Sm.sub h6.sm h0.sm)
  have m379 : Num 1800000001 (cr (x7 - x1)) (x7 - x1) := Num.of (Sm.sub h7.sm h1.sm)
  have m380 : Num 1800000001 (cr (x8 - x2)) (x8 - x2) := Num.of (Sm.sub h8.sm h2.sm)
  refine call_step (n_vec_Cross_0w (k0 := (((x4 - x1) * (x8 - x2)) - ((x5 - x2) * (x7 - x1)))) (k1 := (((x5 - x2) * (x6 - x0)) - ((x3 - x0) * (x8 - x2)))) (k2 := (((x3 - x0) * (x7 - x1)) - ((x4 - x1) * (x6 - x0)))) m375 m376 m377 m378 m379 m380 (by decide) rfl rfl rfl) rfl ?_
  simp only [fa_agg, fa_one, fa_nil, List.cons_append, List.nil_append, List.append_nil]
  exact ret_step rfl

theorem n_tri_Normal_0w  {r0 r1 r2 r3 r4 r5 r6 r7 r8 : RR} {x0 x1 x2 x3 x4 x5 x6 x7 x8 : Rat} {k0 k1 k2 : Rat} {L0 L1 L2 L3 L4 L5 L6 L7 L8 : Nat} (h0 : Num L0 r0 x0) (h1 : Num L1 r1 x1) (h2 : Num L2 r2 x2) (h3 : Num L3 r3 x3) (h4 : Num L4 r4 x4) (h5 : Num L5 r5 x5) (h6 : Num L6 r6 x6) (h7 : Num L7 r7 x7) (h8 : Num L8 r8 x8) (hl : L0 ≤ 900000000 ∧ L1 ≤ 900000000 ∧ L2 ≤ 900000000 ∧ L3 ≤ 900000000 ∧ L4 ≤ 900000000 ∧ L5 ≤ 900000000 ∧ L6 ≤ 900000000 ∧ L7 ≤ 900000000 ∧ L8 ≤ 900000000) (e0 : k0 = (((x4 - x1) * (x8 - x2)) - ((x5 - x2) * (x7 - x1)))) (e1 : k1 = (((x5 - x2) * (x6 - x0)) - ((x3 - x0) * (x8 - x2)))) (e2 : k2 = (((x3 - x0) * (x7 - x1)) - ((x4 - x1) * (x6 - x0))))  : PureCalls prog F.tri_Normal [.agg ([.bool r0.neg, nl r0.num, nl r0.den, .bool r1.neg, nl r1.num, nl r1.den, .bool r2.neg, nl r2.num, nl r2.den, .bool r3.neg, nl r3.num, nl r3.den, .bool r4.neg, nl r4.num, nl r4.den, .bool r5.neg, nl r5.num, nl r5.den, .bool r6.neg, nl r6.num, nl r6.den, .bool r7.neg, nl r7.num, nl r7.den, .bool r8.neg, nl r8.num, nl r8.den])] [.agg ([.bool (decide ((k0).num < 0)), nn (k0).num.natAbs, nn (k0).den, .bool (decide ((k1).num < 0)), nn (k1).num.natAbs, nn (k1).den, .bool (decide ((k2).num < 0)), nn (k2).num.natAbs, nn (k2).den])] := n_tri_Normal_0 (h0.mono hl.1) (h1.mono hl.2.1) (h2.mono hl.2.2.1) (h3.mono hl.2.2.2.1) (h4.mono hl.2.2.2.2.1) (h5.mono hl.2.2.2.2.2.1) (h6.mono hl.2.2.2.2.2.2.1) (h7.mono hl.2.2.2.2.2.2.2.1) (h8.mono hl.2.2.2.2.2.2.2.2) e0 e1 e2

theorem n_vec_Scale_0  {r0 r1 r2 r3 : RR} {x0 x1 x2 x3 : Rat} {k0 k1 k2 : Rat} (h0 : Num 9000000000 r0 x0) (h1 : Num 9000000000 r1 x1) (h2 : Num 9000000000 r2 x2) (h3 : Num 9000000000 r3 x3) (e0 : k0 = (x0 * x1)) (e1 : k1 = (x0 * x2)) (e2 : k2 = (x0 * x3))  : PureCalls prog F.vec_Scale [.agg ([.bool r0.neg, nl r0.num, nl r0.den]), .agg ([.bool r1.neg, nl r1.num, nl r1.den, .bool r2.neg, nl r2.num, nl r2.den, .bool r3.neg, nl r3.num, nl r3.den])] [.agg ([.bool (decide ((k0).num < 0)), nn (k0).num.natAbs, nn (k0).den, .bool (decide ((k1).num < 0)), nn (k1).num.natAbs, nn (k1).den, .bool (decide ((k2).num < 0)), nn (k2).num.natAbs, nn (k2).den])] := by
  subst e0 e1 e2
  refine symFunc_sound hmix tree_vec_Scale (by kernel_rfl) rfl ?_
  unfold ir_vec_Scale
  simp only [fa_agg, fa_one, fa_nil, List.cons_append, List.nil_append, List.append_nil]
  refine primS (rl [r0, r1]) rfl ?_
  refine call_step (n_rat_Product_2 (k0 := (x0 * x1)) (h0.mono (by decide)) (h1.mono (by decide)) rfl) rfl ?_
  simp only [fa_agg, fa_one, fa_nil, List.cons_append, List.nil_append, List.append_nil]
  refine primS (rl [r0, r2]) rfl ?_
  refine call_step (n_rat_Product_2 (k0 := (x0 * x2)) (h0.mono (by decide)) (h2.mono (by decide)) rfl) rfl ?_
  simp only [fa_agg, fa_one, fa_nil, List.cons_append, List.nil_append, List.append_nil]
  refine primS (rl [r0, r3]) rfl ?_
  refine call_step (n_rat_Product_2 (k0 := (x0 * x3)) (h0.mono (by decide)) (h3.mono (by decide)) rfl) rfl ?_
  simp only [fa_agg, fa_one, fa_nil, List.cons_append, List.nil_append, List.append_nil]
  exact ret_step rfl

theorem n_penumbraref05_Is_0  {x0 x1 x2 x3 x4 x5 : Rat} (h0 : Num 9000000000 (cr x0) x0) (h1 : Num 9000000000 (cr x1) x1) (h2 : Num 9000000000 (cr x2) x2) (h3 : Num 9000000000 (cr x3) x3) (h4 : Num 9000000000 (cr x4) x4) (h5 : Num 9000000000 (cr x5) x5)  (c0 : x0 = x3) (c1 : x1 = x4) (c2 : x2 = x5) : PureCalls prog F.penumbraref05_Is [.agg ([.bool (decide ((x0).num < 0)), nn (x0).num.natAbs, nn (x0).den, .bool (decide ((x1).num < 0)), nn (x1).num.natAbs, nn (x1).den, .bool (decide ((x2).num < 0)), nn (x2).num.natAbs, nn (x2).den]), .agg ([.bool (decide ((x3).num < 0)), nn (x3).num.natAbs, nn (x3).den, .bool (decide ((x4).num < 0)), nn (x4).num.natAbs, nn (x4).den, .bool (decide ((x5).num < 0)), nn (x5).num.natAbs, nn (x5).den])] [.one (.bool true)] := by
  refine symFunc_sound hmix tree_penumbraref05_Is (by kernel_rfl) rfl ?_
  unfold ir_penumbraref05_Is
  simp only [fa_agg, fa_one, fa_nil, List.cons_append, List.nil_append, List.append_nil]
  refine call_step (n_penumbraref03_Is_t (h0.mono (by decide)) (h3.mono (by decide)) c0) rfl ?_
  simp only [fa_agg, fa_one, fa_nil, List.cons_append, List.nil_append, List.append_nil]
  refine itT rfl ?_
  refine call_step (n_penumbraref03_Is_t (h1.mono (by decide)) (h4.mono (by decide)) c1) rfl ?_
  simp only [fa_agg, fa_one, fa_nil, List.cons_append, List.nil_append, List.append_nil]
  refine itT rfl ?_
  refine call_step (n_penumbraref03_Is_t (h2.mono (by decide)) (h5.mono (by decide)) c2) rfl ?_
  simp only [fa_agg, fa_one, fa_nil, List.cons_append, List.nil_append, List.append_nil]
  exact ret_step rfl

theorem n_vec_Unit_at0 {Z0 Z1 : Rat} (Y0 : Z0 = (0 : Rat)) (Y1 : Z1 = (1 : Rat)) : PureCalls prog F.vec_Unit [.agg ([.bool (decide ((Z0).num < 0)), nn (Z0).num.natAbs, nn (Z0).den, .bool (decide ((Z0).num < 0)), nn (Z0).num.natAbs, nn (Z0).den, .bool (decide ((Z1).num < 0)), nn (Z1).num.natAbs, nn (Z1).den])] [.agg ([.bool (decide ((Z0).num < 0)), nn (Z0).num.natAbs, nn (Z0).den, .bool (decide ((Z0).num < 0)), nn (Z0).num.natAbs, nn (Z0).den, .bool (decide ((Z1).num < 0)), nn (Z1).num.natAbs, nn (Z1).den]), .agg ([.bool (decide ((Z1).num < 0)), nn (Z1).num.natAbs, nn (Z1).den]), .one (.bool true)] := by
  refine symFunc_sound hmix tree_vec_Unit (by kernel_rfl) rfl ?_
  unfold ir_vec_Unit
  simp only [fa_agg, fa_one, fa_nil, List.cons_append, List.nil_append, List.append_nil]
  have m394 : Num 1 (cr Z0) Z0 := Num.c Y0 (by decide +kernel) (by decide +kernel)
  have m395 : Num 1 (cr Z1) Z1 := Num.c Y1 (by decide +kernel) (by decide +kernel)
  refine call_step (n_vec_Dot_0w (k0 := Z1) m394 m394 m395 m394 m394 m395 (by decide) (by rw [Y1, Y0] <;> decide +kernel)) rfl ?_
  simp only [fa_agg, fa_one, fa_nil, List.cons_append, List.nil_append, List.append_nil]
  refine call_step (n_rat_Sqrt_t (m395.mono (by decide)) 1 1 (by rw [Y1] <;> decide +kernel) (by rw [Y1] <;> decide +kernel) (Y1.trans (by decide +kernel))) rfl ?_
  simp only [fa_agg, fa_one, fa_nil, List.cons_append, List.nil_append, List.append_nil]
  refine call_step (n_rat_Of (1) (1) (by decide) (by decide) (by decide) (by decide) (Y1.trans (by decide +kernel))) rfl ?_
  simp only [fa_agg, fa_one, fa_nil, List.cons_append, List.nil_append, List.append_nil]
  refine call_step (n_rat_Div_f (k0 := Z1) Y0 (m395.mono (by decide)) (m395.mono (by decide)) (by rw [Y1] <;> decide +kernel) (show ¬(Z1 = Z0) by rw [Y1, Y0] <;> decide +kernel)) rfl ?_
  simp only [fa_agg, fa_one, fa_nil, List.cons_append, List.nil_append, List.append_nil]
  refine primS (.bool false) rfl ?_
  refine itF rfl ?_
  refine primS (.bool false) rfl ?_
  refine itF rfl ?_
  refine call_step (n_vec_Scale_0 (k0 := Z0) (k1 := Z0) (k2 := Z1) (m395.mono (by decide)) (m394.mono (by decide)) (m394.mono (by decide)) (m395.mono (by decide)) (by rw [Y0, Y1] <;> decide +kernel) (by rw [Y0, Y1] <;> decide +kernel) (by rw [Y1] <;> decide +kernel)) rfl ?_
  simp only [fa_agg, fa_one, fa_nil, List.cons_append, List.nil_append, List.append_nil]
  exact ret_step rfl

theorem n_tri_Unit_at0 {Z0 Z1_2 Z1 : Rat} (Y0 : Z0 = (0 : Rat)) (Y1_2 : Z1_2 = (1/2 : Rat)) (Y1 : Z1 = (1 : Rat)) : PureCalls prog F.tri_Unit [.agg ([.bool (decide ((Z0).num < 0)), nn (Z0).num.natAbs, nn (Z0).den, .bool (decide ((Z0).num < 0)), nn (Z0).num.natAbs, nn (Z0).den, .bool (decide ((Z0).num < 0)), nn (Z0).num.natAbs, nn (Z0).den, .bool (decide ((Z1).num < 0)), nn (Z1).num.natAbs, nn (Z1).den, .bool (decide ((Z0).num < 0)), nn (Z0).num.natAbs, nn (Z0).den, .bool (decide ((Z0).num < 0)), nn (Z0).num.natAbs, nn (Z0).den, .bool (decide ((Z0).num < 0)), nn (Z0).num.natAbs, nn (Z0).den, .bool (decide ((Z1).num < 0)), nn (Z1).num.natAbs, nn (Z1).den, .bool (decide ((Z0).num < 0)), nn (Z0).num.natAbs, nn (Z0).den])] [.agg ([.bool (decide ((Z0).num < 0)), nn (Z0).num.natAbs, nn (Z0).den, .bool (decide ((Z0).num < 0)), nn (Z0).num.natAbs, nn (Z0).den, .bool (decide ((Z1).num < 0)), nn (Z1).num.natAbs, nn (Z1).den]), .agg ([.bool (decide ((Z1_2).num < 0)), nn (Z1_2).num.natAbs, nn (Z1_2).den]), .one (.bool true)] := by
  refine symFunc_sound hmix tree_tri_Unit (by kernel_rfl) rfl ?_
  unfold ir_tri_Unit
  simp only [fa_agg, fa_one, fa_nil, List.cons_append, List.nil_append, List.append_nil]
  have m392 : Num 1 (cr Z0) Z0 := Num.c Y0 (by decide +kernel) (by decide +kernel)
  have m393 : Num 1 (cr Z1) Z1 := Num.c Y1 (by decide +kernel) (by decide +kernel)
  refine call_step (n_tri_Normal_0w (k0 := Z0) (k1 := Z0) (k2 := Z1) m392 m392 m392 m393 m392 m392 m392 m393 m392 (by decide) (by rw [Y0, Y1] <;> decide +kernel) (by rw [Y0, Y1] <;> decide +kernel) (by rw [Y1, Y0] <;> decide +kernel)) rfl ?_
  simp only [fa_agg, fa_one, fa_nil, List.cons_append, List.nil_append, List.append_nil]
  refine call_step (n_vec_Unit_at0 Y0 Y1) rfl ?_
  simp only [fa_agg, fa_one, fa_nil, List.cons_append, List.nil_append, List.append_nil]
  refine call_step (n_rat_Of (1) (2) (by decide) (by decide) (by decide) (by decide) (Y1_2.trans (by decide +kernel))) rfl ?_
  simp only [fa_agg, fa_one, fa_nil, List.cons_append, List.nil_append, List.append_nil]
  refine primS (rl [(cr Z1), (cr Z1_2)]) rfl ?_
  have m397 : Num 1 (cr Z1_2) Z1_2 := Num.c Y1_2 (by decide +kernel) (by decide +kernel)
  refine call_step (n_rat_Product_2 (k0 := Z1_2) (m393.mono (by decide)) (m397.mono (by decide)) (by rw [Y1_2, Y1] <;> decide +kernel)) rfl ?_
  simp only [fa_agg, fa_one, fa_nil, List.cons_append, List.nil_append, List.append_nil]
  exact ret_step rfl

theorem n_penumbralaw08_fixed : PureCalls prog F.penumbralaw08_fixed [] [.one (.bool true)] := by
  obtain ⟨Zm2, Ym2⟩ := ex_eq (-2 : Rat)
  obtain ⟨Zm1, Ym1⟩ := ex_eq (-1 : Rat)
  obtain ⟨Z0, Y0⟩ := ex_eq (0 : Rat)
  obtain ⟨Z1_4, Y1_4⟩ := ex_eq (1/4 : Rat)
  obtain ⟨Z1_2, Y1_2⟩ := ex_eq (1/2 : Rat)
  obtain ⟨Z1, Y1⟩ := ex_eq (1 : Rat)
  obtain ⟨Z2, Y2⟩ := ex_eq (2 : Rat)
  refine symFunc_sound hmix tree_penumbralaw08_fixed (by kernel_rfl) rfl ?_
  unfold ir_penumbralaw08_fixed
  simp only [fa_agg, fa_one, fa_nil, List.cons_append, List.nil_append, List.append_nil]
  refine call_step (n_rat_Of (1) (4) (by decide) (by decide) (by decide) (by decide) (Y1_4.trans (by decide +kernel))) rfl ?_
  simp only [fa_agg, fa_one, fa_nil, List.cons_append, List.nil_append, List.append_nil]
  refine call_step (n_rat_Of (1) (1) (by decide) (by decide) (by decide) (by decide) (Y1.trans (by decide +kernel))) rfl ?_
  simp only [fa_agg, fa_one, fa_nil, List.cons_append, List.nil_append, List.append_nil]
  refine call_step (n_vec_Of (0) (0) (-2) (by decide) (by decide) (by decide) (by decide) (by decide) (by decide) (Y0.trans (by decide +kernel)) (Y0.trans (by decide +kernel)) (Ym2.trans (by decide +kernel))) rfl ?_
  simp only [fa_agg, fa_one, fa_nil, List.cons_append, List.nil_append, List.append_nil]
  refine call_step (n_penumbralaw08_unit_0 Y0 Y1) rfl ?_
  simp only [fa_agg, fa_one, fa_nil, List.cons_append, List.nil_append, List.append_nil]
  have m387 : Num 1 (cr Z1_4) Z1_4 := Num.c Y1_4 (by decide +kernel) (by decide +kernel)
  have m388 : Num 1 (cr Z1) Z1 := Num.c Y1 (by decide +kernel) (by decide +kernel)
  have m389 : Num 1 (cr Z0) Z0 := Num.c Y0 (by decide +kernel) (by decide +kernel)
  have m390 : Num 1 (cr Zm2) Zm2 := Num.c Ym2 (by decide +kernel) (by decide +kernel)
  refine call_step (n_tri_Hit_4w (k0 := Z2) (k1 := Z1_2) (k2 := Z1_4) (k3 := Z1_4) (k4 := Z1_2) (k5 := Z1_2) Y0 Y1 m387 m387 m388 m389 m389 m390 m389 m389 m389 m388 m389 m389 m389 m388 m389 (by decide) (by rw [Y2, Y1, Y0, Ym2] <;> decide +kernel) (by rw [Y1_2, Y1, Y2] <;> decide +kernel) (by rw [Y1_4, Y1_2, Y0, Ym2, Y1] <;> decide +kernel) (by rw [Y1_4, Y1_2, Y0, Y1, Ym2] <;> decide +kernel) (by rw [Y1_2, Y0, Y1_4, Y1] <;> decide +kernel) (by rw [Y1_2, Y1_4] <;> decide +kernel) (show ¬(Z2 = Z0) by rw [Y2, Y0] <;> decide +kernel) (show ¬(Z1_4 < Z0) by rw [Y1_4, Y0] <;> decide +kernel) (show ¬(Z1_4 < Z0) by rw [Y1_4, Y0] <;> decide +kernel) (show (Z0 < Z1_2) by rw [Y0, Y1_2] <;> decide +kernel) (show ¬(Z1 < Z1_2) by rw [Y1, Y1_2] <;> decide +kernel)) rfl ?_
  simp only [fa_agg, fa_one, fa_nil, List.cons_append, List.nil_append, List.append_nil]
  refine call_step (n_vec_Of (0) (0) (1) (by decide) (by decide) (by decide) (by decide) (by decide) (by decide) (Y0.trans (by decide +kernel)) (Y0.trans (by decide +kernel)) (Y1.trans (by decide +kernel))) rfl ?_
  simp only [fa_agg, fa_one, fa_nil, List.cons_append, List.nil_append, List.append_nil]
  refine call_step (n_penumbralaw08_unit_0 Y0 Y1) rfl ?_
  simp only [fa_agg, fa_one, fa_nil, List.cons_append, List.nil_append, List.append_nil]
  refine call_step (n_tri_Hit_5w (k0 := Zm1) (k1 := Zm1) (k2 := Z1_4) (k3 := Z1_4) (k4 := Zm1) Y0 Y1 m387 m387 m388 m389 m389 m388 m389 m389 m389 m388 m389 m389 m389 m388 m389 (by decide) (by rw [Ym1, Y1, Y0] <;> decide +kernel) (by rw [Ym1, Y1] <;> decide +kernel) (by rw [Y1_4, Ym1, Y0, Y1] <;> decide +kernel) (by rw [Y1_4, Ym1, Y0, Y1] <;> decide +kernel) (by rw [Ym1, Y0, Y1_4, Y1] <;> decide +kernel) (show ¬(Zm1 = Z0) by rw [Ym1, Y0] <;> decide +kernel) (show ¬(Z1_4 < Z0) by rw [Y1_4, Y0] <;> decide +kernel) (show ¬(Z1_4 < Z0) by rw [Y1_4, Y0] <;> decide +kernel) (show ¬(Z0 < Zm1) by rw [Y0, Ym1] <;> decide +kernel)) rfl ?_
  simp only [fa_agg, fa_one, fa_nil, List.cons_append, List.nil_append, List.append_nil]
  refine call_step (n_vec_Of (1) (1) (1) (by decide) (by decide) (by decide) (by decide) (by decide) (by decide) (Y1.trans (by decide +kernel)) (Y1.trans (by decide +kernel)) (Y1.trans (by decide +kernel))) rfl ?_
  simp only [fa_agg, fa_one, fa_nil, List.cons_append, List.nil_append, List.append_nil]
  refine call_step (n_vec_Of (0) (0) (-1) (by decide) (by decide) (by decide) (by decide) (by decide) (by decide) (Y0.trans (by decide +kernel)) (Y0.trans (by decide +kernel)) (Ym1.trans (by decide +kernel))) rfl ?_
  simp only [fa_agg, fa_one, fa_nil, List.cons_append, List.nil_append, List.append_nil]
  refine call_step (n_penumbralaw08_unit_0 Y0 Y1) rfl ?_
  simp only [fa_agg, fa_one, fa_nil, List.cons_append, List.nil_append, List.append_nil]
  have m391 : Num 1 (cr Zm1) Zm1 := Num.c Ym1 (by decide +kernel) (by decide +kernel)
  refine call_step (n_tri_Hit_3w (k0 := Z1) (k1 := Z1) (k2 := Z1) (k3 := Z1) (k4 := Z1) (k5 := Z2) Y0 Y1 m388 m388 m388 m389 m389 m391 m389 m389 m389 m388 m389 m389 m389 m388 m389 (by decide) (by rw [Y1, Y0, Ym1] <;> decide +kernel) (by rw [Y1] <;> decide +kernel) (by rw [Y1, Y0, Ym1] <;> decide +kernel) (by rw [Y1, Y0, Ym1] <;> decide +kernel) (by rw [Y1, Y0] <;> decide +kernel) (by rw [Y2, Y1] <;> decide +kernel) (show ¬(Z1 = Z0) by rw [Y1, Y0] <;> decide +kernel) (show ¬(Z1 < Z0) by rw [Y1, Y0] <;> decide +kernel) (show ¬(Z1 < Z0) by rw [Y1, Y0] <;> decide +kernel) (show (Z0 < Z1) by rw [Y0, Y1] <;> decide +kernel) (show (Z1 < Z2) by rw [Y1, Y2] <;> decide +kernel)) rfl ?_
  simp only [fa_agg, fa_one, fa_nil, List.cons_append, List.nil_append, List.append_nil]
  refine call_step (n_penumbralaw08_unit_0 Y0 Y1) rfl ?_
  simp only [fa_agg, fa_one, fa_nil, List.cons_append, List.nil_append, List.append_nil]
  refine call_step (n_tri_Unit_at0 Y0 Y1_2 Y1) rfl ?_
  simp only [fa_agg, fa_one, fa_nil, List.cons_append, List.nil_append, List.append_nil]
  refine itT rfl ?_
  refine call_step (n_penumbraref03_Of (1) (2) (by decide) (by decide) (by decide) (by decide) (Y1_2.trans (by decide +kernel))) rfl ?_
  simp only [fa_agg, fa_one, fa_nil, List.cons_append, List.nil_append, List.append_nil]
  have m398 : Num 1 (cr Z1_2) Z1_2 := Num.c Y1_2 (by decide +kernel) (by decide +kernel)
  refine call_step (n_penumbraref03_Is_t (m398.mono (by decide)) (m398.mono (by decide)) rfl) rfl ?_
  simp only [fa_agg, fa_one, fa_nil, List.cons_append, List.nil_append, List.append_nil]
  refine itT rfl ?_
  refine call_step (n_penumbraref03_Of (1) (4) (by decide) (by decide) (by decide) (by decide) (Y1_4.trans (by decide +kernel))) rfl ?_
  simp only [fa_agg, fa_one, fa_nil, List.cons_append, List.nil_append, List.append_nil]
  refine call_step (n_penumbraref03_Is_t (m387.mono (by decide)) (m387.mono (by decide)) rfl) rfl ?_
  simp only [fa_agg, fa_one, fa_nil, List.cons_append, List.nil_append, List.append_nil]
  refine itT rfl ?_
  refine call_step (n_penumbraref03_Of (1) (4) (by decide) (by decide) (by decide) (by decide) (Y1_4.trans (by decide +kernel))) rfl ?_
  simp only [fa_agg, fa_one, fa_nil, List.cons_append, List.nil_append, List.append_nil]
  refine call_step (n_penumbraref03_Is_t (m387.mono (by decide)) (m387.mono (by decide)) rfl) rfl ?_
  simp only [fa_agg, fa_one, fa_nil, List.cons_append, List.nil_append, List.append_nil]
  refine itT rfl ?_
  refine primS (.bool true) rfl ?_
  refine itT rfl ?_
  refine primS (.bool true) rfl ?_
  refine itT rfl ?_
  refine itT rfl ?_
  refine call_step (n_penumbraref05_Of (0) (0) (1) (by decide) (by decide) (by decide) (by decide) (by decide) (by decide) (Y0.trans (by decide +kernel)) (Y0.trans (by decide +kernel)) (Y1.trans (by decide +kernel))) rfl ?_
  simp only [fa_agg, fa_one, fa_nil, List.cons_append, List.nil_append, List.append_nil]
  refine call_step (n_penumbraref05_Is_0 (m389.mono (by decide)) (m389.mono (by decide)) (m388.mono (by decide)) (m389.mono (by decide)) (m389.mono (by decide)) (m388.mono (by decide)) rfl rfl rfl) rfl ?_
  simp only [fa_agg, fa_one, fa_nil, List.cons_append, List.nil_append, List.append_nil]
  refine itT rfl ?_
  refine call_step (n_penumbraref03_Of (1) (2) (by decide) (by decide) (by decide) (by decide) (Y1_2.trans (by decide +kernel))) rfl ?_
  simp only [fa_agg, fa_one, fa_nil, List.cons_append, List.nil_append, List.append_nil]
  refine call_step (n_penumbraref03_Is_t (m398.mono (by decide)) (m398.mono (by decide)) rfl) rfl ?_
  simp only [fa_agg, fa_one, fa_nil, List.cons_append, List.nil_append, List.append_nil]
  exact ret_step rfl

theorem n_penumbraref08_Is_0  {x0 x1 x2 x3 x4 x5 : Rat} (h0 : Num 9000000000 (cr x0) x0) (h1 : Num 9000000000 (cr x1) x1) (h2 : Num 9000000000 (cr x2) x2) (h3 : Num 9000000000 (cr x3) x3) (h4 : Num 9000000000 (cr x4) x4) (h5 : Num 9000000000 (cr x5) x5)  (c0 : x0 = x3) (c1 : x1 = x4) (c2 : x2 = x5) : PureCalls prog F.penumbraref08_Is [.agg ([.bool (decide ((x0).num < 0)), nn (x0).num.natAbs, nn (x0).den, .bool (decide ((x1).num < 0)), nn (x1).num.natAbs, nn (x1).den, .bool (decide ((x2).num < 0)), nn (x2).num.natAbs, nn (x2).den]), .agg ([.bool (decide ((x3).num < 0)), nn (x3).num.natAbs, nn (x3).den, .bool (decide ((x4).num < 0)), nn (x4).num.natAbs, nn (x4).den, .bool (decide ((x5).num < 0)), nn (x5).num.natAbs, nn (x5).den])] [.one (.bool true)] := by
  refine symFunc_sound hmix tree_penumbraref08_Is (by kernel_rfl) rfl ?_
  unfold ir_penumbraref08_Is
  simp only [fa_agg, fa_one, fa_nil, List.cons_append, List.nil_append, List.append_nil]
  refine call_step (n_penumbraref03_Is_t (h0.mono (by decide)) (h3.mono (by decide)) c0) rfl ?_
  simp only [fa_agg, fa_one, fa_nil, List.cons_append, List.nil_append, List.append_nil]
  refine itT rfl ?_
  refine call_step (n_penumbraref03_Is_t (h1.mono (by decide)) (h4.mono (by decide)) c1) rfl ?_
  simp only [fa_agg, fa_one, fa_nil, List.cons_append, List.nil_append, List.append_nil]
  refine itT rfl ?_
  refine call_step (n_penumbraref03_Is_t (h2.mono (by decide)) (h5.mono (by decide)) c2) rfl ?_
  simp only [fa_agg, fa_one, fa_nil, List.cons_append, List.nil_append, List.append_nil]
  exact ret_step rfl

end Go.Px.Na

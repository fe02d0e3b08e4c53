/- XTriAims: the trees of functions and their contracts, as programs of mine printed them. -/
import Derived.Test.YtadaibgdeojlmaaLs
import Derived.Test.YtadaibgdeojlmaaPx24
import Derived.Test.YtadaibgdeojlmaaProg
import Derived.Tactics
set_option maxRecDepth 20000
set_option maxHeartbeats 40000000
set_option linter.unusedVariables false
set_option linter.unusedSimpArgs false
namespace Go.Px
open Go.RowKit
def ir_vec_Sub : IR :=
 .call F.rat_Sub [.agg [.var 0, .var 1, .var 2], .agg [.var 9, .var 10, .var 11]] [.agg 3] <|
 .call F.rat_Sub [.agg [.var 3, .var 4, .var 5], .agg [.var 12, .var 13, .var 14]] [.agg 3] <|
 .call F.rat_Sub [.agg [.var 6, .var 7, .var 8], .agg [.var 15, .var 16, .var 17]] [.agg 3] <|
 .ret [.agg [.var 18, .var 19, .var 20, .var 21, .var 22, .var 23, .var 24, .var 25, .var 26]]

def ir_tri_sides : IR :=
 .call F.vec_Sub [.agg [.var 9, .var 10, .var 11, .var 12, .var 13, .var 14, .var 15, .var 16, .var 17], .agg [.var 0, .var 1, .var 2, .var 3, .var 4, .var 5, .var 6, .var 7, .var 8]] [.agg 9] <|
 .call F.vec_Sub [.agg [.var 18, .var 19, .var 20, .var 21, .var 22, .var 23, .var 24, .var 25, .var 26], .agg [.var 0, .var 1, .var 2, .var 3, .var 4, .var 5, .var 6, .var 7, .var 8]] [.agg 9] <|
 .ret [.agg [.var 27, .var 28, .var 29, .var 30, .var 31, .var 32, .var 33, .var 34, .var 35], .agg [.var 36, .var 37, .var 38, .var 39, .var 40, .var 41, .var 42, .var 43, .var 44]]

def ir_vec_Scale : IR :=
 .prim (.mk 2) [.var 0, .var 1, .var 2, .var 3, .var 4, .var 5] <|
 .call F.rat_Product [.one (.var 12)] [.agg 3] <|
 .prim (.mk 2) [.var 0, .var 1, .var 2, .var 6, .var 7, .var 8] <|
 .call F.rat_Product [.one (.var 16)] [.agg 3] <|
 .prim (.mk 2) [.var 0, .var 1, .var 2, .var 9, .var 10, .var 11] <|
 .call F.rat_Product [.one (.var 20)] [.agg 3] <|
 .ret [.agg [.var 13, .var 14, .var 15, .var 17, .var 18, .var 19, .var 21, .var 22, .var 23]]

def ir_tri_Point : IR :=
 .call F.tri_sides [.agg [.var 0, .var 1, .var 2, .var 3, .var 4, .var 5, .var 6, .var 7, .var 8, .var 9, .var 10, .var 11, .var 12, .var 13, .var 14, .var 15, .var 16, .var 17, .var 18, .var 19, .var 20, .var 21, .var 22, .var 23, .var 24, .var 25, .var 26]] [.agg 9, .agg 9] <|
 .call F.vec_Scale [.agg [.var 27, .var 28, .var 29], .agg [.var 33, .var 34, .var 35, .var 36, .var 37, .var 38, .var 39, .var 40, .var 41]] [.agg 9] <|
 .call F.vec_Scale [.agg [.var 30, .var 31, .var 32], .agg [.var 42, .var 43, .var 44, .var 45, .var 46, .var 47, .var 48, .var 49, .var 50]] [.agg 9] <|
 .prim (.mk 3) [.var 0, .var 1, .var 2, .var 3, .var 4, .var 5, .var 6, .var 7, .var 8, .var 51, .var 52, .var 53, .var 54, .var 55, .var 56, .var 57, .var 58, .var 59, .var 60, .var 61, .var 62, .var 63, .var 64, .var 65, .var 66, .var 67, .var 68] <|
 .call F.vec_Sum [.one (.var 69)] [.agg 9] <|
 .ret [.agg [.var 70, .var 71, .var 72, .var 73, .var 74, .var 75, .var 76, .var 77, .var 78]]

def ir_vec_minor : IR :=
 .prim (.mk 2) [.var 0, .var 1, .var 2, .var 9, .var 10, .var 11] <|
 .call F.rat_Product [.one (.var 12)] [.agg 3] <|
 .prim (.mk 2) [.var 3, .var 4, .var 5, .var 6, .var 7, .var 8] <|
 .call F.rat_Product [.one (.var 16)] [.agg 3] <|
 .call F.rat_Sub [.agg [.var 13, .var 14, .var 15], .agg [.var 17, .var 18, .var 19]] [.agg 3] <|
 .ret [.agg [.var 20, .var 21, .var 22]]

def ir_vec_Cross : IR :=
 .call F.vec_minor [.agg [.var 3, .var 4, .var 5], .agg [.var 6, .var 7, .var 8], .agg [.var 12, .var 13, .var 14], .agg [.var 15, .var 16, .var 17]] [.agg 3] <|
 .call F.vec_minor [.agg [.var 6, .var 7, .var 8], .agg [.var 0, .var 1, .var 2], .agg [.var 15, .var 16, .var 17], .agg [.var 9, .var 10, .var 11]] [.agg 3] <|
 .call F.vec_minor [.agg [.var 0, .var 1, .var 2], .agg [.var 3, .var 4, .var 5], .agg [.var 9, .var 10, .var 11], .agg [.var 12, .var 13, .var 14]] [.agg 3] <|
 .ret [.agg [.var 18, .var 19, .var 20, .var 21, .var 22, .var 23, .var 24, .var 25, .var 26]]

def ir_vec_Dot : IR :=
 .prim (.mk 2) [.var 0, .var 1, .var 2, .var 9, .var 10, .var 11] <|
 .call F.rat_Product [.one (.var 18)] [.agg 3] <|
 .prim (.mk 2) [.var 3, .var 4, .var 5, .var 12, .var 13, .var 14] <|
 .call F.rat_Product [.one (.var 22)] [.agg 3] <|
 .prim (.mk 2) [.var 6, .var 7, .var 8, .var 15, .var 16, .var 17] <|
 .call F.rat_Product [.one (.var 26)] [.agg 3] <|
 .prim (.mk 3) [.var 19, .var 20, .var 21, .var 23, .var 24, .var 25, .var 27, .var 28, .var 29] <|
 .call F.rat_Sum [.one (.var 30)] [.agg 3] <|
 .ret [.agg [.var 31, .var 32, .var 33]]

def ir_tri_Hit : IR :=
 .call F.rat_Of [.one (.int .i64 (0)), .one (.int .i64 (1))] [.agg 3] <|
 .call F.tri_sides [.agg [.var 18, .var 19, .var 20, .var 21, .var 22, .var 23, .var 24, .var 25, .var 26, .var 27, .var 28, .var 29, .var 30, .var 31, .var 32, .var 33, .var 34, .var 35, .var 36, .var 37, .var 38, .var 39, .var 40, .var 41, .var 42, .var 43, .var 44]] [.agg 9, .agg 9] <|
 .call F.vec_Cross [.agg [.var 9, .var 10, .var 11, .var 12, .var 13, .var 14, .var 15, .var 16, .var 17], .agg [.var 57, .var 58, .var 59, .var 60, .var 61, .var 62, .var 63, .var 64, .var 65]] [.agg 9] <|
 .call F.vec_Dot [.agg [.var 48, .var 49, .var 50, .var 51, .var 52, .var 53, .var 54, .var 55, .var 56], .agg [.var 66, .var 67, .var 68, .var 69, .var 70, .var 71, .var 72, .var 73, .var 74]] [.agg 3] <|
 .call F.rat_Of [.one (.int .i64 (1)), .one (.int .i64 (1))] [.agg 3] <|
 .call F.rat_Div [.agg [.var 78, .var 79, .var 80], .agg [.var 75, .var 76, .var 77]] [.agg 3, .one] <|
 .prim .not [.var 84] <|
 .ite (.var 85) (
  .ret [.agg [.var 45, .var 46, .var 47, .var 45, .var 46, .var 47, .var 45, .var 46, .var 47], .one (.bol false)]) (
  .call F.vec_Sub [.agg [.var 0, .var 1, .var 2, .var 3, .var 4, .var 5, .var 6, .var 7, .var 8], .agg [.var 18, .var 19, .var 20, .var 21, .var 22, .var 23, .var 24, .var 25, .var 26]] [.agg 9] <|
  .call F.vec_Dot [.agg [.var 86, .var 87, .var 88, .var 89, .var 90, .var 91, .var 92, .var 93, .var 94], .agg [.var 66, .var 67, .var 68, .var 69, .var 70, .var 71, .var 72, .var 73, .var 74]] [.agg 3] <|
  .prim (.mk 2) [.var 81, .var 82, .var 83, .var 95, .var 96, .var 97] <|
  .call F.rat_Product [.one (.var 98)] [.agg 3] <|
  .call F.rat_Sign [.agg [.var 99, .var 100, .var 101]] [.one] <|
  .prim (.bin .lss) [.var 102, .int .i64 (0)] <|
  .ite (.var 103) (
   .ret [.agg [.var 45, .var 46, .var 47, .var 45, .var 46, .var 47, .var 45, .var 46, .var 47], .one (.bol false)]) (
   .call F.vec_Cross [.agg [.var 86, .var 87, .var 88, .var 89, .var 90, .var 91, .var 92, .var 93, .var 94], .agg [.var 48, .var 49, .var 50, .var 51, .var 52, .var 53, .var 54, .var 55, .var 56]] [.agg 9] <|
   .call F.vec_Dot [.agg [.var 9, .var 10, .var 11, .var 12, .var 13, .var 14, .var 15, .var 16, .var 17], .agg [.var 104, .var 105, .var 106, .var 107, .var 108, .var 109, .var 110, .var 111, .var 112]] [.agg 3] <|
   .prim (.mk 2) [.var 81, .var 82, .var 83, .var 113, .var 114, .var 115] <|
   .call F.rat_Product [.one (.var 116)] [.agg 3] <|
   .call F.vec_Dot [.agg [.var 57, .var 58, .var 59, .var 60, .var 61, .var 62, .var 63, .var 64, .var 65], .agg [.var 104, .var 105, .var 106, .var 107, .var 108, .var 109, .var 110, .var 111, .var 112]] [.agg 3] <|
   .prim (.mk 2) [.var 81, .var 82, .var 83, .var 120, .var 121, .var 122] <|
   .call F.rat_Product [.one (.var 123)] [.agg 3] <|
   .call F.rat_Sign [.agg [.var 117, .var 118, .var 119]] [.one] <|
   .prim (.bin .lss) [.var 127, .int .i64 (0)] <|
   .ite (.var 128) (
    .ret [.agg [.var 45, .var 46, .var 47, .var 45, .var 46, .var 47, .var 45, .var 46, .var 47], .one (.bol false)]) (
    .call F.rat_Sign [.agg [.var 124, .var 125, .var 126]] [.one] <|
    .prim (.bin .leq) [.var 129, .int .i64 (0)] <|
    .ite (.var 130) (
     .ret [.agg [.var 45, .var 46, .var 47, .var 45, .var 46, .var 47, .var 45, .var 46, .var 47], .one (.bol false)]) (
     .prim (.mk 2) [.var 99, .var 100, .var 101, .var 117, .var 118, .var 119] <|
     .call F.rat_Sum [.one (.var 131)] [.agg 3] <|
     .call F.rat_Of [.one (.int .i64 (1)), .one (.int .i64 (1))] [.agg 3] <|
     .call F.rat_Cmp [.agg [.var 132, .var 133, .var 134], .agg [.var 135, .var 136, .var 137]] [.one] <|
     .prim (.bin .gtr) [.var 138, .int .i64 (0)] <|
     .ite (.var 139) (
      .ret [.agg [.var 45, .var 46, .var 47, .var 45, .var 46, .var 47, .var 45, .var 46, .var 47], .one (.bol false)]) (
      .ret [.agg [.var 124, .var 125, .var 126, .var 99, .var 100, .var 101, .var 117, .var 118, .var 119], .one (.bol true)])))))

def ir_penumbralaw08_unit : IR :=
 .call F.vec_Of [.one (.int .i64 (0)), .one (.int .i64 (0)), .one (.int .i64 (0))] [.agg 9] <|
 .call F.vec_Of [.one (.int .i64 (1)), .one (.int .i64 (0)), .one (.int .i64 (0))] [.agg 9] <|
 .call F.vec_Of [.one (.int .i64 (0)), .one (.int .i64 (1)), .one (.int .i64 (0))] [.agg 9] <|
 .ret [.agg [.var 0, .var 1, .var 2, .var 3, .var 4, .var 5, .var 6, .var 7, .var 8, .var 9, .var 10, .var 11, .var 12, .var 13, .var 14, .var 15, .var 16, .var 17, .var 18, .var 19, .var 20, .var 21, .var 22, .var 23, .var 24, .var 25, .var 26]]

def ir_tri_Normal : IR :=
 .call F.tri_sides [.agg [.var 0, .var 1, .var 2, .var 3, .var 4, .var 5, .var 6, .var 7, .var 8, .var 9, .var 10, .var 11, .var 12, .var 13, .var 14, .var 15, .var 16, .var 17, .var 18, .var 19, .var 20, .var 21, .var 22, .var 23, .var 24, .var 25, .var 26]] [.agg 9, .agg 9] <|
 .call F.vec_Cross [.agg [.var 27, .var 28, .var 29, .var 30, .var 31, .var 32, .var 33, .var 34, .var 35], .agg [.var 36, .var 37, .var 38, .var 39, .var 40, .var 41, .var 42, .var 43, .var 44]] [.agg 9] <|
 .ret [.agg [.var 45, .var 46, .var 47, .var 48, .var 49, .var 50, .var 51, .var 52, .var 53]]

def ir_vec_Unit : IR :=
 .call F.vec_Dot [.agg [.var 0, .var 1, .var 2, .var 3, .var 4, .var 5, .var 6, .var 7, .var 8], .agg [.var 0, .var 1, .var 2, .var 3, .var 4, .var 5, .var 6, .var 7, .var 8]] [.agg 3] <|
 .call F.rat_Sqrt [.agg [.var 9, .var 10, .var 11]] [.agg 3, .one] <|
 .call F.rat_Of [.one (.int .i64 (1)), .one (.int .i64 (1))] [.agg 3] <|
 .call F.rat_Div [.agg [.var 16, .var 17, .var 18], .agg [.var 12, .var 13, .var 14]] [.agg 3, .one] <|
 .prim .not [.var 15] <|
 .ite (.var 23) (
  .call F.vec_Of [.one (.int .i64 (0)), .one (.int .i64 (0)), .one (.int .i64 (0))] [.agg 9] <|
  .call F.rat_Of [.one (.int .i64 (0)), .one (.int .i64 (1))] [.agg 3] <|
  .ret [.agg [.var 24, .var 25, .var 26, .var 27, .var 28, .var 29, .var 30, .var 31, .var 32], .agg [.var 33, .var 34, .var 35], .one (.bol false)]) (
  .prim .not [.var 22] <|
  .ite (.var 24) (
   .call F.vec_Of [.one (.int .i64 (0)), .one (.int .i64 (0)), .one (.int .i64 (0))] [.agg 9] <|
   .call F.rat_Of [.one (.int .i64 (0)), .one (.int .i64 (1))] [.agg 3] <|
   .ret [.agg [.var 25, .var 26, .var 27, .var 28, .var 29, .var 30, .var 31, .var 32, .var 33], .agg [.var 34, .var 35, .var 36], .one (.bol false)]) (
   .call F.vec_Scale [.agg [.var 19, .var 20, .var 21], .agg [.var 0, .var 1, .var 2, .var 3, .var 4, .var 5, .var 6, .var 7, .var 8]] [.agg 9] <|
   .ret [.agg [.var 25, .var 26, .var 27, .var 28, .var 29, .var 30, .var 31, .var 32, .var 33], .agg [.var 12, .var 13, .var 14], .one (.bol true)]))

def ir_tri_Unit : IR :=
 .call F.tri_Normal [.agg [.var 0, .var 1, .var 2, .var 3, .var 4, .var 5, .var 6, .var 7, .var 8, .var 9, .var 10, .var 11, .var 12, .var 13, .var 14, .var 15, .var 16, .var 17, .var 18, .var 19, .var 20, .var 21, .var 22, .var 23, .var 24, .var 25, .var 26]] [.agg 9] <|
 .call F.vec_Unit [.agg [.var 27, .var 28, .var 29, .var 30, .var 31, .var 32, .var 33, .var 34, .var 35]] [.agg 9, .agg 3, .one] <|
 .call F.rat_Of [.one (.int .i64 (1)), .one (.int .i64 (2))] [.agg 3] <|
 .prim (.mk 2) [.var 45, .var 46, .var 47, .var 49, .var 50, .var 51] <|
 .call F.rat_Product [.one (.var 52)] [.agg 3] <|
 .ret [.agg [.var 36, .var 37, .var 38, .var 39, .var 40, .var 41, .var 42, .var 43, .var 44], .agg [.var 53, .var 54, .var 55], .one (.var 48)]

def ir_penumbraref05_Is : IR :=
 .call F.penumbraref03_Is [.agg [.var 0, .var 1, .var 2], .agg [.var 9, .var 10, .var 11]] [.one] <|
 .ite (.var 18) (
  .call F.penumbraref03_Is [.agg [.var 3, .var 4, .var 5], .agg [.var 12, .var 13, .var 14]] [.one] <|
  .ite (.var 19) (
   .call F.penumbraref03_Is [.agg [.var 6, .var 7, .var 8], .agg [.var 15, .var 16, .var 17]] [.one] <|
   .ret [.one (.var 20)]) (
   .ret [.one (.bol false)])) (
  .ret [.one (.bol false)])

def ir_penumbralaw08_fixed : IR :=
 .call F.rat_Of [.one (.int .i64 (1)), .one (.int .i64 (4))] [.agg 3] <|
 .call F.rat_Of [.one (.int .i64 (1)), .one (.int .i64 (1))] [.agg 3] <|
 .call F.vec_Of [.one (.int .i64 (0)), .one (.int .i64 (0)), .one (.int .i64 (-2))] [.agg 9] <|
 .call F.penumbralaw08_unit [] [.agg 27] <|
 .call F.tri_Hit [.agg [.var 0, .var 1, .var 2, .var 0, .var 1, .var 2, .var 3, .var 4, .var 5], .agg [.var 6, .var 7, .var 8, .var 9, .var 10, .var 11, .var 12, .var 13, .var 14], .agg [.var 15, .var 16, .var 17, .var 18, .var 19, .var 20, .var 21, .var 22, .var 23, .var 24, .var 25, .var 26, .var 27, .var 28, .var 29, .var 30, .var 31, .var 32, .var 33, .var 34, .var 35, .var 36, .var 37, .var 38, .var 39, .var 40, .var 41]] [.agg 9, .one] <|
 .call F.vec_Of [.one (.int .i64 (0)), .one (.int .i64 (0)), .one (.int .i64 (1))] [.agg 9] <|
 .call F.penumbralaw08_unit [] [.agg 27] <|
 .call F.tri_Hit [.agg [.var 0, .var 1, .var 2, .var 0, .var 1, .var 2, .var 3, .var 4, .var 5], .agg [.var 52, .var 53, .var 54, .var 55, .var 56, .var 57, .var 58, .var 59, .var 60], .agg [.var 61, .var 62, .var 63, .var 64, .var 65, .var 66, .var 67, .var 68, .var 69, .var 70, .var 71, .var 72, .var 73, .var 74, .var 75, .var 76, .var 77, .var 78, .var 79, .var 80, .var 81, .var 82, .var 83, .var 84, .var 85, .var 86, .var 87]] [.agg 9, .one] <|
 .call F.vec_Of [.one (.int .i64 (1)), .one (.int .i64 (1)), .one (.int .i64 (1))] [.agg 9] <|
 .call F.vec_Of [.one (.int .i64 (0)), .one (.int .i64 (0)), .one (.int .i64 (-1))] [.agg 9] <|
 .call F.penumbralaw08_unit [] [.agg 27] <|
 .call F.tri_Hit [.agg [.var 98, .var 99, .var 100, .var 101, .var 102, .var 103, .var 104, .var 105, .var 106], .agg [.var 107, .var 108, .var 109, .var 110, .var 111, .var 112, .var 113, .var 114, .var 115], .agg [.var 116, .var 117, .var 118, .var 119, .var 120, .var 121, .var 122, .var 123, .var 124, .var 125, .var 126, .var 127, .var 128, .var 129, .var 130, .var 131, .var 132, .var 133, .var 134, .var 135, .var 136, .var 137, .var 138, .var 139, .var 140, .var 141, .var 142]] [.agg 9, .one] <|
 .call F.penumbralaw08_unit [] [.agg 27] <|
 .call F.tri_Unit [.agg [.var 153, .var 154, .var 155, .var 156, .var 157, .var 158, .var 159, .var 160, .var 161, .var 162, .var 163, .var 164, .var 165, .var 166, .var 167, .var 168, .var 169, .var 170, .var 171, .var 172, .var 173, .var 174, .var 175, .var 176, .var 177, .var 178, .var 179]] [.agg 9, .agg 3, .one] <|
 .ite (.var 51) (
  .call F.penumbraref03_Of [.one (.int .i64 (1)), .one (.int .i64 (2))] [.agg 3] <|
  .call F.penumbraref03_Is [.agg [.var 42, .var 43, .var 44], .agg [.var 193, .var 194, .var 195]] [.one] <|
  .ite (.var 196) (
   .call F.penumbraref03_Of [.one (.int .i64 (1)), .one (.int .i64 (4))] [.agg 3] <|
   .call F.penumbraref03_Is [.agg [.var 45, .var 46, .var 47], .agg [.var 197, .var 198, .var 199]] [.one] <|
   .ite (.var 200) (
    .call F.penumbraref03_Of [.one (.int .i64 (1)), .one (.int .i64 (4))] [.agg 3] <|
    .call F.penumbraref03_Is [.agg [.var 48, .var 49, .var 50], .agg [.var 201, .var 202, .var 203]] [.one] <|
    .ite (.var 204) (
     .prim .not [.var 97] <|
     .ite (.var 205) (
      .prim .not [.var 152] <|
      .ite (.var 206) (
       .ite (.var 192) (
        .call F.penumbraref05_Of [.one (.int .i64 (0)), .one (.int .i64 (0)), .one (.int .i64 (1))] [.agg 9] <|
        .call F.penumbraref05_Is [.agg [.var 180, .var 181, .var 182, .var 183, .var 184, .var 185, .var 186, .var 187, .var 188], .agg [.var 207, .var 208, .var 209, .var 210, .var 211, .var 212, .var 213, .var 214, .var 215]] [.one] <|
        .ite (.var 216) (
         .call F.penumbraref03_Of [.one (.int .i64 (1)), .one (.int .i64 (2))] [.agg 3] <|
         .call F.penumbraref03_Is [.agg [.var 189, .var 190, .var 191], .agg [.var 217, .var 218, .var 219]] [.one] <|
         .ret [.one (.var 220)]) (
         .ret [.one (.bol false)])) (
        .ret [.one (.bol false)])) (
       .ret [.one (.bol false)])) (
      .ret [.one (.bol false)])) (
     .ret [.one (.bol false)])) (
    .ret [.one (.bol false)])) (
   .ret [.one (.bol false)])) (
  .ret [.one (.bol false)])

def ir_tri_At : IR :=
 .call F.vec_Scale [.agg [.var 18, .var 19, .var 20], .agg [.var 9, .var 10, .var 11, .var 12, .var 13, .var 14, .var 15, .var 16, .var 17]] [.agg 9] <|
 .prim (.mk 2) [.var 0, .var 1, .var 2, .var 3, .var 4, .var 5, .var 6, .var 7, .var 8, .var 21, .var 22, .var 23, .var 24, .var 25, .var 26, .var 27, .var 28, .var 29] <|
 .call F.vec_Sum [.one (.var 30)] [.agg 9] <|
 .ret [.agg [.var 31, .var 32, .var 33, .var 34, .var 35, .var 36, .var 37, .var 38, .var 39]]

def ir_penumbralaw08_TriAims : IR :=
 .call F.rat_Of [.one (.int .i64 (1)), .one (.int .i64 (1))] [.agg 3] <|
 .call F.rat_Sign [.agg [.var 36, .var 37, .var 38]] [.one] <|
 .prim (.bin .geq) [.var 48, .int .i64 (0)] <|
 .ite (.var 49) (
  .call F.rat_Sign [.agg [.var 39, .var 40, .var 41]] [.one] <|
  .prim (.bin .geq) [.var 50, .int .i64 (0)] <|
  .ite (.var 51) (
   .prim (.mk 2) [.var 36, .var 37, .var 38, .var 39, .var 40, .var 41] <|
   .call F.rat_Sum [.one (.var 52)] [.agg 3] <|
   .call F.rat_Cmp [.agg [.var 53, .var 54, .var 55], .agg [.var 45, .var 46, .var 47]] [.one] <|
   .prim (.bin .leq) [.var 56, .int .i64 (0)] <|
   .call F.tri_Point [.agg [.var 9, .var 10, .var 11, .var 12, .var 13, .var 14, .var 15, .var 16, .var 17, .var 18, .var 19, .var 20, .var 21, .var 22, .var 23, .var 24, .var 25, .var 26, .var 27, .var 28, .var 29, .var 30, .var 31, .var 32, .var 33, .var 34, .var 35], .agg [.var 36, .var 37, .var 38], .agg [.var 39, .var 40, .var 41]] [.agg 9] <|
   .call F.vec_Sub [.agg [.var 58, .var 59, .var 60, .var 61, .var 62, .var 63, .var 64, .var 65, .var 66], .agg [.var 0, .var 1, .var 2, .var 3, .var 4, .var 5, .var 6, .var 7, .var 8]] [.agg 9] <|
   .call F.vec_Scale [.agg [.var 42, .var 43, .var 44], .agg [.var 67, .var 68, .var 69, .var 70, .var 71, .var 72, .var 73, .var 74, .var 75]] [.agg 9] <|
   .call F.tri_Hit [.agg [.var 0, .var 1, .var 2, .var 3, .var 4, .var 5, .var 6, .var 7, .var 8], .agg [.var 76, .var 77, .var 78, .var 79, .var 80, .var 81, .var 82, .var 83, .var 84], .agg [.var 9, .var 10, .var 11, .var 12, .var 13, .var 14, .var 15, .var 16, .var 17, .var 18, .var 19, .var 20, .var 21, .var 22, .var 23, .var 24, .var 25, .var 26, .var 27, .var 28, .var 29, .var 30, .var 31, .var 32, .var 33, .var 34, .var 35]] [.agg 9, .one] <|
   .call F.penumbralaw08_fixed [] [.one] <|
   .prim .not [.var 95] <|
   .ite (.var 96) (
    .ret [.one (.bol false)]) (
    .ite (.var 94) (
     .call F.tri_At [.agg [.var 0, .var 1, .var 2, .var 3, .var 4, .var 5, .var 6, .var 7, .var 8], .agg [.var 76, .var 77, .var 78, .var 79, .var 80, .var 81, .var 82, .var 83, .var 84], .agg [.var 85, .var 86, .var 87]] [.agg 9] <|
     .call F.tri_Point [.agg [.var 9, .var 10, .var 11, .var 12, .var 13, .var 14, .var 15, .var 16, .var 17, .var 18, .var 19, .var 20, .var 21, .var 22, .var 23, .var 24, .var 25, .var 26, .var 27, .var 28, .var 29, .var 30, .var 31, .var 32, .var 33, .var 34, .var 35], .agg [.var 88, .var 89, .var 90], .agg [.var 91, .var 92, .var 93]] [.agg 9] <|
     .call F.penumbraref05_Is [.agg [.var 97, .var 98, .var 99, .var 100, .var 101, .var 102, .var 103, .var 104, .var 105], .agg [.var 106, .var 107, .var 108, .var 109, .var 110, .var 111, .var 112, .var 113, .var 114]] [.one] <|
     .prim .not [.var 115] <|
     .ite (.var 116) (
      .ret [.one (.bol false)]) (
      .call F.tri_Normal [.agg [.var 9, .var 10, .var 11, .var 12, .var 13, .var 14, .var 15, .var 16, .var 17, .var 18, .var 19, .var 20, .var 21, .var 22, .var 23, .var 24, .var 25, .var 26, .var 27, .var 28, .var 29, .var 30, .var 31, .var 32, .var 33, .var 34, .var 35]] [.agg 9] <|
      .call F.vec_Sub [.agg [.var 58, .var 59, .var 60, .var 61, .var 62, .var 63, .var 64, .var 65, .var 66], .agg [.var 0, .var 1, .var 2, .var 3, .var 4, .var 5, .var 6, .var 7, .var 8]] [.agg 9] <|
      .call F.vec_Dot [.agg [.var 117, .var 118, .var 119, .var 120, .var 121, .var 122, .var 123, .var 124, .var 125], .agg [.var 126, .var 127, .var 128, .var 129, .var 130, .var 131, .var 132, .var 133, .var 134]] [.agg 3] <|
      .call F.rat_Sign [.agg [.var 135, .var 136, .var 137]] [.one] <|
      .prim (.bin .neq) [.var 138, .int .i64 (0)] <|
      .prim .not [.var 139] <|
      .ite (.var 140) (
       .prim .not [.var 94] <|
       .ret [.one (.var 141)]) (
       .call F.rat_Sign [.agg [.var 42, .var 43, .var 44]] [.one] <|
       .prim (.bin .leq) [.var 141, .int .i64 (0)] <|
       .ite (.var 142) (
        .prim .not [.var 94] <|
        .ret [.one (.var 143)]) (
        .call F.rat_Div [.agg [.var 45, .var 46, .var 47], .agg [.var 42, .var 43, .var 44]] [.agg 3, .one] <|
        .prim (.beq false) [.var 94, .var 57] <|
        .ite (.var 147) (
         .prim .not [.var 94] <|
         .ite (.var 148) (
          .ret [.one (.bol true)]) (
          .call F.rat_Read [.agg [.var 36, .var 37, .var 38]] [.agg 3] <|
          .call F.penumbraref03_Is [.agg [.var 88, .var 89, .var 90], .agg [.var 149, .var 150, .var 151]] [.one] <|
          .ite (.var 152) (
           .call F.rat_Read [.agg [.var 39, .var 40, .var 41]] [.agg 3] <|
           .call F.penumbraref03_Is [.agg [.var 91, .var 92, .var 93], .agg [.var 153, .var 154, .var 155]] [.one] <|
           .ite (.var 156) (
            .call F.penumbraref03_Is [.agg [.var 85, .var 86, .var 87], .agg [.var 143, .var 144, .var 145]] [.one] <|
            .ret [.one (.var 157)]) (
            .ret [.one (.bol false)])) (
           .ret [.one (.bol false)]))) (
         .ret [.one (.bol false)]))))) (
     .call F.tri_Normal [.agg [.var 9, .var 10, .var 11, .var 12, .var 13, .var 14, .var 15, .var 16, .var 17, .var 18, .var 19, .var 20, .var 21, .var 22, .var 23, .var 24, .var 25, .var 26, .var 27, .var 28, .var 29, .var 30, .var 31, .var 32, .var 33, .var 34, .var 35]] [.agg 9] <|
     .call F.vec_Sub [.agg [.var 58, .var 59, .var 60, .var 61, .var 62, .var 63, .var 64, .var 65, .var 66], .agg [.var 0, .var 1, .var 2, .var 3, .var 4, .var 5, .var 6, .var 7, .var 8]] [.agg 9] <|
     .call F.vec_Dot [.agg [.var 97, .var 98, .var 99, .var 100, .var 101, .var 102, .var 103, .var 104, .var 105], .agg [.var 106, .var 107, .var 108, .var 109, .var 110, .var 111, .var 112, .var 113, .var 114]] [.agg 3] <|
     .call F.rat_Sign [.agg [.var 115, .var 116, .var 117]] [.one] <|
     .prim (.bin .neq) [.var 118, .int .i64 (0)] <|
     .prim .not [.var 119] <|
     .ite (.var 120) (
      .prim .not [.var 94] <|
      .ret [.one (.var 121)]) (
      .call F.rat_Sign [.agg [.var 42, .var 43, .var 44]] [.one] <|
      .prim (.bin .leq) [.var 121, .int .i64 (0)] <|
      .ite (.var 122) (
       .prim .not [.var 94] <|
       .ret [.one (.var 123)]) (
       .call F.rat_Div [.agg [.var 45, .var 46, .var 47], .agg [.var 42, .var 43, .var 44]] [.agg 3, .one] <|
       .prim (.beq false) [.var 94, .var 57] <|
       .ite (.var 127) (
        .prim .not [.var 94] <|
        .ite (.var 128) (
         .ret [.one (.bol true)]) (
         .call F.rat_Read [.agg [.var 36, .var 37, .var 38]] [.agg 3] <|
         .call F.penumbraref03_Is [.agg [.var 88, .var 89, .var 90], .agg [.var 129, .var 130, .var 131]] [.one] <|
         .ite (.var 132) (
          .call F.rat_Read [.agg [.var 39, .var 40, .var 41]] [.agg 3] <|
          .call F.penumbraref03_Is [.agg [.var 91, .var 92, .var 93], .agg [.var 133, .var 134, .var 135]] [.one] <|
          .ite (.var 136) (
           .call F.penumbraref03_Is [.agg [.var 85, .var 86, .var 87], .agg [.var 123, .var 124, .var 125]] [.one] <|
           .ret [.one (.var 137)]) (
           .ret [.one (.bol false)])) (
          .ret [.one (.bol false)]))) (
        .ret [.one (.bol false)])))))) (
   .call F.tri_Point [.agg [.var 9, .var 10, .var 11, .var 12, .var 13, .var 14, .var 15, .var 16, .var 17, .var 18, .var 19, .var 20, .var 21, .var 22, .var 23, .var 24, .var 25, .var 26, .var 27, .var 28, .var 29, .var 30, .var 31, .var 32, .var 33, .var 34, .var 35], .agg [.var 36, .var 37, .var 38], .agg [.var 39, .var 40, .var 41]] [.agg 9] <|
   .call F.vec_Sub [.agg [.var 52, .var 53, .var 54, .var 55, .var 56, .var 57, .var 58, .var 59, .var 60], .agg [.var 0, .var 1, .var 2, .var 3, .var 4, .var 5, .var 6, .var 7, .var 8]] [.agg 9] <|
   .call F.vec_Scale [.agg [.var 42, .var 43, .var 44], .agg [.var 61, .var 62, .var 63, .var 64, .var 65, .var 66, .var 67, .var 68, .var 69]] [.agg 9] <|
   .call F.tri_Hit [.agg [.var 0, .var 1, .var 2, .var 3, .var 4, .var 5, .var 6, .var 7, .var 8], .agg [.var 70, .var 71, .var 72, .var 73, .var 74, .var 75, .var 76, .var 77, .var 78], .agg [.var 9, .var 10, .var 11, .var 12, .var 13, .var 14, .var 15, .var 16, .var 17, .var 18, .var 19, .var 20, .var 21, .var 22, .var 23, .var 24, .var 25, .var 26, .var 27, .var 28, .var 29, .var 30, .var 31, .var 32, .var 33, .var 34, .var 35]] [.agg 9, .one] <|
   .call F.penumbralaw08_fixed [] [.one] <|
   .prim .not [.var 89] <|
   .ite (.var 90) (
    .ret [.one (.bol false)]) (
    .ite (.var 88) (
     .call F.tri_At [.agg [.var 0, .var 1, .var 2, .var 3, .var 4, .var 5, .var 6, .var 7, .var 8], .agg [.var 70, .var 71, .var 72, .var 73, .var 74, .var 75, .var 76, .var 77, .var 78], .agg [.var 79, .var 80, .var 81]] [.agg 9] <|
     .call F.tri_Point [.agg [.var 9, .var 10, .var 11, .var 12, .var 13, .var 14, .var 15, .var 16, .var 17, .var 18, .var 19, .var 20, .var 21, .var 22, .var 23, .var 24, .var 25, .var 26, .var 27, .var 28, .var 29, .var 30, .var 31, .var 32, .var 33, .var 34, .var 35], .agg [.var 82, .var 83, .var 84], .agg [.var 85, .var 86, .var 87]] [.agg 9] <|
     .call F.penumbraref05_Is [.agg [.var 91, .var 92, .var 93, .var 94, .var 95, .var 96, .var 97, .var 98, .var 99], .agg [.var 100, .var 101, .var 102, .var 103, .var 104, .var 105, .var 106, .var 107, .var 108]] [.one] <|
     .prim .not [.var 109] <|
     .ite (.var 110) (
      .ret [.one (.bol false)]) (
      .call F.tri_Normal [.agg [.var 9, .var 10, .var 11, .var 12, .var 13, .var 14, .var 15, .var 16, .var 17, .var 18, .var 19, .var 20, .var 21, .var 22, .var 23, .var 24, .var 25, .var 26, .var 27, .var 28, .var 29, .var 30, .var 31, .var 32, .var 33, .var 34, .var 35]] [.agg 9] <|
      .call F.vec_Sub [.agg [.var 52, .var 53, .var 54, .var 55, .var 56, .var 57, .var 58, .var 59, .var 60], .agg [.var 0, .var 1, .var 2, .var 3, .var 4, .var 5, .var 6, .var 7, .var 8]] [.agg 9] <|
      .call F.vec_Dot [.agg [.var 111, .var 112, .var 113, .var 114, .var 115, .var 116, .var 117, .var 118, .var 119], .agg [.var 120, .var 121, .var 122, .var 123, .var 124, .var 125, .var 126, .var 127, .var 128]] [.agg 3] <|
      .call F.rat_Sign [.agg [.var 129, .var 130, .var 131]] [.one] <|
      .prim (.bin .neq) [.var 132, .int .i64 (0)] <|
      .prim .not [.var 133] <|
      .ite (.var 134) (
       .prim .not [.var 88] <|
       .ret [.one (.var 135)]) (
       .call F.rat_Sign [.agg [.var 42, .var 43, .var 44]] [.one] <|
       .prim (.bin .leq) [.var 135, .int .i64 (0)] <|
       .ite (.var 136) (
        .prim .not [.var 88] <|
        .ret [.one (.var 137)]) (
        .call F.rat_Div [.agg [.var 45, .var 46, .var 47], .agg [.var 42, .var 43, .var 44]] [.agg 3, .one] <|
        .prim (.beq false) [.var 88, .bol false] <|
        .ite (.var 141) (
         .prim .not [.var 88] <|
         .ite (.var 142) (
          .ret [.one (.bol true)]) (
          .call F.rat_Read [.agg [.var 36, .var 37, .var 38]] [.agg 3] <|
          .call F.penumbraref03_Is [.agg [.var 82, .var 83, .var 84], .agg [.var 143, .var 144, .var 145]] [.one] <|
          .ite (.var 146) (
           .call F.rat_Read [.agg [.var 39, .var 40, .var 41]] [.agg 3] <|
           .call F.penumbraref03_Is [.agg [.var 85, .var 86, .var 87], .agg [.var 147, .var 148, .var 149]] [.one] <|
           .ite (.var 150) (
            .call F.penumbraref03_Is [.agg [.var 79, .var 80, .var 81], .agg [.var 137, .var 138, .var 139]] [.one] <|
            .ret [.one (.var 151)]) (
            .ret [.one (.bol false)])) (
           .ret [.one (.bol false)]))) (
         .ret [.one (.bol false)]))))) (
     .call F.tri_Normal [.agg [.var 9, .var 10, .var 11, .var 12, .var 13, .var 14, .var 15, .var 16, .var 17, .var 18, .var 19, .var 20, .var 21, .var 22, .var 23, .var 24, .var 25, .var 26, .var 27, .var 28, .var 29, .var 30, .var 31, .var 32, .var 33, .var 34, .var 35]] [.agg 9] <|
     .call F.vec_Sub [.agg [.var 52, .var 53, .var 54, .var 55, .var 56, .var 57, .var 58, .var 59, .var 60], .agg [.var 0, .var 1, .var 2, .var 3, .var 4, .var 5, .var 6, .var 7, .var 8]] [.agg 9] <|
     .call F.vec_Dot [.agg [.var 91, .var 92, .var 93, .var 94, .var 95, .var 96, .var 97, .var 98, .var 99], .agg [.var 100, .var 101, .var 102, .var 103, .var 104, .var 105, .var 106, .var 107, .var 108]] [.agg 3] <|
     .call F.rat_Sign [.agg [.var 109, .var 110, .var 111]] [.one] <|
     .prim (.bin .neq) [.var 112, .int .i64 (0)] <|
     .prim .not [.var 113] <|
     .ite (.var 114) (
      .prim .not [.var 88] <|
      .ret [.one (.var 115)]) (
      .call F.rat_Sign [.agg [.var 42, .var 43, .var 44]] [.one] <|
      .prim (.bin .leq) [.var 115, .int .i64 (0)] <|
      .ite (.var 116) (
       .prim .not [.var 88] <|
       .ret [.one (.var 117)]) (
       .call F.rat_Div [.agg [.var 45, .var 46, .var 47], .agg [.var 42, .var 43, .var 44]] [.agg 3, .one] <|
       .prim (.beq false) [.var 88, .bol false] <|
       .ite (.var 121) (
        .prim .not [.var 88] <|
        .ite (.var 122) (
         .ret [.one (.bol true)]) (
         .call F.rat_Read [.agg [.var 36, .var 37, .var 38]] [.agg 3] <|
         .call F.penumbraref03_Is [.agg [.var 82, .var 83, .var 84], .agg [.var 123, .var 124, .var 125]] [.one] <|
         .ite (.var 126) (
          .call F.rat_Read [.agg [.var 39, .var 40, .var 41]] [.agg 3] <|
          .call F.penumbraref03_Is [.agg [.var 85, .var 86, .var 87], .agg [.var 127, .var 128, .var 129]] [.one] <|
          .ite (.var 130) (
           .call F.penumbraref03_Is [.agg [.var 79, .var 80, .var 81], .agg [.var 117, .var 118, .var 119]] [.one] <|
           .ret [.one (.var 131)]) (
           .ret [.one (.bol false)])) (
          .ret [.one (.bol false)]))) (
        .ret [.one (.bol false)]))))))) (
  .call F.tri_Point [.agg [.var 9, .var 10, .var 11, .var 12, .var 13, .var 14, .var 15, .var 16, .var 17, .var 18, .var 19, .var 20, .var 21, .var 22, .var 23, .var 24, .var 25, .var 26, .var 27, .var 28, .var 29, .var 30, .var 31, .var 32, .var 33, .var 34, .var 35], .agg [.var 36, .var 37, .var 38], .agg [.var 39, .var 40, .var 41]] [.agg 9] <|
  .call F.vec_Sub [.agg [.var 50, .var 51, .var 52, .var 53, .var 54, .var 55, .var 56, .var 57, .var 58], .agg [.var 0, .var 1, .var 2, .var 3, .var 4, .var 5, .var 6, .var 7, .var 8]] [.agg 9] <|
  .call F.vec_Scale [.agg [.var 42, .var 43, .var 44], .agg [.var 59, .var 60, .var 61, .var 62, .var 63, .var 64, .var 65, .var 66, .var 67]] [.agg 9] <|
  .call F.tri_Hit [.agg [.var 0, .var 1, .var 2, .var 3, .var 4, .var 5, .var 6, .var 7, .var 8], .agg [.var 68, .var 69, .var 70, .var 71, .var 72, .var 73, .var 74, .var 75, .var 76], .agg [.var 9, .var 10, .var 11, .var 12, .var 13, .var 14, .var 15, .var 16, .var 17, .var 18, .var 19, .var 20, .var 21, .var 22, .var 23, .var 24, .var 25, .var 26, .var 27, .var 28, .var 29, .var 30, .var 31, .var 32, .var 33, .var 34, .var 35]] [.agg 9, .one] <|
  .call F.penumbralaw08_fixed [] [.one] <|
  .prim .not [.var 87] <|
  .ite (.var 88) (
   .ret [.one (.bol false)]) (
   .ite (.var 86) (
    .call F.tri_At [.agg [.var 0, .var 1, .var 2, .var 3, .var 4, .var 5, .var 6, .var 7, .var 8], .agg [.var 68, .var 69, .var 70, .var 71, .var 72, .var 73, .var 74, .var 75, .var 76], .agg [.var 77, .var 78, .var 79]] [.agg 9] <|
    .call F.tri_Point [.agg [.var 9, .var 10, .var 11, .var 12, .var 13, .var 14, .var 15, .var 16, .var 17, .var 18, .var 19, .var 20, .var 21, .var 22, .var 23, .var 24, .var 25, .var 26, .var 27, .var 28, .var 29, .var 30, .var 31, .var 32, .var 33, .var 34, .var 35], .agg [.var 80, .var 81, .var 82], .agg [.var 83, .var 84, .var 85]] [.agg 9] <|
    .call F.penumbraref05_Is [.agg [.var 89, .var 90, .var 91, .var 92, .var 93, .var 94, .var 95, .var 96, .var 97], .agg [.var 98, .var 99, .var 100, .var 101, .var 102, .var 103, .var 104, .var 105, .var 106]] [.one] <|
    .prim .not [.var 107] <|
    .ite (.var 108) (
     .ret [.one (.bol false)]) (
     .call F.tri_Normal [.agg [.var 9, .var 10, .var 11, .var 12, .var 13, .var 14, .var 15, .var 16, .var 17, .var 18, .var 19, .var 20, .var 21, .var 22, .var 23, .var 24, .var 25, .var 26, .var 27, .var 28, .var 29, .var 30, .var 31, .var 32, .var 33, .var 34, .var 35]] [.agg 9] <|
     .call F.vec_Sub [.agg [.var 50, .var 51, .var 52, .var 53, .var 54, .var 55, .var 56, .var 57, .var 58], .agg [.var 0, .var 1, .var 2, .var 3, .var 4, .var 5, .var 6, .var 7, .var 8]] [.agg 9] <|
     .call F.vec_Dot [.agg [.var 109, .var 110, .var 111, .var 112, .var 113, .var 114, .var 115, .var 116, .var 117], .agg [.var 118, .var 119, .var 120, .var 121, .var 122, .var 123, .var 124, .var 125, .var 126]] [.agg 3] <|
     .call F.rat_Sign [.agg [.var 127, .var 128, .var 129]] [.one] <|
     .prim (.bin .neq) [.var 130, .int .i64 (0)] <|
     .prim .not [.var 131] <|
     .ite (.var 132) (
      .prim .not [.var 86] <|
      .ret [.one (.var 133)]) (
      .call F.rat_Sign [.agg [.var 42, .var 43, .var 44]] [.one] <|
      .prim (.bin .leq) [.var 133, .int .i64 (0)] <|
      .ite (.var 134) (
       .prim .not [.var 86] <|
       .ret [.one (.var 135)]) (
       .call F.rat_Div [.agg [.var 45, .var 46, .var 47], .agg [.var 42, .var 43, .var 44]] [.agg 3, .one] <|
       .prim (.beq false) [.var 86, .bol false] <|
       .ite (.var 139) (
        .prim .not [.var 86] <|
        .ite (.var 140) (
         .ret [.one (.bol true)]) (
         .call F.rat_Read [.agg [.var 36, .var 37, .var 38]] [.agg 3] <|
         .call F.penumbraref03_Is [.agg [.var 80, .var 81, .var 82], .agg [.var 141, .var 142, .var 143]] [.one] <|
         .ite (.var 144) (
          .call F.rat_Read [.agg [.var 39, .var 40, .var 41]] [.agg 3] <|
          .call F.penumbraref03_Is [.agg [.var 83, .var 84, .var 85], .agg [.var 145, .var 146, .var 147]] [.one] <|
          .ite (.var 148) (
           .call F.penumbraref03_Is [.agg [.var 77, .var 78, .var 79], .agg [.var 135, .var 136, .var 137]] [.one] <|
           .ret [.one (.var 149)]) (
           .ret [.one (.bol false)])) (
          .ret [.one (.bol false)]))) (
        .ret [.one (.bol false)]))))) (
    .call F.tri_Normal [.agg [.var 9, .var 10, .var 11, .var 12, .var 13, .var 14, .var 15, .var 16, .var 17, .var 18, .var 19, .var 20, .var 21, .var 22, .var 23, .var 24, .var 25, .var 26, .var 27, .var 28, .var 29, .var 30, .var 31, .var 32, .var 33, .var 34, .var 35]] [.agg 9] <|
    .call F.vec_Sub [.agg [.var 50, .var 51, .var 52, .var 53, .var 54, .var 55, .var 56, .var 57, .var 58], .agg [.var 0, .var 1, .var 2, .var 3, .var 4, .var 5, .var 6, .var 7, .var 8]] [.agg 9] <|
    .call F.vec_Dot [.agg [.var 89, .var 90, .var 91, .var 92, .var 93, .var 94, .var 95, .var 96, .var 97], .agg [.var 98, .var 99, .var 100, .var 101, .var 102, .var 103, .var 104, .var 105, .var 106]] [.agg 3] <|
    .call F.rat_Sign [.agg [.var 107, .var 108, .var 109]] [.one] <|
    .prim (.bin .neq) [.var 110, .int .i64 (0)] <|
    .prim .not [.var 111] <|
    .ite (.var 112) (
     .prim .not [.var 86] <|
     .ret [.one (.var 113)]) (
     .call F.rat_Sign [.agg [.var 42, .var 43, .var 44]] [.one] <|
     .prim (.bin .leq) [.var 113, .int .i64 (0)] <|
     .ite (.var 114) (
      .prim .not [.var 86] <|
      .ret [.one (.var 115)]) (
      .call F.rat_Div [.agg [.var 45, .var 46, .var 47], .agg [.var 42, .var 43, .var 44]] [.agg 3, .one] <|
      .prim (.beq false) [.var 86, .bol false] <|
      .ite (.var 119) (
       .prim .not [.var 86] <|
       .ite (.var 120) (
        .ret [.one (.bol true)]) (
        .call F.rat_Read [.agg [.var 36, .var 37, .var 38]] [.agg 3] <|
        .call F.penumbraref03_Is [.agg [.var 80, .var 81, .var 82], .agg [.var 121, .var 122, .var 123]] [.one] <|
        .ite (.var 124) (
         .call F.rat_Read [.agg [.var 39, .var 40, .var 41]] [.agg 3] <|
         .call F.penumbraref03_Is [.agg [.var 83, .var 84, .var 85], .agg [.var 125, .var 126, .var 127]] [.one] <|
         .ite (.var 128) (
          .call F.penumbraref03_Is [.agg [.var 77, .var 78, .var 79], .agg [.var 115, .var 116, .var 117]] [.one] <|
          .ret [.one (.var 129)]) (
          .ret [.one (.bol false)])) (
         .ret [.one (.bol false)]))) (
       .ret [.one (.bol false)]))))))

theorem tree_vec_Sub : symFunc Go.Proofs.Try.prog H0 400 F.vec_Sub [.agg 9, .agg 9] = some ir_vec_Sub := by kernel_rfl
theorem tree_tri_sides : symFunc Go.Proofs.Try.prog H0 400 F.tri_sides [.agg 27] = some ir_tri_sides := by kernel_rfl
theorem tree_vec_Scale : symFunc Go.Proofs.Try.prog H0 400 F.vec_Scale [.agg 3, .agg 9] = some ir_vec_Scale := by kernel_rfl
theorem tree_tri_Point : symFunc Go.Proofs.Try.prog H0 400 F.tri_Point [.agg 27, .agg 3, .agg 3] = some ir_tri_Point := by kernel_rfl
theorem tree_vec_minor : symFunc Go.Proofs.Try.prog H0 400 F.vec_minor [.agg 3, .agg 3, .agg 3, .agg 3] = some ir_vec_minor := by kernel_rfl
theorem tree_vec_Cross : symFunc Go.Proofs.Try.prog H0 400 F.vec_Cross [.agg 9, .agg 9] = some ir_vec_Cross := by kernel_rfl
theorem tree_vec_Dot : symFunc Go.Proofs.Try.prog H0 400 F.vec_Dot [.agg 9, .agg 9] = some ir_vec_Dot := by kernel_rfl
theorem tree_tri_Hit : symFunc Go.Proofs.Try.prog H0 400 F.tri_Hit [.agg 9, .agg 9, .agg 27] = some ir_tri_Hit := by kernel_rfl
theorem tree_penumbralaw08_unit : symFunc Go.Proofs.Try.prog H0 400 F.penumbralaw08_unit [] = some ir_penumbralaw08_unit := by kernel_rfl
theorem tree_tri_Normal : symFunc Go.Proofs.Try.prog H0 400 F.tri_Normal [.agg 27] = some ir_tri_Normal := by kernel_rfl
theorem tree_vec_Unit : symFunc Go.Proofs.Try.prog H0 400 F.vec_Unit [.agg 9] = some ir_vec_Unit := by kernel_rfl
theorem tree_tri_Unit : symFunc Go.Proofs.Try.prog H0 400 F.tri_Unit [.agg 27] = some ir_tri_Unit := by kernel_rfl
theorem tree_penumbraref05_Is : symFunc Go.Proofs.Try.prog H0 400 F.penumbraref05_Is [.agg 9, .agg 9] = some ir_penumbraref05_Is := by kernel_rfl
theorem tree_penumbralaw08_fixed : symFunc Go.Proofs.Try.prog H0 400 F.penumbralaw08_fixed [] = some ir_penumbralaw08_fixed := by kernel_rfl
theorem tree_tri_At : symFunc Go.Proofs.Try.prog H0 400 F.tri_At [.agg 9, .agg 9, .agg 3] = some ir_tri_At := by kernel_rfl
theorem tree_penumbralaw08_TriAims : symFunc Go.Proofs.Try.prog H0 400 F.penumbralaw08_TriAims [.agg 9, .agg 27, .agg 9] = some ir_penumbralaw08_TriAims := by kernel_rfl
end Go.Px
namespace Go.Px.Na
open Go.RowKit
open Go.Proofs.Try (prog)

theorem n_vec_Sub_0  {r0 r1 r2 r3 r4 r5 : RR} {x0 x1 x2 x3 x4 x5 : Rat} {k0 k1 k2 : Rat} (h0 : Num 9000000000 r0 x0) (h1 : Num 9000000000 r1 x1) (h2 : Num 9000000000 r2 x2) (h3 : Num 9000000000 r3 x3) (h4 : Num 9000000000 r4 x4) (h5 : Num 9000000000 r5 x5) (e0 : k0 = (x0 - x3)) (e1 : k1 = (x1 - x4)) (e2 : k2 = (x2 - x5))  : PureCalls prog F.vec_Sub [.agg ([.bool r0.neg, nl r0.num, nl r0.den, .bool r1.neg, nl r1.num, nl r1.den, .bool r2.neg, nl r2.num, nl r2.den]), .agg ([.bool r3.neg, nl r3.num, nl r3.den, .bool r4.neg, nl r4.num, nl r4.den, .bool r5.neg, nl r5.num, nl r5.den])] [.agg ([.bool (decide ((k0).num < 0)), nn (k0).num.natAbs, nn (k0).den, .bool (decide ((k1).num < 0)), nn (k1).num.natAbs, nn (k1).den, .bool (decide ((k2).num < 0)), nn (k2).num.natAbs, nn (k2).den])] := by
  subst e0 e1 e2
  refine symFunc_sound hmix tree_vec_Sub (by kernel_rfl) rfl ?_
  unfold ir_vec_Sub
  simp only [fa_agg, fa_one, fa_nil, List.cons_append, List.nil_append, List.append_nil]
  refine call_step (n_rat_Sub (k0 := (x0 - x3)) (h0.mono (by decide)) (h3.mono (by decide)) rfl) rfl ?_
  simp only [fa_agg, fa_one, fa_nil, List.cons_append, List.nil_append, List.append_nil]
  refine call_step (n_rat_Sub (k0 := (x1 - x4)) (h1.mono (by decide)) (h4.mono (by decide)) rfl) rfl ?_
  simp only [fa_agg, fa_one, fa_nil, List.cons_append, List.nil_append, List.append_nil]
  refine call_step (n_rat_Sub (k0 := (x2 - x5)) (h2.mono (by decide)) (h5.mono (by decide)) rfl) rfl ?_
  simp only [fa_agg, fa_one, fa_nil, List.cons_append, List.nil_append, List.append_nil]
  exact ret_step rfl

theorem n_tri_sides_0  {r0 r1 r2 r3 r4 r5 r6 r7 r8 : RR} {x0 x1 x2 x3 x4 x5 x6 x7 x8 : Rat} {k0 k1 k2 k3 k4 k5 : Rat} (h0 : Num 9000000000 r0 x0) (h1 : Num 9000000000 r1 x1) (h2 : Num 9000000000 r2 x2) (h3 : Num 9000000000 r3 x3) (h4 : Num 9000000000 r4 x4) (h5 : Num 9000000000 r5 x5) (h6 : Num 9000000000 r6 x6) (h7 : Num 9000000000 r7 x7) (h8 : Num 9000000000 r8 x8) (e0 : k0 = (x3 - x0)) (e1 : k1 = (x4 - x1)) (e2 : k2 = (x5 - x2)) (e3 : k3 = (x6 - x0)) (e4 : k4 = (x7 - x1)) (e5 : k5 = (x8 - x2))  : PureCalls prog F.tri_sides [.agg ([.bool r0.neg, nl r0.num, nl r0.den, .bool r1.neg, nl r1.num, nl r1.den, .bool r2.neg, nl r2.num, nl r2.den, .bool r3.neg, nl r3.num, nl r3.den, .bool r4.neg, nl r4.num, nl r4.den, .bool r5.neg, nl r5.num, nl r5.den, .bool r6.neg, nl r6.num, nl r6.den, .bool r7.neg, nl r7.num, nl r7.den, .bool r8.neg, nl r8.num, nl r8.den])] [.agg ([.bool (decide ((k0).num < 0)), nn (k0).num.natAbs, nn (k0).den, .bool (decide ((k1).num < 0)), nn (k1).num.natAbs, nn (k1).den, .bool (decide ((k2).num < 0)), nn (k2).num.natAbs, nn (k2).den]), .agg ([.bool (decide ((k3).num < 0)), nn (k3).num.natAbs, nn (k3).den, .bool (decide ((k4).num < 0)), nn (k4).num.natAbs, nn (k4).den, .bool (decide ((k5).num < 0)), nn (k5).num.natAbs, nn (k5).den])] := by
  subst e0 e1 e2 e3 e4 e5
  refine symFunc_sound hmix tree_tri_sides (by kernel_rfl) rfl ?_
  unfold ir_tri_sides
  simp only [fa_agg, fa_one, fa_nil, List.cons_append, List.nil_append, List.append_nil]
  refine call_step (n_vec_Sub_0 (k0 := (x3 - x0)) (k1 := (x4 - x1)) (k2 := (x5 - x2)) (h3.mono (by decide)) (h4.mono (by decide)) (h5.mono (by decide)) (h0.mono (by decide)) (h1.mono (by decide)) (h2.mono (by decide)) rfl rfl rfl) rfl ?_
  simp only [fa_agg, fa_one, fa_nil, List.cons_append, List.nil_append, List.append_nil]
  refine call_step (n_vec_Sub_0 (k0 := (x6 - x0)) (k1 := (x7 - x1)) (k2 := (x8 - x2)) (h6.mono (by decide)) (h7.mono (by decide)) (h8.mono (by decide)) (h0.mono (by decide)) (h1.mono (by decide)) (h2.mono (by decide)) rfl rfl rfl) rfl ?_
  simp only [fa_agg, fa_one, fa_nil, List.cons_append, List.nil_append, List.append_nil]
  exact ret_step rfl

theorem n_vec_Scale_0  {r0 r1 r2 r3 : RR} {x0 x1 x2 x3 : Rat} {k0 k1 k2 : Rat} (h0 : Num 9000000000 r0 x0) (h1 : Num 9000000000 r1 x1) (h2 : Num 9000000000 r2 x2) (h3 : Num 9000000000 r3 x3) (e0 : k0 = (x0 * x1)) (e1 : k1 = (x0 * x2)) (e2 : k2 = (x0 * x3))  : PureCalls prog F.vec_Scale [.agg ([.bool r0.neg, nl r0.num, nl r0.den]), .agg ([.bool r1.neg, nl r1.num, nl r1.den, .bool r2.neg, nl r2.num, nl r2.den, .bool r3.neg, nl r3.num, nl r3.den])] [.agg ([.bool (decide ((k0).num < 0)), nn (k0).num.natAbs, nn (k0).den, .bool (decide ((k1).num < 0)), nn (k1).num.natAbs, nn (k1).den, .bool (decide ((k2).num < 0)), nn (k2).num.natAbs, nn (k2).den])] := by
  subst e0 e1 e2
  refine symFunc_sound hmix tree_vec_Scale (by kernel_rfl) rfl ?_
  unfold ir_vec_Scale
  simp only [fa_agg, fa_one, fa_nil, List.cons_append, List.nil_append, List.append_nil]
  refine primS (rl [r0, r1]) rfl ?_
  refine call_step (n_rat_Product_2 (k0 := (x0 * x1)) (h0.mono (by decide)) (h1.mono (by decide)) rfl) rfl ?_
  simp only [fa_agg, fa_one, fa_nil, List.cons_append, List.nil_append, List.append_nil]
  refine primS (rl [r0, r2]) rfl ?_
  refine call_step (n_rat_Product_2 (k0 := (x0 * x2)) (h0.mono (by decide)) (h2.mono (by decide)) rfl) rfl ?_
  simp only [fa_agg, fa_one, fa_nil, List.cons_append, List.nil_append, List.append_nil]
  refine primS (rl [r0, r3]) rfl ?_
  refine call_step (n_rat_Product_2 (k0 := (x0 * x3)) (h0.mono (by decide)) (h3.mono (by decide)) rfl) rfl ?_
  simp only [fa_agg, fa_one, fa_nil, List.cons_append, List.nil_append, List.append_nil]
  exact ret_step rfl

theorem n_tri_Point_0  {r0 r1 r2 r3 r4 r5 r6 r7 r8 r9 r10 : RR} {x0 x1 x2 x3 x4 x5 x6 x7 x8 x9 x10 : Rat} {k0 k1 k2 : Rat} (h0 : Num 900000000 r0 x0) (h1 : Num 900000000 r1 x1) (h2 : Num 900000000 r2 x2) (h3 : Num 900000000 r3 x3) (h4 : Num 900000000 r4 x4) (h5 : Num 900000000 r5 x5) (h6 : Num 900000000 r6 x6) (h7 : Num 900000000 r7 x7) (h8 : Num 900000000 r8 x8) (h9 : Num 900000000 r9 x9) (h10 : Num 900000000 r10 x10) (e0 : k0 = ((x0 + (x9 * (x3 - x0))) + (x10 * (x6 - x0)))) (e1 : k1 = ((x1 + (x9 * (x4 - x1))) + (x10 * (x7 - x1)))) (e2 : k2 = ((x2 + (x9 * (x5 - x2))) + (x10 * (x8 - x2))))  : PureCalls prog F.tri_Point [.agg ([.bool r0.neg, nl r0.num, nl r0.den, .bool r1.neg, nl r1.num, nl r1.den, .bool r2.neg, nl r2.num, nl r2.den, .bool r3.neg, nl r3.num, nl r3.den, .bool r4.neg, nl r4.num, nl r4.den, .bool r5.neg, nl r5.num, nl r5.den, .bool r6.neg, nl r6.num, nl r6.den, .bool r7.neg, nl r7.num, nl r7.den, .bool r8.neg, nl r8.num, nl r8.den]), .agg ([.bool r9.neg, nl r9.num, nl r9.den]), .agg ([.bool r10.neg, nl r10.num, nl r10.den])] [.agg ([.bool (decide ((k0).num < 0)), nn (k0).num.natAbs, nn (k0).den, .bool (decide ((k1).num < 0)), nn (k1).num.natAbs, nn (k1).den, .bool (decide ((k2).num < 0)), nn (k2).num.natAbs, nn (k2).den])] := by
  subst e0 e1 e2
  refine symFunc_sound hmix tree_tri_Point (by kernel_rfl) rfl ?_
  unfold ir_tri_Point
  simp only [fa_agg, fa_one, fa_nil, List.cons_append, List.nil_append, List.append_nil]
  refine call_step (n_tri_sides_0 (k0 := (x3 - x0)) (k1 := (x4 - x1)) (k2 := (x5 - x2)) (k3 := (x6 - x0)) (k4 := (x7 - x1)) (k5 := (x8 - x2)) (h0.mono (by decide)) (h1.mono (by decide)) (h2.mono (by decide)) (h3.mono (by decide)) (h4.mono (by decide)) (h5.mono (by decide)) (h6.mono (by decide)) (h7.mono (by decide)) (h8.mono (by decide)) rfl rfl rfl rfl rfl rfl) rfl ?_
  simp only [fa_agg, fa_one, fa_nil, List.cons_append, List.nil_append, List.append_nil]
  have m20 : Num 1800000001 (cr (x3 - x0)) (x3 - x0) := Num.of (Sm.sub h3.sm h0.sm)
  have m21 : Num 1800000001 (cr (x4 - x1)) (x4 - x1) := Num.of (Sm.sub h4.sm h1.sm)
  have m22 : Num 1800000001 (cr (x5 - x2)) (x5 - x2) := Num.of (Sm.sub h5.sm h2.sm)
  refine call_step (n_vec_Scale_0 (k0 := (x9 * (x3 - x0))) (k1 := (x9 * (x4 - x1))) (k2 := (x9 * (x5 - x2))) (h9.mono (by decide)) (m20.mono (by decide)) (m21.mono (by decide)) (m22.mono (by decide)) rfl rfl rfl) rfl ?_
  simp only [fa_agg, fa_one, fa_nil, List.cons_append, List.nil_append, List.append_nil]
  have m23 : Num 1800000001 (cr (x6 - x0)) (x6 - x0) := Num.of (Sm.sub h6.sm h0.sm)
  have m24 : Num 1800000001 (cr (x7 - x1)) (x7 - x1) := Num.of (Sm.sub h7.sm h1.sm)
  have m25 : Num 1800000001 (cr (x8 - x2)) (x8 - x2) := Num.of (Sm.sub h8.sm h2.sm)
  refine call_step (n_vec_Scale_0 (k0 := (x10 * (x6 - x0))) (k1 := (x10 * (x7 - x1))) (k2 := (x10 * (x8 - x2))) (h10.mono (by decide)) (m23.mono (by decide)) (m24.mono (by decide)) (m25.mono (by decide)) rfl rfl rfl) rfl ?_
  simp only [fa_agg, fa_one, fa_nil, List.cons_append, List.nil_append, List.append_nil]
  refine primS (rl3 [(r0, r1, r2), ((cr (x9 * (x3 - x0))), (cr (x9 * (x4 - x1))), (cr (x9 * (x5 - x2)))), ((cr (x10 * (x6 - x0))), (cr (x10 * (x7 - x1))), (cr (x10 * (x8 - x2))))]) rfl ?_
  have m27 : Num 2700000001 (cr (x9 * (x3 - x0))) (x9 * (x3 - x0)) := Num.of (Sm.mul h9.sm m20.sm)
  have m28 : Num 2700000001 (cr (x9 * (x4 - x1))) (x9 * (x4 - x1)) := Num.of (Sm.mul h9.sm m21.sm)
  have m29 : Num 2700000001 (cr (x9 * (x5 - x2))) (x9 * (x5 - x2)) := Num.of (Sm.mul h9.sm m22.sm)
  have m30 : Num 2700000001 (cr (x10 * (x6 - x0))) (x10 * (x6 - x0)) := Num.of (Sm.mul h10.sm m23.sm)
  have m31 : Num 2700000001 (cr (x10 * (x7 - x1))) (x10 * (x7 - x1)) := Num.of (Sm.mul h10.sm m24.sm)
  have m32 : Num 2700000001 (cr (x10 * (x8 - x2))) (x10 * (x8 - x2)) := Num.of (Sm.mul h10.sm m25.sm)
  refine call_step (n_vec_Sum_3 (o0 := ((x0 + (x9 * (x3 - x0))) + (x10 * (x6 - x0)))) (o1 := ((x1 + (x9 * (x4 - x1))) + (x10 * (x7 - x1)))) (o2 := ((x2 + (x9 * (x5 - x2))) + (x10 * (x8 - x2)))) (h0.mono (by decide)) (h1.mono (by decide)) (h2.mono (by decide)) (m27.mono (by decide)) (m28.mono (by decide)) (m29.mono (by decide)) (m30.mono (by decide)) (m31.mono (by decide)) (m32.mono (by decide)) rfl rfl rfl) rfl ?_
  simp only [fa_agg, fa_one, fa_nil, List.cons_append, List.nil_append, List.append_nil]
  exact ret_step rfl

theorem n_vec_minor_0  {r0 r1 r2 r3 : RR} {x0 x1 x2 x3 : Rat} {k0 : Rat} (h0 : Num 9000000000 r0 x0) (h1 : Num 9000000000 r1 x1) (h2 : Num 9000000000 r2 x2) (h3 : Num 9000000000 r3 x3) (e0 : k0 = ((x0 * x3) - (x1 * x2)))  : PureCalls prog F.vec_minor [.agg ([.bool r0.neg, nl r0.num, nl r0.den]), .agg ([.bool r1.neg, nl r1.num, nl r1.den]), .agg ([.bool r2.neg, nl r2.num, nl r2.den]), .agg ([.bool r3.neg, nl r3.num, nl r3.den])] [.agg ([.bool (decide ((k0).num < 0)), nn (k0).num.natAbs, nn (k0).den])] := by
  subst e0
  refine symFunc_sound hmix tree_vec_minor (by kernel_rfl) rfl ?_
  unfold ir_vec_minor
  simp only [fa_agg, fa_one, fa_nil, List.cons_append, List.nil_append, List.append_nil]
  refine primS (rl [r0, r3]) rfl ?_
  refine call_step (n_rat_Product_2 (k0 := (x0 * x3)) (h0.mono (by decide)) (h3.mono (by decide)) rfl) rfl ?_
  simp only [fa_agg, fa_one, fa_nil, List.cons_append, List.nil_append, List.append_nil]
  refine primS (rl [r1, r2]) rfl ?_
  refine call_step (n_rat_Product_2 (k0 := (x1 * x2)) (h1.mono (by decide)) (h2.mono (by decide)) rfl) rfl ?_
  simp only [fa_agg, fa_one, fa_nil, List.cons_append, List.nil_append, List.append_nil]
  have m39 : Num 18000000000 (cr (x0 * x3)) (x0 * x3) := Num.of (Sm.mul h0.sm h3.sm)
  have m40 : Num 18000000000 (cr (x1 * x2)) (x1 * x2) := Num.of (Sm.mul h1.sm h2.sm)
  refine call_step (n_rat_Sub (k0 := ((x0 * x3) - (x1 * x2))) (m39.mono (by decide)) (m40.mono (by decide)) rfl) rfl ?_
  simp only [fa_agg, fa_one, fa_nil, List.cons_append, List.nil_append, List.append_nil]
  exact ret_step rfl

theorem n_vec_Cross_0  {r0 r1 r2 r3 r4 r5 : RR} {x0 x1 x2 x3 x4 x5 : Rat} {k0 k1 k2 : Rat} (h0 : Num 9000000000 r0 x0) (h1 : Num 9000000000 r1 x1) (h2 : Num 9000000000 r2 x2) (h3 : Num 9000000000 r3 x3) (h4 : Num 9000000000 r4 x4) (h5 : Num 9000000000 r5 x5) (e0 : k0 = ((x1 * x5) - (x2 * x4))) (e1 : k1 = ((x2 * x3) - (x0 * x5))) (e2 : k2 = ((x0 * x4) - (x1 * x3)))  : PureCalls prog F.vec_Cross [.agg ([.bool r0.neg, nl r0.num, nl r0.den, .bool r1.neg, nl r1.num, nl r1.den, .bool r2.neg, nl r2.num, nl r2.den]), .agg ([.bool r3.neg, nl r3.num, nl r3.den, .bool r4.neg, nl r4.num, nl r4.den, .bool r5.neg, nl r5.num, nl r5.den])] [.agg ([.bool (decide ((k0).num < 0)), nn (k0).num.natAbs, nn (k0).den, .bool (decide ((k1).num < 0)), nn (k1).num.natAbs, nn (k1).den, .bool (decide ((k2).num < 0)), nn (k2).num.natAbs, nn (k2).den])] := by
  subst e0 e1 e2
  refine symFunc_sound hmix tree_vec_Cross (by kernel_rfl) rfl ?_
  unfold ir_vec_Cross
  simp only [fa_agg, fa_one, fa_nil, List.cons_append, List.nil_append, List.append_nil]
  refine call_step (n_vec_minor_0 (k0 := ((x1 * x5) - (x2 * x4))) (h1.mono (by decide)) (h2.mono (by decide)) (h4.mono (by decide)) (h5.mono (by decide)) rfl) rfl ?_
  simp only [fa_agg, fa_one, fa_nil, List.cons_append, List.nil_append, List.append_nil]
  refine call_step (n_vec_minor_0 (k0 := ((x2 * x3) - (x0 * x5))) (h2.mono (by decide)) (h0.mono (by decide)) (h5.mono (by decide)) (h3.mono (by decide)) rfl) rfl ?_
  simp only [fa_agg, fa_one, fa_nil, List.cons_append, List.nil_append, List.append_nil]
  refine call_step (n_vec_minor_0 (k0 := ((x0 * x4) - (x1 * x3))) (h0.mono (by decide)) (h1.mono (by decide)) (h3.mono (by decide)) (h4.mono (by decide)) rfl) rfl ?_
  simp only [fa_agg, fa_one, fa_nil, List.cons_append, List.nil_append, List.append_nil]
  exact ret_step rfl

theorem n_vec_Dot_0  {r0 r1 r2 r3 r4 r5 : RR} {x0 x1 x2 x3 x4 x5 : Rat} {k0 : Rat} (h0 : Num 9000000000 r0 x0) (h1 : Num 9000000000 r1 x1) (h2 : Num 9000000000 r2 x2) (h3 : Num 9000000000 r3 x3) (h4 : Num 9000000000 r4 x4) (h5 : Num 9000000000 r5 x5) (e0 : k0 = (((x0 * x3) + (x1 * x4)) + (x2 * x5)))  : PureCalls prog F.vec_Dot [.agg ([.bool r0.neg, nl r0.num, nl r0.den, .bool r1.neg, nl r1.num, nl r1.den, .bool r2.neg, nl r2.num, nl r2.den]), .agg ([.bool r3.neg, nl r3.num, nl r3.den, .bool r4.neg, nl r4.num, nl r4.den, .bool r5.neg, nl r5.num, nl r5.den])] [.agg ([.bool (decide ((k0).num < 0)), nn (k0).num.natAbs, nn (k0).den])] := by
  subst e0
  refine symFunc_sound hmix tree_vec_Dot (by kernel_rfl) rfl ?_
  unfold ir_vec_Dot
  simp only [fa_agg, fa_one, fa_nil, List.cons_append, List.nil_append, List.append_nil]
  refine primS (rl [r0, r3]) rfl ?_
  refine call_step (n_rat_Product_2 (k0 := (x0 * x3)) (h0.mono (by decide)) (h3.mono (by decide)) rfl) rfl ?_
  simp only [fa_agg, fa_one, fa_nil, List.cons_append, List.nil_append, List.append_nil]
  refine primS (rl [r1, r4]) rfl ?_
  refine call_step (n_rat_Product_2 (k0 := (x1 * x4)) (h1.mono (by decide)) (h4.mono (by decide)) rfl) rfl ?_
  simp only [fa_agg, fa_one, fa_nil, List.cons_append, List.nil_append, List.append_nil]
  refine primS (rl [r2, r5]) rfl ?_
  refine call_step (n_rat_Product_2 (k0 := (x2 * x5)) (h2.mono (by decide)) (h5.mono (by decide)) rfl) rfl ?_
  simp only [fa_agg, fa_one, fa_nil, List.cons_append, List.nil_append, List.append_nil]
  refine primS (rl [(cr (x0 * x3)), (cr (x1 * x4)), (cr (x2 * x5))]) rfl ?_
  have m52 : Num 18000000000 (cr (x0 * x3)) (x0 * x3) := Num.of (Sm.mul h0.sm h3.sm)
  have m53 : Num 18000000000 (cr (x1 * x4)) (x1 * x4) := Num.of (Sm.mul h1.sm h4.sm)
  have m54 : Num 18000000000 (cr (x2 * x5)) (x2 * x5) := Num.of (Sm.mul h2.sm h5.sm)
  refine call_step (n_rat_Sum_3 (k0 := (((x0 * x3) + (x1 * x4)) + (x2 * x5))) (m52.mono (by decide)) (m53.mono (by decide)) (m54.mono (by decide)) rfl) rfl ?_
  simp only [fa_agg, fa_one, fa_nil, List.cons_append, List.nil_append, List.append_nil]
  exact ret_step rfl

theorem n_tri_Hit_0 {Z0 Z1 : Rat} (Y0 : Z0 = (0 : Rat)) (Y1 : Z1 = (1 : Rat)) {r0 r1 r2 r3 r4 r5 r6 r7 r8 r9 r10 r11 r12 r13 r14 : RR} {x0 x1 x2 x3 x4 x5 x6 x7 x8 x9 x10 x11 x12 x13 x14 : Rat} {k0 : Rat} (h0 : Num 90000000 r0 x0) (h1 : Num 90000000 r1 x1) (h2 : Num 90000000 r2 x2) (h3 : Num 90000000 r3 x3) (h4 : Num 90000000 r4 x4) (h5 : Num 90000000 r5 x5) (h6 : Num 90000000 r6 x6) (h7 : Num 90000000 r7 x7) (h8 : Num 90000000 r8 x8) (h9 : Num 90000000 r9 x9) (h10 : Num 90000000 r10 x10) (h11 : Num 90000000 r11 x11) (h12 : Num 90000000 r12 x12) (h13 : Num 90000000 r13 x13) (h14 : Num 90000000 r14 x14) (e0 : k0 = ((((x9 - x6) * ((x4 * (x14 - x8)) - (x5 * (x13 - x7)))) + ((x10 - x7) * ((x5 * (x12 - x6)) - (x3 * (x14 - x8))))) + ((x11 - x8) * ((x3 * (x13 - x7)) - (x4 * (x12 - x6)))))) (c0 : k0 = Z0) : PureCalls prog F.tri_Hit [.agg ([.bool r0.neg, nl r0.num, nl r0.den, .bool r1.neg, nl r1.num, nl r1.den, .bool r2.neg, nl r2.num, nl r2.den]), .agg ([.bool r3.neg, nl r3.num, nl r3.den, .bool r4.neg, nl r4.num, nl r4.den, .bool r5.neg, nl r5.num, nl r5.den]), .agg ([.bool r6.neg, nl r6.num, nl r6.den, .bool r7.neg, nl r7.num, nl r7.den, .bool r8.neg, nl r8.num, nl r8.den, .bool r9.neg, nl r9.num, nl r9.den, .bool r10.neg, nl r10.num, nl r10.den, .bool r11.neg, nl r11.num, nl r11.den, .bool r12.neg, nl r12.num, nl r12.den, .bool r13.neg, nl r13.num, nl r13.den, .bool r14.neg, nl r14.num, nl r14.den])] [.agg ([.bool (decide ((Z0).num < 0)), nn (Z0).num.natAbs, nn (Z0).den, .bool (decide ((Z0).num < 0)), nn (Z0).num.natAbs, nn (Z0).den, .bool (decide ((Z0).num < 0)), nn (Z0).num.natAbs, nn (Z0).den]), .one (.bool false)] := by
  subst e0
  refine symFunc_sound hmix tree_tri_Hit (by kernel_rfl) rfl ?_
  unfold ir_tri_Hit
  simp only [fa_agg, fa_one, fa_nil, List.cons_append, List.nil_append, List.append_nil]
  refine call_step (n_rat_Of (0) (1) (by decide) (by decide) (by decide) (by decide) (Y0.trans (by decide +kernel))) rfl ?_
  simp only [fa_agg, fa_one, fa_nil, List.cons_append, List.nil_append, List.append_nil]
  refine call_step (n_tri_sides_0 (k0 := (x9 - x6)) (k1 := (x10 - x7)) (k2 := (x11 - x8)) (k3 := (x12 - x6)) (k4 := (x13 - x7)) (k5 := (x14 - x8)) (h6.mono (by decide)) (h7.mono (by decide)) (h8.mono (by decide)) (h9.mono (by decide)) (h10.mono (by decide)) (h11.mono (by decide)) (h12.mono (by decide)) (h13.mono (by decide)) (h14.mono (by decide)) rfl rfl rfl rfl rfl rfl) rfl ?_
  simp only [fa_agg, fa_one, fa_nil, List.cons_append, List.nil_append, List.append_nil]
  have m223 : Num 180000001 (cr (x12 - x6)) (x12 - x6) := Num.of (Sm.sub h12.sm h6.sm)
  have m224 : Num 180000001 (cr (x13 - x7)) (x13 - x7) := Num.of (Sm.sub h13.sm h7.sm)
  have m225 : Num 180000001 (cr (x14 - x8)) (x14 - x8) := Num.of (Sm.sub h14.sm h8.sm)
  refine call_step (n_vec_Cross_0 (k0 := ((x4 * (x14 - x8)) - (x5 * (x13 - x7)))) (k1 := ((x5 * (x12 - x6)) - (x3 * (x14 - x8)))) (k2 := ((x3 * (x13 - x7)) - (x4 * (x12 - x6)))) (h3.mono (by decide)) (h4.mono (by decide)) (h5.mono (by decide)) (m223.mono (by decide)) (m224.mono (by decide)) (m225.mono (by decide)) rfl rfl rfl) rfl ?_
  simp only [fa_agg, fa_one, fa_nil, List.cons_append, List.nil_append, List.append_nil]
  have m226 : Num 180000001 (cr (x9 - x6)) (x9 - x6) := Num.of (Sm.sub h9.sm h6.sm)
  have m227 : Num 180000001 (cr (x10 - x7)) (x10 - x7) := Num.of (Sm.sub h10.sm h7.sm)
  have m228 : Num 180000001 (cr (x11 - x8)) (x11 - x8) := Num.of (Sm.sub h11.sm h8.sm)
  have m229 : Num 540000003 (cr ((x4 * (x14 - x8)) - (x5 * (x13 - x7)))) ((x4 * (x14 - x8)) - (x5 * (x13 - x7))) := Num.of (Sm.sub (Sm.mul h4.sm m225.sm) (Sm.mul h5.sm m224.sm))
  have m230 : Num 540000003 (cr ((x5 * (x12 - x6)) - (x3 * (x14 - x8)))) ((x5 * (x12 - x6)) - (x3 * (x14 - x8))) := Num.of (Sm.sub (Sm.mul h5.sm m223.sm) (Sm.mul h3.sm m225.sm))
  have m231 : Num 540000003 (cr ((x3 * (x13 - x7)) - (x4 * (x12 - x6)))) ((x3 * (x13 - x7)) - (x4 * (x12 - x6))) := Num.of (Sm.sub (Sm.mul h3.sm m224.sm) (Sm.mul h4.sm m223.sm))
  refine call_step (n_vec_Dot_0 (k0 := ((((x9 - x6) * ((x4 * (x14 - x8)) - (x5 * (x13 - x7)))) + ((x10 - x7) * ((x5 * (x12 - x6)) - (x3 * (x14 - x8))))) + ((x11 - x8) * ((x3 * (x13 - x7)) - (x4 * (x12 - x6)))))) (m226.mono (by decide)) (m227.mono (by decide)) (m228.mono (by decide)) (m229.mono (by decide)) (m230.mono (by decide)) (m231.mono (by decide)) rfl) rfl ?_
  simp only [fa_agg, fa_one, fa_nil, List.cons_append, List.nil_append, List.append_nil]
  refine call_step (n_rat_Of (1) (1) (by decide) (by decide) (by decide) (by decide) (Y1.trans (by decide +kernel))) rfl ?_
  simp only [fa_agg, fa_one, fa_nil, List.cons_append, List.nil_append, List.append_nil]
  have m232 : Num 1 (cr Z1) Z1 := Num.c Y1 (by decide +kernel) (by decide +kernel)
  have m233 : Num 2160000014 (cr ((((x9 - x6) * ((x4 * (x14 - x8)) - (x5 * (x13 - x7)))) + ((x10 - x7) * ((x5 * (x12 - x6)) - (x3 * (x14 - x8))))) + ((x11 - x8) * ((x3 * (x13 - x7)) - (x4 * (x12 - x6)))))) ((((x9 - x6) * ((x4 * (x14 - x8)) - (x5 * (x13 - x7)))) + ((x10 - x7) * ((x5 * (x12 - x6)) - (x3 * (x14 - x8))))) + ((x11 - x8) * ((x3 * (x13 - x7)) - (x4 * (x12 - x6))))) := Num.of (Sm.add (Sm.add (Sm.mul m226.sm m229.sm) (Sm.mul m227.sm m230.sm)) (Sm.mul m228.sm m231.sm))
  refine call_step (n_rat_Div_t Y0 (m232.mono (by decide)) (m233.mono (by decide)) c0) rfl ?_
  simp only [fa_agg, fa_one, fa_nil, List.cons_append, List.nil_append, List.append_nil]
  refine primS (.bool true) rfl ?_
  refine itT rfl ?_
  exact ret_step rfl

theorem n_tri_Hit_1 {Z0 Z1 : Rat} (Y0 : Z0 = (0 : Rat)) (Y1 : Z1 = (1 : Rat)) {r0 r1 r2 r3 r4 r5 r6 r7 r8 r9 r10 r11 r12 r13 r14 : RR} {x0 x1 x2 x3 x4 x5 x6 x7 x8 x9 x10 x11 x12 x13 x14 : Rat} {k0 k1 k2 : Rat} (h0 : Num 90000000 r0 x0) (h1 : Num 90000000 r1 x1) (h2 : Num 90000000 r2 x2) (h3 : Num 90000000 r3 x3) (h4 : Num 90000000 r4 x4) (h5 : Num 90000000 r5 x5) (h6 : Num 90000000 r6 x6) (h7 : Num 90000000 r7 x7) (h8 : Num 90000000 r8 x8) (h9 : Num 90000000 r9 x9) (h10 : Num 90000000 r10 x10) (h11 : Num 90000000 r11 x11) (h12 : Num 90000000 r12 x12) (h13 : Num 90000000 r13 x13) (h14 : Num 90000000 r14 x14) (e0 : k0 = ((((x9 - x6) * ((x4 * (x14 - x8)) - (x5 * (x13 - x7)))) + ((x10 - x7) * ((x5 * (x12 - x6)) - (x3 * (x14 - x8))))) + ((x11 - x8) * ((x3 * (x13 - x7)) - (x4 * (x12 - x6)))))) (e1 : k1 = (Z1 / k0)) (e2 : k2 = (k1 * ((((x0 - x6) * ((x4 * (x14 - x8)) - (x5 * (x13 - x7)))) + ((x1 - x7) * ((x5 * (x12 - x6)) - (x3 * (x14 - x8))))) + ((x2 - x8) * ((x3 * (x13 - x7)) - (x4 * (x12 - x6))))))) (c0 : ¬k0 = Z0) (c1 : k2 < Z0) : PureCalls prog F.tri_Hit [.agg ([.bool r0.neg, nl r0.num, nl r0.den, .bool r1.neg, nl r1.num, nl r1.den, .bool r2.neg, nl r2.num, nl r2.den]), .agg ([.bool r3.neg, nl r3.num, nl r3.den, .bool r4.neg, nl r4.num, nl r4.den, .bool r5.neg, nl r5.num, nl r5.den]), .agg ([.bool r6.neg, nl r6.num, nl r6.den, .bool r7.neg, nl r7.num, nl r7.den, .bool r8.neg, nl r8.num, nl r8.den, .bool r9.neg, nl r9.num, nl r9.den, .bool r10.neg, nl r10.num, nl r10.den, .bool r11.neg, nl r11.num, nl r11.den, .bool r12.neg, nl r12.num, nl r12.den, .bool r13.neg, nl r13.num, nl r13.den, .bool r14.neg, nl r14.num, nl r14.den])] [.agg ([.bool (decide ((Z0).num < 0)), nn (Z0).num.natAbs, nn (Z0).den, .bool (decide ((Z0).num < 0)), nn (Z0).num.natAbs, nn (Z0).den, .bool (decide ((Z0).num < 0)), nn (Z0).num.natAbs, nn (Z0).den]), .one (.bool false)] := by
  subst e0 e1 e2
  refine symFunc_sound hmix tree_tri_Hit (by kernel_rfl) rfl ?_
  unfold ir_tri_Hit
  simp only [fa_agg, fa_one, fa_nil, List.cons_append, List.nil_append, List.append_nil]
  refine call_step (n_rat_Of (0) (1) (by decide) (by decide) (by decide) (by decide) (Y0.trans (by decide +kernel))) rfl ?_
  simp only [fa_agg, fa_one, fa_nil, List.cons_append, List.nil_append, List.append_nil]
  refine call_step (n_tri_sides_0 (k0 := (x9 - x6)) (k1 := (x10 - x7)) (k2 := (x11 - x8)) (k3 := (x12 - x6)) (k4 := (x13 - x7)) (k5 := (x14 - x8)) (h6.mono (by decide)) (h7.mono (by decide)) (h8.mono (by decide)) (h9.mono (by decide)) (h10.mono (by decide)) (h11.mono (by decide)) (h12.mono (by decide)) (h13.mono (by decide)) (h14.mono (by decide)) rfl rfl rfl rfl rfl rfl) rfl ?_
  simp only [fa_agg, fa_one, fa_nil, List.cons_append, List.nil_append, List.append_nil]
  have m234 : Num 180000001 (cr (x12 - x6)) (x12 - x6) := Num.of (Sm.sub h12.sm h6.sm)
  have m235 : Num 180000001 (cr (x13 - x7)) (x13 - x7) := Num.of (Sm.sub h13.sm h7.sm)
  have m236 : Num 180000001 (cr (x14 - x8)) (x14 - x8) := Num.of (Sm.sub h14.sm h8.sm)
  refine call_step (n_vec_Cross_0 (k0 := ((x4 * (x14 - x8)) - (x5 * (x13 - x7)))) (k1 := ((x5 * (x12 - x6)) - (x3 * (x14 - x8)))) (k2 := ((x3 * (x13 - x7)) - (x4 * (x12 - x6)))) (h3.mono (by decide)) (h4.mono (by decide)) (h5.mono (by decide)) (m234.mono (by decide)) (m235.mono (by decide)) (m236.mono (by decide)) rfl rfl rfl) rfl ?_
  simp only [fa_agg, fa_one, fa_nil, List.cons_append, List.nil_append, List.append_nil]
  have m237 : Num 180000001 (cr (x9 - x6)) (x9 - x6) := Num.of (Sm.sub h9.sm h6.sm)
  have m238 : Num 180000001 (cr (x10 - x7)) (x10 - x7) := Num.of (Sm.sub h10.sm h7.sm)
  have m239 : Num 180000001 (cr (x11 - x8)) (x11 - x8) := Num.of (Sm.sub h11.sm h8.sm)
  have m240 : Num 540000003 (cr ((x4 * (x14 - x8)) - (x5 * (x13 - x7)))) ((x4 * (x14 - x8)) - (x5 * (x13 - x7))) := Num.of (Sm.sub (Sm.mul h4.sm m236.sm) (Sm.mul h5.sm m235.sm))
  have m241 : Num 540000003 (cr ((x5 * (x12 - x6)) - (x3 * (x14 - x8)))) ((x5 * (x12 - x6)) - (x3 * (x14 - x8))) := Num.of (Sm.sub (Sm.mul h5.sm m234.sm) (Sm.mul h3.sm m236.sm))
  have m242 : Num 540000003 (cr ((x3 * (x13 - x7)) - (x4 * (x12 - x6)))) ((x3 * (x13 - x7)) - (x4 * (x12 - x6))) := Num.of (Sm.sub (Sm.mul h3.sm m235.sm) (Sm.mul h4.sm m234.sm))
  refine call_step (n_vec_Dot_0 (k0 := ((((x9 - x6) * ((x4 * (x14 - x8)) - (x5 * (x13 - x7)))) + ((x10 - x7) * ((x5 * (x12 - x6)) - (x3 * (x14 - x8))))) + ((x11 - x8) * ((x3 * (x13 - x7)) - (x4 * (x12 - x6)))))) (m237.mono (by decide)) (m238.mono (by decide)) (m239.mono (by decide)) (m240.mono (by decide)) (m241.mono (by decide)) (m242.mono (by decide)) rfl) rfl ?_
  simp only [fa_agg, fa_one, fa_nil, List.cons_append, List.nil_append, List.append_nil]
  refine call_step (n_rat_Of (1) (1) (by decide) (by decide) (by decide) (by decide) (Y1.trans (by decide +kernel))) rfl ?_
  simp only [fa_agg, fa_one, fa_nil, List.cons_append, List.nil_append, List.append_nil]
  have m243 : Num 1 (cr Z1) Z1 := Num.c Y1 (by decide +kernel) (by decide +kernel)
  have m244 : Num 2160000014 (cr ((((x9 - x6) * ((x4 * (x14 - x8)) - (x5 * (x13 - x7)))) + ((x10 - x7) * ((x5 * (x12 - x6)) - (x3 * (x14 - x8))))) + ((x11 - x8) * ((x3 * (x13 - x7)) - (x4 * (x12 - x6)))))) ((((x9 - x6) * ((x4 * (x14 - x8)) - (x5 * (x13 - x7)))) + ((x10 - x7) * ((x5 * (x12 - x6)) - (x3 * (x14 - x8))))) + ((x11 - x8) * ((x3 * (x13 - x7)) - (x4 * (x12 - x6))))) := Num.of (Sm.add (Sm.add (Sm.mul m237.sm m240.sm) (Sm.mul m238.sm m241.sm)) (Sm.mul m239.sm m242.sm))
  refine call_step (n_rat_Div_f (k0 := (Z1 / ((((x9 - x6) * ((x4 * (x14 - x8)) - (x5 * (x13 - x7)))) + ((x10 - x7) * ((x5 * (x12 - x6)) - (x3 * (x14 - x8))))) + ((x11 - x8) * ((x3 * (x13 - x7)) - (x4 * (x12 - x6))))))) Y0 (m243.mono (by decide)) (m244.mono (by decide)) rfl c0) rfl ?_
  simp only [fa_agg, fa_one, fa_nil, List.cons_append, List.nil_append, List.append_nil]
  refine primS (.bool false) rfl ?_
  refine itF rfl ?_
  refine call_step (n_vec_Sub_0 (k0 := (x0 - x6)) (k1 := (x1 - x7)) (k2 := (x2 - x8)) (h0.mono (by decide)) (h1.mono (by decide)) (h2.mono (by decide)) (h6.mono (by decide)) (h7.mono (by decide)) (h8.mono (by decide)) rfl rfl rfl) rfl ?_
  simp only [fa_agg, fa_one, fa_nil, List.cons_append, List.nil_append, List.append_nil]
  have m245 : Num 180000001 (cr (x0 - x6)) (x0 - x6) := Num.of (Sm.sub h0.sm h6.sm)
  have m246 : Num 180000001 (cr (x1 - x7)) (x1 - x7) := Num.of (Sm.sub h1.sm h7.sm)
  have m247 : Num 180000001 (cr (x2 - x8)) (x2 - x8) := Num.of (Sm.sub h2.sm h8.sm)
  refine call_step (n_vec_Dot_0 (k0 := ((((x0 - x6) * ((x4 * (x14 - x8)) - (x5 * (x13 - x7)))) + ((x1 - x7) * ((x5 * (x12 - x6)) - (x3 * (x14 - x8))))) + ((x2 - x8) * ((x3 * (x13 - x7)) - (x4 * (x12 - x6)))))) (m245.mono (by decide)) (m246.mono (by decide)) (m247.mono (by decide)) (m240.mono (by decide)) (m241.mono (by decide)) (m242.mono (by decide)) rfl) rfl ?_
  simp only [fa_agg, fa_one, fa_nil, List.cons_append, List.nil_append, List.append_nil]
  refine primS (rl [(cr (Z1 / ((((x9 - x6) * ((x4 * (x14 - x8)) - (x5 * (x13 - x7)))) + ((x10 - x7) * ((x5 * (x12 - x6)) - (x3 * (x14 - x8))))) + ((x11 - x8) * ((x3 * (x13 - x7)) - (x4 * (x12 - x6))))))), (cr ((((x0 - x6) * ((x4 * (x14 - x8)) - (x5 * (x13 - x7)))) + ((x1 - x7) * ((x5 * (x12 - x6)) - (x3 * (x14 - x8))))) + ((x2 - x8) * ((x3 * (x13 - x7)) - (x4 * (x12 - x6))))))]) rfl ?_
  have m249 : Num 2160000015 (cr (Z1 / ((((x9 - x6) * ((x4 * (x14 - x8)) - (x5 * (x13 - x7)))) + ((x10 - x7) * ((x5 * (x12 - x6)) - (x3 * (x14 - x8))))) + ((x11 - x8) * ((x3 * (x13 - x7)) - (x4 * (x12 - x6))))))) (Z1 / ((((x9 - x6) * ((x4 * (x14 - x8)) - (x5 * (x13 - x7)))) + ((x10 - x7) * ((x5 * (x12 - x6)) - (x3 * (x14 - x8))))) + ((x11 - x8) * ((x3 * (x13 - x7)) - (x4 * (x12 - x6)))))) := Num.of (Sm.div m243.sm m244.sm)
  have m250 : Num 2160000014 (cr ((((x0 - x6) * ((x4 * (x14 - x8)) - (x5 * (x13 - x7)))) + ((x1 - x7) * ((x5 * (x12 - x6)) - (x3 * (x14 - x8))))) + ((x2 - x8) * ((x3 * (x13 - x7)) - (x4 * (x12 - x6)))))) ((((x0 - x6) * ((x4 * (x14 - x8)) - (x5 * (x13 - x7)))) + ((x1 - x7) * ((x5 * (x12 - x6)) - (x3 * (x14 - x8))))) + ((x2 - x8) * ((x3 * (x13 - x7)) - (x4 * (x12 - x6))))) := Num.of (Sm.add (Sm.add (Sm.mul m245.sm m240.sm) (Sm.mul m246.sm m241.sm)) (Sm.mul m247.sm m242.sm))
  refine call_step (n_rat_Product_2 (k0 := ((Z1 / ((((x9 - x6) * ((x4 * (x14 - x8)) - (x5 * (x13 - x7)))) + ((x10 - x7) * ((x5 * (x12 - x6)) - (x3 * (x14 - x8))))) + ((x11 - x8) * ((x3 * (x13 - x7)) - (x4 * (x12 - x6)))))) * ((((x0 - x6) * ((x4 * (x14 - x8)) - (x5 * (x13 - x7)))) + ((x1 - x7) * ((x5 * (x12 - x6)) - (x3 * (x14 - x8))))) + ((x2 - x8) * ((x3 * (x13 - x7)) - (x4 * (x12 - x6))))))) (m249.mono (by decide)) (m250.mono (by decide)) rfl) rfl ?_
  simp only [fa_agg, fa_one, fa_nil, List.cons_append, List.nil_append, List.append_nil]
  have m251 : Num 4320000029 (cr ((Z1 / ((((x9 - x6) * ((x4 * (x14 - x8)) - (x5 * (x13 - x7)))) + ((x10 - x7) * ((x5 * (x12 - x6)) - (x3 * (x14 - x8))))) + ((x11 - x8) * ((x3 * (x13 - x7)) - (x4 * (x12 - x6)))))) * ((((x0 - x6) * ((x4 * (x14 - x8)) - (x5 * (x13 - x7)))) + ((x1 - x7) * ((x5 * (x12 - x6)) - (x3 * (x14 - x8))))) + ((x2 - x8) * ((x3 * (x13 - x7)) - (x4 * (x12 - x6))))))) ((Z1 / ((((x9 - x6) * ((x4 * (x14 - x8)) - (x5 * (x13 - x7)))) + ((x10 - x7) * ((x5 * (x12 - x6)) - (x3 * (x14 - x8))))) + ((x11 - x8) * ((x3 * (x13 - x7)) - (x4 * (x12 - x6)))))) * ((((x0 - x6) * ((x4 * (x14 - x8)) - (x5 * (x13 - x7)))) + ((x1 - x7) * ((x5 * (x12 - x6)) - (x3 * (x14 - x8))))) + ((x2 - x8) * ((x3 * (x13 - x7)) - (x4 * (x12 - x6)))))) := Num.of (Sm.mul m249.sm m250.sm)
  refine call_step (n_rat_Sign (m251.mono (by decide))) rfl ?_
  simp only [fa_agg, fa_one, fa_nil, List.cons_append, List.nil_append, List.append_nil]
  refine primS (.bool true) (cs_lss_t ((sg_lt Y0).2 c1)) ?_
  refine itT rfl ?_
  exact ret_step rfl

theorem n_tri_Hit_2 {Z0 Z1 : Rat} (Y0 : Z0 = (0 : Rat)) (Y1 : Z1 = (1 : Rat)) {r0 r1 r2 r3 r4 r5 r6 r7 r8 r9 r10 r11 r12 r13 r14 : RR} {x0 x1 x2 x3 x4 x5 x6 x7 x8 x9 x10 x11 x12 x13 x14 : Rat} {k0 k1 k2 k3 : Rat} (h0 : Num 90000000 r0 x0) (h1 : Num 90000000 r1 x1) (h2 : Num 90000000 r2 x2) (h3 : Num 90000000 r3 x3) (h4 : Num 90000000 r4 x4) (h5 : Num 90000000 r5 x5) (h6 : Num 90000000 r6 x6) (h7 : Num 90000000 r7 x7) (h8 : Num 90000000 r8 x8) (h9 : Num 90000000 r9 x9) (h10 : Num 90000000 r10 x10) (h11 : Num 90000000 r11 x11) (h12 : Num 90000000 r12 x12) (h13 : Num 90000000 r13 x13) (h14 : Num 90000000 r14 x14) (e0 : k0 = ((((x9 - x6) * ((x4 * (x14 - x8)) - (x5 * (x13 - x7)))) + ((x10 - x7) * ((x5 * (x12 - x6)) - (x3 * (x14 - x8))))) + ((x11 - x8) * ((x3 * (x13 - x7)) - (x4 * (x12 - x6)))))) (e1 : k1 = (Z1 / k0)) (e2 : k2 = (k1 * ((((x0 - x6) * ((x4 * (x14 - x8)) - (x5 * (x13 - x7)))) + ((x1 - x7) * ((x5 * (x12 - x6)) - (x3 * (x14 - x8))))) + ((x2 - x8) * ((x3 * (x13 - x7)) - (x4 * (x12 - x6))))))) (e3 : k3 = (k1 * (((x3 * (((x1 - x7) * (x11 - x8)) - ((x2 - x8) * (x10 - x7)))) + (x4 * (((x2 - x8) * (x9 - x6)) - ((x0 - x6) * (x11 - x8))))) + (x5 * (((x0 - x6) * (x10 - x7)) - ((x1 - x7) * (x9 - x6))))))) (c0 : ¬k0 = Z0) (c1 : ¬k2 < Z0) (c2 : k3 < Z0) : PureCalls prog F.tri_Hit [.agg ([.bool r0.neg, nl r0.num, nl r0.den, .bool r1.neg, nl r1.num, nl r1.den, .bool r2.neg, nl r2.num, nl r2.den]), .agg ([.bool r3.neg, nl r3.num, nl r3.den, .bool r4.neg, nl r4.num, nl r4.den, .bool r5.neg, nl r5.num, nl r5.den]), .agg ([.bool r6.neg, nl r6.num, nl r6.den, .bool r7.neg, nl r7.num, nl r7.den, .bool r8.neg, nl r8.num, nl r8.den, .bool r9.neg, nl r9.num, nl r9.den, .bool r10.neg, nl r10.num, nl r10.den, .bool r11.neg, nl r11.num, nl r11.den, .bool r12.neg, nl r12.num, nl r12.den, .bool r13.neg, nl r13.num, nl r13.den, .bool r14.neg, nl r14.num, nl r14.den])] [.agg ([.bool (decide ((Z0).num < 0)), nn (Z0).num.natAbs, nn (Z0).den, .bool (decide ((Z0).num < 0)), nn (Z0).num.natAbs, nn (Z0).den, .bool (decide ((Z0).num < 0)), nn (Z0).num.natAbs, nn (Z0).den]), .one (.bool false)] := by
  subst e0 e1 e2 e3
  refine symFunc_sound hmix tree_tri_Hit (by kernel_rfl) rfl ?_
  unfold ir_tri_Hit
  simp only [fa_agg, fa_one, fa_nil, List.cons_append, List.nil_append, List.append_nil]
  refine call_step (n_rat_Of (0) (1) (by decide) (by decide) (by decide) (by decide) (Y0.trans (by decide +kernel))) rfl ?_
  simp only [fa_agg, fa_one, fa_nil, List.cons_append, List.nil_append, List.append_nil]
  refine call_step (n_tri_sides_0 (k0 := (x9 - x6)) (k1 := (x10 - x7)) (k2 := (x11 - x8)) (k3 := (x12 - x6)) (k4 := (x13 - x7)) (k5 := (x14 - x8)) (h6.mono (by decide)) (h7.mono (by decide)) (h8.mono (by decide)) (h9.mono (by decide)) (h10.mono (by decide)) (h11.mono (by decide)) (h12.mono (by decide)) (h13.mono (by decide)) (h14.mono (by decide)) rfl rfl rfl rfl rfl rfl) rfl ?_
  simp only [fa_agg, fa_one, fa_nil, List.cons_append, List.nil_append, List.append_nil]
  have m252 : Num 180000001 (cr (x12 - x6)) (x12 - x6) := Num.of (Sm.sub h12.sm h6.sm)
  have m253 : Num 180000001 (cr (x13 - x7)) (x13 - x7) := Num.of (Sm.sub h13.sm h7.sm)
  have m254 : Num 180000001 (cr (x14 - x8)) (x14 - x8) := Num.of (Sm.sub h14.sm h8.sm)
  refine call_step (n_vec_Cross_0 (k0 := ((x4 * (x14 - x8)) - (x5 * (x13 - x7)))) (k1 := ((x5 * (x12 - x6)) - (x3 * (x14 - x8)))) (k2 := ((x3 * (x13 - x7)) - (x4 * (x12 - x6)))) (h3.mono (by decide)) (h4.mono (by decide)) (h5.mono (by decide)) (m252.mono (by decide)) (m253.mono (by decide)) (m254.mono (by decide)) rfl rfl rfl) rfl ?_
  simp only [fa_agg, fa_one, fa_nil, List.cons_append, List.nil_append, List.append_nil]
  have m255 : Num 180000001 (cr (x9 - x6)) (x9 - x6) := Num.of (Sm.sub h9.sm h6.sm)
  have m256 : Num 180000001 (cr (x10 - x7)) (x10 - x7) := Num.of (Sm.sub h10.sm h7.sm)
  have m257 : Num 180000001 (cr (x11 - x8)) (x11 - x8) := Num.of (Sm.sub h11.sm h8.sm)
  have m258 : Num 540000003 (cr ((x4 * (x14 - x8)) - (x5 * (x13 - x7)))) ((x4 * (x14 - x8)) - (x5 * (x13 - x7))) := Num.of (Sm.sub (Sm.mul h4.sm m254.sm) (Sm.mul h5.sm m253.sm))
  have m259 : Num 540000003 (cr ((x5 * (x12 - x6)) - (x3 * (x14 - x8)))) ((x5 * (x12 - x6)) - (x3 * (x14 - x8))) := Num.of (Sm.sub (Sm.mul h5.sm m252.sm) (Sm.mul h3.sm m254.sm))
  have m260 : Num 540000003 (cr ((x3 * (x13 - x7)) - (x4 * (x12 - x6)))) ((x3 * (x13 - x7)) - (x4 * (x12 - x6))) := Num.of (Sm.sub (Sm.mul h3.sm m253.sm) (Sm.mul h4.sm m252.sm))
  refine call_step (n_vec_Dot_0 (k0 := ((((x9 - x6) * ((x4 * (x14 - x8)) - (x5 * (x13 - x7)))) + ((x10 - x7) * ((x5 * (x12 - x6)) - (x3 * (x14 - x8))))) + ((x11 - x8) * ((x3 * (x13 - x7)) - (x4 * (x12 - x6)))))) (m255.mono (by decide)) (m256.mono (by decide)) (m257.mono (by decide)) (m258.mono (by decide)) (m259.mono (by decide)) (m260.mono (by decide)) rfl) rfl ?_
  simp only [fa_agg, fa_one, fa_nil, List.cons_append, List.nil_append, List.append_nil]
  refine call_step (n_rat_Of (1) (1) (by decide) (by decide) (by decide) (by decide) (Y1.trans (by decide +kernel))) rfl ?_
  simp only [fa_agg, fa_one, fa_nil, List.cons_append, List.nil_append, List.append_nil]
  have m261 : Num 1 (cr Z1) Z1 := Num.c Y1 (by decide +kernel) (by decide +kernel)
  have m262 : Num 2160000014 (cr ((((x9 - x6) * ((x4 * (x14 - x8)) - (x5 * (x13 - x7)))) + ((x10 - x7) * ((x5 * (x12 - x6)) - (x3 * (x14 - x8))))) + ((x11 - x8) * ((x3 * (x13 - x7)) - (x4 * (x12 - x6)))))) ((((x9 - x6) * ((x4 * (x14 - x8)) - (x5 * (x13 - x7)))) + ((x10 - x7) * ((x5 * (x12 - x6)) - (x3 * (x14 - x8))))) + ((x11 - x8) * ((x3 * (x13 - x7)) - (x4 * (x12 - x6))))) := Num.of (Sm.add (Sm.add (Sm.mul m255.sm m258.sm) (Sm.mul m256.sm m259.sm)) (Sm.mul m257.sm m260.sm))
  refine call_step (n_rat_Div_f (k0 := (Z1 / ((((x9 - x6) * ((x4 * (x14 - x8)) - (x5 * (x13 - x7)))) + ((x10 - x7) * ((x5 * (x12 - x6)) - (x3 * (x14 - x8))))) + ((x11 - x8) * ((x3 * (x13 - x7)) - (x4 * (x12 - x6))))))) Y0 (m261.mono (by decide)) (m262.mono (by decide)) rfl c0) rfl ?_
  simp only [fa_agg, fa_one, fa_nil, List.cons_append, List.nil_append, List.append_nil]
  refine primS (.bool false) rfl ?_
  refine itF rfl ?_
  refine call_step (n_vec_Sub_0 (k0 := (x0 - x6)) (k1 := (x1 - x7)) (k2 := (x2 - x8)) (h0.mono (by decide)) (h1.mono (by decide)) (h2.mono (by decide)) (h6.mono (by decide)) (h7.mono (by decide)) (h8.mono (by decide)) rfl rfl rfl) rfl ?_
  simp only [fa_agg, fa_one, fa_nil, List.cons_append, List.nil_append, List.append_nil]
  have m263 : Num 180000001 (cr (x0 - x6)) (x0 - x6) := Num.of (Sm.sub h0.sm h6.sm)
  have m264 : Num 180000001 (cr (x1 - x7)) (x1 - x7) := Num.of (Sm.sub h1.sm h7.sm)
  have m265 : Num 180000001 (cr (x2 - x8)) (x2 - x8) := Num.of (Sm.sub h2.sm h8.sm)
  refine call_step (n_vec_Dot_0 (k0 := ((((x0 - x6) * ((x4 * (x14 - x8)) - (x5 * (x13 - x7)))) + ((x1 - x7) * ((x5 * (x12 - x6)) - (x3 * (x14 - x8))))) + ((x2 - x8) * ((x3 * (x13 - x7)) - (x4 * (x12 - x6)))))) (m263.mono (by decide)) (m264.mono (by decide)) (m265.mono (by decide)) (m258.mono (by decide)) (m259.mono (by decide)) (m260.mono (by decide)) rfl) rfl ?_
  simp only [fa_agg, fa_one, fa_nil, List.cons_append, List.nil_append, List.append_nil]
  refine primS (rl [(cr (Z1 / ((((x9 - x6) * ((x4 * (x14 - x8)) - (x5 * (x13 - x7)))) + ((x10 - x7) * ((x5 * (x12 - x6)) - (x3 * (x14 - x8))))) + ((x11 - x8) * ((x3 * (x13 - x7)) - (x4 * (x12 - x6))))))), (cr ((((x0 - x6) * ((x4 * (x14 - x8)) - (x5 * (x13 - x7)))) + ((x1 - x7) * ((x5 * (x12 - x6)) - (x3 * (x14 - x8))))) + ((x2 - x8) * ((x3 * (x13 - x7)) - (x4 * (x12 - x6))))))]) rfl ?_
  have m267 : Num 2160000015 (cr (Z1 / ((((x9 - x6) * ((x4 * (x14 - x8)) - (x5 * (x13 - x7)))) + ((x10 - x7) * ((x5 * (x12 - x6)) - (x3 * (x14 - x8))))) + ((x11 - x8) * ((x3 * (x13 - x7)) - (x4 * (x12 - x6))))))) (Z1 / ((((x9 - x6) * ((x4 * (x14 - x8)) - (x5 * (x13 - x7)))) + ((x10 - x7) * ((x5 * (x12 - x6)) - (x3 * (x14 - x8))))) + ((x11 - x8) * ((x3 * (x13 - x7)) - (x4 * (x12 - x6)))))) := Num.of (Sm.div m261.sm m262.sm)
  have m268 : Num 2160000014 (cr ((((x0 - x6) * ((x4 * (x14 - x8)) - (x5 * (x13 - x7)))) + ((x1 - x7) * ((x5 * (x12 - x6)) - (x3 * (x14 - x8))))) + ((x2 - x8) * ((x3 * (x13 - x7)) - (x4 * (x12 - x6)))))) ((((x0 - x6) * ((x4 * (x14 - x8)) - (x5 * (x13 - x7)))) + ((x1 - x7) * ((x5 * (x12 - x6)) - (x3 * (x14 - x8))))) + ((x2 - x8) * ((x3 * (x13 - x7)) - (x4 * (x12 - x6))))) := Num.of (Sm.add (Sm.add (Sm.mul m263.sm m258.sm) (Sm.mul m264.sm m259.sm)) (Sm.mul m265.sm m260.sm))
  refine call_step (n_rat_Product_2 (k0 := ((Z1 / ((((x9 - x6) * ((x4 * (x14 - x8)) - (x5 * (x13 - x7)))) + ((x10 - x7) * ((x5 * (x12 - x6)) - (x3 * (x14 - x8))))) + ((x11 - x8) * ((x3 * (x13 - x7)) - (x4 * (x12 - x6)))))) * ((((x0 - x6) * ((x4 * (x14 - x8)) - (x5 * (x13 - x7)))) + ((x1 - x7) * ((x5 * (x12 - x6)) - (x3 * (x14 - x8))))) + ((x2 - x8) * ((x3 * (x13 - x7)) - (x4 * (x12 - x6))))))) (m267.mono (by decide)) (m268.mono (by decide)) rfl) rfl ?_
  simp only [fa_agg, fa_one, fa_nil, List.cons_append, List.nil_append, List.append_nil]
  have m269 : Num 4320000029 (cr ((Z1 / ((((x9 - x6) * ((x4 * (x14 - x8)) - (x5 * (x13 - x7)))) + ((x10 - x7) * ((x5 * (x12 - x6)) - (x3 * (x14 - x8))))) + ((x11 - x8) * ((x3 * (x13 - x7)) - (x4 * (x12 - x6)))))) * ((((x0 - x6) * ((x4 * (x14 - x8)) - (x5 * (x13 - x7)))) + ((x1 - x7) * ((x5 * (x12 - x6)) - (x3 * (x14 - x8))))) + ((x2 - x8) * ((x3 * (x13 - x7)) - (x4 * (x12 - x6))))))) ((Z1 / ((((x9 - x6) * ((x4 * (x14 - x8)) - (x5 * (x13 - x7)))) + ((x10 - x7) * ((x5 * (x12 - x6)) - (x3 * (x14 - x8))))) + ((x11 - x8) * ((x3 * (x13 - x7)) - (x4 * (x12 - x6)))))) * ((((x0 - x6) * ((x4 * (x14 - x8)) - (x5 * (x13 - x7)))) + ((x1 - x7) * ((x5 * (x12 - x6)) - (x3 * (x14 - x8))))) + ((x2 - x8) * ((x3 * (x13 - x7)) - (x4 * (x12 - x6)))))) := Num.of (Sm.mul m267.sm m268.sm)
  refine call_step (n_rat_Sign (m269.mono (by decide))) rfl ?_
  simp only [fa_agg, fa_one, fa_nil, List.cons_append, List.nil_append, List.append_nil]
  refine primS (.bool false) (cs_lss_f (fun z => c1 ((sg_lt Y0).1 z))) ?_
  refine itF rfl ?_
  refine call_step (n_vec_Cross_0 (k0 := (((x1 - x7) * (x11 - x8)) - ((x2 - x8) * (x10 - x7)))) (k1 := (((x2 - x8) * (x9 - x6)) - ((x0 - x6) * (x11 - x8)))) (k2 := (((x0 - x6) * (x10 - x7)) - ((x1 - x7) * (x9 - x6)))) (m263.mono (by decide)) (m264.mono (by decide)) (m265.mono (by decide)) (m255.mono (by decide)) (m256.mono (by decide)) (m257.mono (by decide)) rfl rfl rfl) rfl ?_
  simp only [fa_agg, fa_one, fa_nil, List.cons_append, List.nil_append, List.append_nil]
  have m270 : Num 720000005 (cr (((x1 - x7) * (x11 - x8)) - ((x2 - x8) * (x10 - x7)))) (((x1 - x7) * (x11 - x8)) - ((x2 - x8) * (x10 - x7))) := Num.of (Sm.sub (Sm.mul m264.sm m257.sm) (Sm.mul m265.sm m256.sm))
  have m271 : Num 720000005 (cr (((x2 - x8) * (x9 - x6)) - ((x0 - x6) * (x11 - x8)))) (((x2 - x8) * (x9 - x6)) - ((x0 - x6) * (x11 - x8))) := Num.of (Sm.sub (Sm.mul m265.sm m255.sm) (Sm.mul m263.sm m257.sm))
  have m272 : Num 720000005 (cr (((x0 - x6) * (x10 - x7)) - ((x1 - x7) * (x9 - x6)))) (((x0 - x6) * (x10 - x7)) - ((x1 - x7) * (x9 - x6))) := Num.of (Sm.sub (Sm.mul m263.sm m256.sm) (Sm.mul m264.sm m255.sm))
  refine call_step (n_vec_Dot_0 (k0 := (((x3 * (((x1 - x7) * (x11 - x8)) - ((x2 - x8) * (x10 - x7)))) + (x4 * (((x2 - x8) * (x9 - x6)) - ((x0 - x6) * (x11 - x8))))) + (x5 * (((x0 - x6) * (x10 - x7)) - ((x1 - x7) * (x9 - x6)))))) (h3.mono (by decide)) (h4.mono (by decide)) (h5.mono (by decide)) (m270.mono (by decide)) (m271.mono (by decide)) (m272.mono (by decide)) rfl) rfl ?_
  simp only [fa_agg, fa_one, fa_nil, List.cons_append, List.nil_append, List.append_nil]
  refine primS (rl [(cr (Z1 / ((((x9 - x6) * ((x4 * (x14 - x8)) - (x5 * (x13 - x7)))) + ((x10 - x7) * ((x5 * (x12 - x6)) - (x3 * (x14 - x8))))) + ((x11 - x8) * ((x3 * (x13 - x7)) - (x4 * (x12 - x6))))))), (cr (((x3 * (((x1 - x7) * (x11 - x8)) - ((x2 - x8) * (x10 - x7)))) + (x4 * (((x2 - x8) * (x9 - x6)) - ((x0 - x6) * (x11 - x8))))) + (x5 * (((x0 - x6) * (x10 - x7)) - ((x1 - x7) * (x9 - x6))))))]) rfl ?_
  have m274 : Num 2430000017 (cr (((x3 * (((x1 - x7) * (x11 - x8)) - ((x2 - x8) * (x10 - x7)))) + (x4 * (((x2 - x8) * (x9 - x6)) - ((x0 - x6) * (x11 - x8))))) + (x5 * (((x0 - x6) * (x10 - x7)) - ((x1 - x7) * (x9 - x6)))))) (((x3 * (((x1 - x7) * (x11 - x8)) - ((x2 - x8) * (x10 - x7)))) + (x4 * (((x2 - x8) * (x9 - x6)) - ((x0 - x6) * (x11 - x8))))) + (x5 * (((x0 - x6) * (x10 - x7)) - ((x1 - x7) * (x9 - x6))))) := Num.of (Sm.add (Sm.add (Sm.mul h3.sm m270.sm) (Sm.mul h4.sm m271.sm)) (Sm.mul h5.sm m272.sm))
  refine call_step (n_rat_Product_2 (k0 := ((Z1 / ((((x9 - x6) * ((x4 * (x14 - x8)) - (x5 * (x13 - x7)))) + ((x10 - x7) * ((x5 * (x12 - x6)) - (x3 * (x14 - x8))))) + ((x11 - x8) * ((x3 * (x13 - x7)) - (x4 * (x12 - x6)))))) * (((x3 * (((x1 - x7) * (x11 - x8)) - ((x2 - x8) * (x10 - x7)))) + (x4 * (((x2 - x8) * (x9 - x6)) - ((x0 - x6) * (x11 - x8))))) + (x5 * (((x0 - x6) * (x10 - x7)) - ((x1 - x7) * (x9 - x6))))))) (m267.mono (by decide)) (m274.mono (by decide)) rfl) rfl ?_
  simp only [fa_agg, fa_one, fa_nil, List.cons_append, List.nil_append, List.append_nil]
  refine call_step (n_vec_Dot_0 (k0 := ((((x12 - x6) * (((x1 - x7) * (x11 - x8)) - ((x2 - x8) * (x10 - x7)))) + ((x13 - x7) * (((x2 - x8) * (x9 - x6)) - ((x0 - x6) * (x11 - x8))))) + ((x14 - x8) * (((x0 - x6) * (x10 - x7)) - ((x1 - x7) * (x9 - x6)))))) (m252.mono (by decide)) (m253.mono (by decide)) (m254.mono (by decide)) (m270.mono (by decide)) (m271.mono (by decide)) (m272.mono (by decide)) rfl) rfl ?_
  simp only [fa_agg, fa_one, fa_nil, List.cons_append, List.nil_append, List.append_nil]
  refine primS (rl [(cr (Z1 / ((((x9 - x6) * ((x4 * (x14 - x8)) - (x5 * (x13 - x7)))) + ((x10 - x7) * ((x5 * (x12 - x6)) - (x3 * (x14 - x8))))) + ((x11 - x8) * ((x3 * (x13 - x7)) - (x4 * (x12 - x6))))))), (cr ((((x12 - x6) * (((x1 - x7) * (x11 - x8)) - ((x2 - x8) * (x10 - x7)))) + ((x13 - x7) * (((x2 - x8) * (x9 - x6)) - ((x0 - x6) * (x11 - x8))))) + ((x14 - x8) * (((x0 - x6) * (x10 - x7)) - ((x1 - x7) * (x9 - x6))))))]) rfl ?_
  have m276 : Num 2700000020 (cr ((((x12 - x6) * (((x1 - x7) * (x11 - x8)) - ((x2 - x8) * (x10 - x7)))) + ((x13 - x7) * (((x2 - x8) * (x9 - x6)) - ((x0 - x6) * (x11 - x8))))) + ((x14 - x8) * (((x0 - x6) * (x10 - x7)) - ((x1 - x7) * (x9 - x6)))))) ((((x12 - x6) * (((x1 - x7) * (x11 - x8)) - ((x2 - x8) * (x10 - x7)))) + ((x13 - x7) * (((x2 - x8) * (x9 - x6)) - ((x0 - x6) * (x11 - x8))))) + ((x14 - x8) * (((x0 - x6) * (x10 - x7)) - ((x1 - x7) * (x9 - x6))))) := Num.of (Sm.add (Sm.add (Sm.mul m252.sm m270.sm) (Sm.mul m253.sm m271.sm)) (Sm.mul m254.sm m272.sm))
  refine call_step (n_rat_Product_2 (k0 := ((Z1 / ((((x9 - x6) * ((x4 * (x14 - x8)) - (x5 * (x13 - x7)))) + ((x10 - x7) * ((x5 * (x12 - x6)) - (x3 * (x14 - x8))))) + ((x11 - x8) * ((x3 * (x13 - x7)) - (x4 * (x12 - x6)))))) * ((((x12 - x6) * (((x1 - x7) * (x11 - x8)) - ((x2 - x8) * (x10 - x7)))) + ((x13 - x7) * (((x2 - x8) * (x9 - x6)) - ((x0 - x6) * (x11 - x8))))) + ((x14 - x8) * (((x0 - x6) * (x10 - x7)) - ((x1 - x7) * (x9 - x6))))))) (m267.mono (by decide)) (m276.mono (by decide)) rfl) rfl ?_
  simp only [fa_agg, fa_one, fa_nil, List.cons_append, List.nil_append, List.append_nil]
  have m277 : Num 4590000032 (cr ((Z1 / ((((x9 - x6) * ((x4 * (x14 - x8)) - (x5 * (x13 - x7)))) + ((x10 - x7) * ((x5 * (x12 - x6)) - (x3 * (x14 - x8))))) + ((x11 - x8) * ((x3 * (x13 - x7)) - (x4 * (x12 - x6)))))) * (((x3 * (((x1 - x7) * (x11 - x8)) - ((x2 - x8) * (x10 - x7)))) + (x4 * (((x2 - x8) * (x9 - x6)) - ((x0 - x6) * (x11 - x8))))) + (x5 * (((x0 - x6) * (x10 - x7)) - ((x1 - x7) * (x9 - x6))))))) ((Z1 / ((((x9 - x6) * ((x4 * (x14 - x8)) - (x5 * (x13 - x7)))) + ((x10 - x7) * ((x5 * (x12 - x6)) - (x3 * (x14 - x8))))) + ((x11 - x8) * ((x3 * (x13 - x7)) - (x4 * (x12 - x6)))))) * (((x3 * (((x1 - x7) * (x11 - x8)) - ((x2 - x8) * (x10 - x7)))) + (x4 * (((x2 - x8) * (x9 - x6)) - ((x0 - x6) * (x11 - x8))))) + (x5 * (((x0 - x6) * (x10 - x7)) - ((x1 - x7) * (x9 - x6)))))) := Num.of (Sm.mul m267.sm m274.sm)
  refine call_step (n_rat_Sign (m277.mono (by decide))) rfl ?_
  simp only [fa_agg, fa_one, fa_nil, List.cons_append, List.nil_append, List.append_nil]
  refine primS (.bool true) (cs_lss_t ((sg_lt Y0).2 c2)) ?_
  refine itT rfl ?_
  exact ret_step rfl

theorem n_tri_Hit_3 {Z0 Z1 : Rat} (Y0 : Z0 = (0 : Rat)) (Y1 : Z1 = (1 : Rat)) {r0 r1 r2 r3 r4 r5 r6 r7 r8 r9 r10 r11 r12 r13 r14 : RR} {x0 x1 x2 x3 x4 x5 x6 x7 x8 x9 x10 x11 x12 x13 x14 : Rat} {k0 k1 k2 k3 k4 k5 : Rat} (h0 : Num 90000000 r0 x0) (h1 : Num 90000000 r1 x1) (h2 : Num 90000000 r2 x2) (h3 : Num 90000000 r3 x3) (h4 : Num 90000000 r4 x4) (h5 : Num 90000000 r5 x5) (h6 : Num 90000000 r6 x6) (h7 : Num 90000000 r7 x7) (h8 : Num 90000000 r8 x8) (h9 : Num 90000000 r9 x9) (h10 : Num 90000000 r10 x10) (h11 : Num 90000000 r11 x11) (h12 : Num 90000000 r12 x12) (h13 : Num 90000000 r13 x13) (h14 : Num 90000000 r14 x14) (e0 : k0 = ((((x9 - x6) * ((x4 * (x14 - x8)) - (x5 * (x13 - x7)))) + ((x10 - x7) * ((x5 * (x12 - x6)) - (x3 * (x14 - x8))))) + ((x11 - x8) * ((x3 * (x13 - x7)) - (x4 * (x12 - x6)))))) (e1 : k1 = (Z1 / k0)) (e2 : k2 = (k1 * ((((x0 - x6) * ((x4 * (x14 - x8)) - (x5 * (x13 - x7)))) + ((x1 - x7) * ((x5 * (x12 - x6)) - (x3 * (x14 - x8))))) + ((x2 - x8) * ((x3 * (x13 - x7)) - (x4 * (x12 - x6))))))) (e3 : k3 = (k1 * (((x3 * (((x1 - x7) * (x11 - x8)) - ((x2 - x8) * (x10 - x7)))) + (x4 * (((x2 - x8) * (x9 - x6)) - ((x0 - x6) * (x11 - x8))))) + (x5 * (((x0 - x6) * (x10 - x7)) - ((x1 - x7) * (x9 - x6))))))) (e4 : k4 = (k1 * ((((x12 - x6) * (((x1 - x7) * (x11 - x8)) - ((x2 - x8) * (x10 - x7)))) + ((x13 - x7) * (((x2 - x8) * (x9 - x6)) - ((x0 - x6) * (x11 - x8))))) + ((x14 - x8) * (((x0 - x6) * (x10 - x7)) - ((x1 - x7) * (x9 - x6))))))) (e5 : k5 = (k2 + k3)) (c0 : ¬k0 = Z0) (c1 : ¬k2 < Z0) (c2 : ¬k3 < Z0) (c3 : Z0 < k4) (c4 : Z1 < k5) : PureCalls prog F.tri_Hit [.agg ([.bool r0.neg, nl r0.num, nl r0.den, .bool r1.neg, nl r1.num, nl r1.den, .bool r2.neg, nl r2.num, nl r2.den]), .agg ([.bool r3.neg, nl r3.num, nl r3.den, .bool r4.neg, nl r4.num, nl r4.den, .bool r5.neg, nl r5.num, nl r5.den]), .agg ([.bool r6.neg, nl r6.num, nl r6.den, .bool r7.neg, nl r7.num, nl r7.den, .bool r8.neg, nl r8.num, nl r8.den, .bool r9.neg, nl r9.num, nl r9.den, .bool r10.neg, nl r10.num, nl r10.den, .bool r11.neg, nl r11.num, nl r11.den, .bool r12.neg, nl r12.num, nl r12.den, .bool r13.neg, nl r13.num, nl r13.den, .bool r14.neg, nl r14.num, nl r14.den])] [.agg ([.bool (decide ((Z0).num < 0)), nn (Z0).num.natAbs, nn (Z0).den, .bool (decide ((Z0).num < 0)), nn (Z0).num.natAbs, nn (Z0).den, .bool (decide ((Z0).num < 0)), nn (Z0).num.natAbs, nn (Z0).den]), .one (.bool false)] := by
  subst e0 e1 e2 e3 e4 e5
  refine symFunc_sound hmix tree_tri_Hit (by kernel_rfl) rfl ?_
  unfold ir_tri_Hit
  simp only [fa_agg, fa_one, fa_nil, List.cons_append, List.nil_append, List.append_nil]
  refine call_step (n_rat_Of (0) (1) (by decide) (by decide) (by decide) (by decide) (Y0.trans (by decide +kernel))) rfl ?_
  simp only [fa_agg, fa_one, fa_nil, List.cons_append, List.nil_append, List.append_nil]
  refine call_step (n_tri_sides_0 (k0 := (x9 - x6)) (k1 := (x10 - x7)) (k2 := (x11 - x8)) (k3 := (x12 - x6)) (k4 := (x13 - x7)) (k5 := (x14 - x8)) (h6.mono (by decide)) (h7.mono (by decide)) (h8.mono (by decide)) (h9.mono (by decide)) (h10.mono (by decide)) (h11.mono (by decide)) (h12.mono (by decide)) (h13.mono (by decide)) (h14.mono (by decide)) rfl rfl rfl rfl rfl rfl) rfl ?_
  simp only [fa_agg, fa_one, fa_nil, List.cons_append, List.nil_append, List.append_nil]
  have m278 : Num 180000001 (cr (x12 - x6)) (x12 - x6) := Num.of (Sm.sub h12.sm h6.sm)
  have m279 : Num 180000001 (cr (x13 - x7)) (x13 - x7) := Num.of (Sm.sub h13.sm h7.sm)
  have m280 : Num 180000001 (cr (x14 - x8)) (x14 - x8) := Num.of (Sm.sub h14.sm h8.sm)
  refine call_step (n_vec_Cross_0 (k0 := ((x4 * (x14 - x8)) - (x5 * (x13 - x7)))) (k1 := ((x5 * (x12 - x6)) - (x3 * (x14 - x8)))) (k2 := ((x3 * (x13 - x7)) - (x4 * (x12 - x6)))) (h3.mono (by decide)) (h4.mono (by decide)) (h5.mono (by decide)) (m278.mono (by decide)) (m279.mono (by decide)) (m280.mono (by decide)) rfl rfl rfl) rfl ?_
  simp only [fa_agg, fa_one, fa_nil, List.cons_append, List.nil_append, List.append_nil]
  have m281 : Num 180000001 (cr (x9 - x6)) (x9 - x6) := Num.of (Sm.sub h9.sm h6.sm)
  have m282 : Num 180000001 (cr (x10 - x7)) (x10 - x7) := Num.of (Sm.sub h10.sm h7.sm)
  have m283 : Num 180000001 (cr (x11 - x8)) (x11 - x8) := Num.of (Sm.sub h11.sm h8.sm)
  have m284 : Num 540000003 (cr ((x4 * (x14 - x8)) - (x5 * (x13 - x7)))) ((x4 * (x14 - x8)) - (x5 * (x13 - x7))) := Num.of (Sm.sub (Sm.mul h4.sm m280.sm) (Sm.mul h5.sm m279.sm))
  have m285 : Num 540000003 (cr ((x5 * (x12 - x6)) - (x3 * (x14 - x8)))) ((x5 * (x12 - x6)) - (x3 * (x14 - x8))) := Num.of (Sm.sub (Sm.mul h5.sm m278.sm) (Sm.mul h3.sm m280.sm))
  have m286 : Num 540000003 (cr ((x3 * (x13 - x7)) - (x4 * (x12 - x6)))) ((x3 * (x13 - x7)) - (x4 * (x12 - x6))) := Num.of (Sm.sub (Sm.mul h3.sm m279.sm) (Sm.mul h4.sm m278.sm))
  refine call_step (n_vec_Dot_0 (k0 := ((((x9 - x6) * ((x4 * (x14 - x8)) - (x5 * (x13 - x7)))) + ((x10 - x7) * ((x5 * (x12 - x6)) - (x3 * (x14 - x8))))) + ((x11 - x8) * ((x3 * (x13 - x7)) - (x4 * (x12 - x6)))))) (m281.mono (by decide)) (m282.mono (by decide)) (m283.mono (by decide)) (m284.mono (by decide)) (m285.mono (by decide)) (m286.mono (by decide)) rfl) rfl ?_
  simp only [fa_agg, fa_one, fa_nil, List.cons_append, List.nil_append, List.append_nil]
  refine call_step (n_rat_Of (1) (1) (by decide) (by decide) (by decide) (by decide) (Y1.trans (by decide +kernel))) rfl ?_
  simp only [fa_agg, fa_one, fa_nil, List.cons_append, List.nil_append, List.append_nil]
  have m287 : Num 1 (cr Z1) Z1 := Num.c Y1 (by decide +kernel) (by decide +kernel)
  have m288 : Num 2160000014 (cr ((((x9 - x6) * ((x4 * (x14 - x8)) - (x5 * (x13 - x7)))) + ((x10 - x7) * ((x5 * (x12 - x6)) - (x3 * (x14 - x8))))) + ((x11 - x8) * ((x3 * (x13 - x7)) - (x4 * (x12 - x6)))))) ((((x9 - x6) * ((x4 * (x14 - x8)) - (x5 * (x13 - x7)))) + ((x10 - x7) * ((x5 * (x12 - x6)) - (x3 * (x14 - x8))))) + ((x11 - x8) * ((x3 * (x13 - x7)) - (x4 * (x12 - x6))))) := Num.of (Sm.add (Sm.add (Sm.mul m281.sm m284.sm) (Sm.mul m282.sm m285.sm)) (Sm.mul m283.sm m286.sm))
  refine call_step (n_rat_Div_f (k0 := (Z1 / ((((x9 - x6) * ((x4 * (x14 - x8)) - (x5 * (x13 - x7)))) + ((x10 - x7) * ((x5 * (x12 - x6)) - (x3 * (x14 - x8))))) + ((x11 - x8) * ((x3 * (x13 - x7)) - (x4 * (x12 - x6))))))) Y0 (m287.mono (by decide)) (m288.mono (by decide)) rfl c0) rfl ?_
  simp only [fa_agg, fa_one, fa_nil, List.cons_append, List.nil_append, List.append_nil]
  refine primS (.bool false) rfl ?_
  refine itF rfl ?_
  refine call_step (n_vec_Sub_0 (k0 := (x0 - x6)) (k1 := (x1 - x7)) (k2 := (x2 - x8)) (h0.mono (by decide)) (h1.mono (by decide)) (h2.mono (by decide)) (h6.mono (by decide)) (h7.mono (by decide)) (h8.mono (by decide)) rfl rfl rfl) rfl ?_
  simp only [fa_agg, fa_one, fa_nil, List.cons_append, List.nil_append, List.append_nil]
  have m289 : Num 180000001 (cr (x0 - x6)) (x0 - x6) := Num.of (Sm.sub h0.sm h6.sm)
  have m290 : Num 180000001 (cr (x1 - x7)) (x1 - x7) := Num.of (Sm.sub h1.sm h7.sm)
  have m291 : Num 180000001 (cr (x2 - x8)) (x2 - x8) := Num.of (Sm.sub h2.sm h8.sm)
  refine call_step (n_vec_Dot_0 (k0 := ((((x0 - x6) * ((x4 * (x14 - x8)) - (x5 * (x13 - x7)))) + ((x1 - x7) * ((x5 * (x12 - x6)) - (x3 * (x14 - x8))))) + ((x2 - x8) * ((x3 * (x13 - x7)) - (x4 * (x12 - x6)))))) (m289.mono (by decide)) (m290.mono (by decide)) (m291.mono (by decide)) (m284.mono (by decide)) (m285.mono (by decide)) (m286.mono (by decide)) rfl) rfl ?_
  simp only [fa_agg, fa_one, fa_nil, List.cons_append, List.nil_append, List.append_nil]
  refine primS (rl [(cr (Z1 / ((((x9 - x6) * ((x4 * (x14 - x8)) - (x5 * (x13 - x7)))) + ((x10 - x7) * ((x5 * (x12 - x6)) - (x3 * (x14 - x8))))) + ((x11 - x8) * ((x3 * (x13 - x7)) - (x4 * (x12 - x6))))))), (cr ((((x0 - x6) * ((x4 * (x14 - x8)) - (x5 * (x13 - x7)))) + ((x1 - x7) * ((x5 * (x12 - x6)) - (x3 * (x14 - x8))))) + ((x2 - x8) * ((x3 * (x13 - x7)) - (x4 * (x12 - x6))))))]) rfl ?_
  have m293 : Num 2160000015 (cr (Z1 / ((((x9 - x6) * ((x4 * (x14 - x8)) - (x5 * (x13 - x7)))) + ((x10 - x7) * ((x5 * (x12 - x6)) - (x3 * (x14 - x8))))) + ((x11 - x8) * ((x3 * (x13 - x7)) - (x4 * (x12 - x6))))))) (Z1 / ((((x9 - x6) * ((x4 * (x14 - x8)) - (x5 * (x13 - x7)))) + ((x10 - x7) * ((x5 * (x12 - x6)) - (x3 * (x14 - x8))))) + ((x11 - x8) * ((x3 * (x13 - x7)) - (x4 * (x12 - x6)))))) := Num.of (Sm.div m287.sm m288.sm)
  have m294 : Num 2160000014 (cr ((((x0 - x6) * ((x4 * (x14 - x8)) - (x5 * (x13 - x7)))) + ((x1 - x7) * ((x5 * (x12 - x6)) - (x3 * (x14 - x8))))) + ((x2 - x8) * ((x3 * (x13 - x7)) - (x4 * (x12 - x6)))))) ((((x0 - x6) * ((x4 * (x14 - x8)) - (x5 * (x13 - x7)))) + ((x1 - x7) * ((x5 * (x12 - x6)) - (x3 * (x14 - x8))))) + ((x2 - x8) * ((x3 * (x13 - x7)) - (x4 * (x12 - x6))))) := Num.of (Sm.add (Sm.add (Sm.mul m289.sm m284.sm) (Sm.mul m290.sm m285.sm)) (Sm.mul m291.sm m286.sm))
  refine call_step (n_rat_Product_2 (k0 := ((Z1 / ((((x9 - x6) * ((x4 * (x14 - x8)) - (x5 * (x13 - x7)))) + ((x10 - x7) * ((x5 * (x12 - x6)) - (x3 * (x14 - x8))))) + ((x11 - x8) * ((x3 * (x13 - x7)) - (x4 * (x12 - x6)))))) * ((((x0 - x6) * ((x4 * (x14 - x8)) - (x5 * (x13 - x7)))) + ((x1 - x7) * ((x5 * (x12 - x6)) - (x3 * (x14 - x8))))) + ((x2 - x8) * ((x3 * (x13 - x7)) - (x4 * (x12 - x6))))))) (m293.mono (by decide)) (m294.mono (by decide)) rfl) rfl ?_
  simp only [fa_agg, fa_one, fa_nil, List.cons_append, List.nil_append, List.append_nil]
  have m295 : Num 4320000029 (cr ((Z1 / ((((x9 - x6) * ((x4 * (x14 - x8)) - (x5 * (x13 - x7)))) + ((x10 - x7) * ((x5 * (x12 - x6)) - (x3 * (x14 - x8))))) + ((x11 - x8) * ((x3 * (x13 - x7)) - (x4 * (x12 - x6)))))) * ((((x0 - x6) * ((x4 * (x14 - x8)) - (x5 * (x13 - x7)))) + ((x1 - x7) * ((x5 * (x12 - x6)) - (x3 * (x14 - x8))))) + ((x2 - x8) * ((x3 * (x13 - x7)) - (x4 * (x12 - x6))))))) ((Z1 / ((((x9 - x6) * ((x4 * (x14 - x8)) - (x5 * (x13 - x7)))) + ((x10 - x7) * ((x5 * (x12 - x6)) - (x3 * (x14 - x8))))) + ((x11 - x8) * ((x3 * (x13 - x7)) - (x4 * (x12 - x6)))))) * ((((x0 - x6) * ((x4 * (x14 - x8)) - (x5 * (x13 - x7)))) + ((x1 - x7) * ((x5 * (x12 - x6)) - (x3 * (x14 - x8))))) + ((x2 - x8) * ((x3 * (x13 - x7)) - (x4 * (x12 - x6)))))) := Num.of (Sm.mul m293.sm m294.sm)
  refine call_step (n_rat_Sign (m295.mono (by decide))) rfl ?_
  simp only [fa_agg, fa_one, fa_nil, List.cons_append, List.nil_append, List.append_nil]
  refine primS (.bool false) (cs_lss_f (fun z => c1 ((sg_lt Y0).1 z))) ?_
  refine itF rfl ?_
  refine call_step (n_vec_Cross_0 (k0 := (((x1 - x7) * (x11 - x8)) - ((x2 - x8) * (x10 - x7)))) (k1 := (((x2 - x8) * (x9 - x6)) - ((x0 - x6) * (x11 - x8)))) (k2 := (((x0 - x6) * (x10 - x7)) - ((x1 - x7) * (x9 - x6)))) (m289.mono (by decide)) (m290.mono (by decide)) (m291.mono (by decide)) (m281.mono (by decide)) (m282.mono (by decide)) (m283.mono (by decide)) rfl rfl rfl) rfl ?_
  simp only [fa_agg, fa_one, fa_nil, List.cons_append, List.nil_append, List.append_nil]
  have m296 : Num 720000005 (cr (((x1 - x7) * (x11 - x8)) - ((x2 - x8) * (x10 - x7)))) (((x1 - x7) * (x11 - x8)) - ((x2 - x8) * (x10 - x7))) := Num.of (Sm.sub (Sm.mul m290.sm m283.sm) (Sm.mul m291.sm m282.sm))
  have m297 : Num 720000005 (cr (((x2 - x8) * (x9 - x6)) - ((x0 - x6) * (x11 - x8)))) (((x2 - x8) * (x9 - x6)) - ((x0 - x6) * (x11 - x8))) := Num.of (Sm.sub (Sm.mul m291.sm m281.sm) (Sm.mul m289.sm m283.sm))
  have m298 : Num 720000005 (cr (((x0 - x6) * (x10 - x7)) - ((x1 - x7) * (x9 - x6)))) (((x0 - x6) * (x10 - x7)) - ((x1 - x7) * (x9 - x6))) := Num.of (Sm.sub (Sm.mul m289.sm m282.sm) (Sm.mul m290.sm m281.sm))
  refine call_step (n_vec_Dot_0 (k0 := (((x3 * (((x1 - x7) * (x11 - x8)) - ((x2 - x8) * (x10 - x7)))) + (x4 * (((x2 - x8) * (x9 - x6)) - ((x0 - x6) * (x11 - x8))))) + (x5 * (((x0 - x6) * (x10 - x7)) - ((x1 - x7) * (x9 - x6)))))) (h3.mono (by decide)) (h4.mono (by decide)) (h5.mono (by decide)) (m296.mono (by decide)) (m297.mono (by decide)) (m298.mono (by decide)) rfl) rfl ?_
  simp only [fa_agg, fa_one, fa_nil, List.cons_append, List.nil_append, List.append_nil]
  refine primS (rl [(cr (Z1 / ((((x9 - x6) * ((x4 * (x14 - x8)) - (x5 * (x13 - x7)))) + ((x10 - x7) * ((x5 * (x12 - x6)) - (x3 * (x14 - x8))))) + ((x11 - x8) * ((x3 * (x13 - x7)) - (x4 * (x12 - x6))))))), (cr (((x3 * (((x1 - x7) * (x11 - x8)) - ((x2 - x8) * (x10 - x7)))) + (x4 * (((x2 - x8) * (x9 - x6)) - ((x0 - x6) * (x11 - x8))))) + (x5 * (((x0 - x6) * (x10 - x7)) - ((x1 - x7) * (x9 - x6))))))]) rfl ?_
  have m300 : Num 2430000017 (cr (((x3 * (((x1 - x7) * (x11 - x8)) - ((x2 - x8) * (x10 - x7)))) + (x4 * (((x2 - x8) * (x9 - x6)) - ((x0 - x6) * (x11 - x8))))) + (x5 * (((x0 - x6) * (x10 - x7)) - ((x1 - x7) * (x9 - x6)))))) (((x3 * (((x1 - x7) * (x11 - x8)) - ((x2 - x8) * (x10 - x7)))) + (x4 * (((x2 - x8) * (x9 - x6)) - ((x0 - x6) * (x11 - x8))))) + (x5 * (((x0 - x6) * (x10 - x7)) - ((x1 - x7) * (x9 - x6))))) := Num.of (Sm.add (Sm.add (Sm.mul h3.sm m296.sm) (Sm.mul h4.sm m297.sm)) (Sm.mul h5.sm m298.sm))
  refine call_step (n_rat_Product_2 (k0 := ((Z1 / ((((x9 - x6) * ((x4 * (x14 - x8)) - (x5 * (x13 - x7)))) + ((x10 - x7) * ((x5 * (x12 - x6)) - (x3 * (x14 - x8))))) + ((x11 - x8) * ((x3 * (x13 - x7)) - (x4 * (x12 - x6)))))) * (((x3 * (((x1 - x7) * (x11 - x8)) - ((x2 - x8) * (x10 - x7)))) + (x4 * (((x2 - x8) * (x9 - x6)) - ((x0 - x6) * (x11 - x8))))) + (x5 * (((x0 - x6) * (x10 - x7)) - ((x1 - x7) * (x9 - x6))))))) (m293.mono (by decide)) (m300.mono (by decide)) rfl) rfl ?_
  simp only [fa_agg, fa_one, fa_nil, List.cons_append, List.nil_append, List.append_nil]
  refine call_step (n_vec_Dot_0 (k0 := ((((x12 - x6) * (((x1 - x7) * (x11 - x8)) - ((x2 - x8) * (x10 - x7)))) + ((x13 - x7) * (((x2 - x8) * (x9 - x6)) - ((x0 - x6) * (x11 - x8))))) + ((x14 - x8) * (((x0 - x6) * (x10 - x7)) - ((x1 - x7) * (x9 - x6)))))) (m278.mono (by decide)) (m279.mono (by decide)) (m280.mono (by decide)) (m296.mono (by decide)) (m297.mono (by decide)) (m298.mono (by decide)) rfl) rfl ?_
  simp only [fa_agg, fa_one, fa_nil, List.cons_append, List.nil_append, List.append_nil]
  refine primS (rl [(cr (Z1 / ((((x9 - x6) * ((x4 * (x14 - x8)) - (x5 * (x13 - x7)))) + ((x10 - x7) * ((x5 * (x12 - x6)) - (x3 * (x14 - x8))))) + ((x11 - x8) * ((x3 * (x13 - x7)) - (x4 * (x12 - x6))))))), (cr ((((x12 - x6) * (((x1 - x7) * (x11 - x8)) - ((x2 - x8) * (x10 - x7)))) + ((x13 - x7) * (((x2 - x8) * (x9 - x6)) - ((x0 - x6) * (x11 - x8))))) + ((x14 - x8) * (((x0 - x6) * (x10 - x7)) - ((x1 - x7) * (x9 - x6))))))]) rfl ?_
  have m302 : Num 2700000020 (cr ((((x12 - x6) * (((x1 - x7) * (x11 - x8)) - ((x2 - x8) * (x10 - x7)))) + ((x13 - x7) * (((x2 - x8) * (x9 - x6)) - ((x0 - x6) * (x11 - x8))))) + ((x14 - x8) * (((x0 - x6) * (x10 - x7)) - ((x1 - x7) * (x9 - x6)))))) ((((x12 - x6) * (((x1 - x7) * (x11 - x8)) - ((x2 - x8) * (x10 - x7)))) + ((x13 - x7) * (((x2 - x8) * (x9 - x6)) - ((x0 - x6) * (x11 - x8))))) + ((x14 - x8) * (((x0 - x6) * (x10 - x7)) - ((x1 - x7) * (x9 - x6))))) := Num.of (Sm.add (Sm.add (Sm.mul m278.sm m296.sm) (Sm.mul m279.sm m297.sm)) (Sm.mul m280.sm m298.sm))
  refine call_step (n_rat_Product_2 (k0 := ((Z1 / ((((x9 - x6) * ((x4 * (x14 - x8)) - (x5 * (x13 - x7)))) + ((x10 - x7) * ((x5 * (x12 - x6)) - (x3 * (x14 - x8))))) + ((x11 - x8) * ((x3 * (x13 - x7)) - (x4 * (x12 - x6)))))) * ((((x12 - x6) * (((x1 - x7) * (x11 - x8)) - ((x2 - x8) * (x10 - x7)))) + ((x13 - x7) * (((x2 - x8) * (x9 - x6)) - ((x0 - x6) * (x11 - x8))))) + ((x14 - x8) * (((x0 - x6) * (x10 - x7)) - ((x1 - x7) * (x9 - x6))))))) (m293.mono (by decide)) (m302.mono (by decide)) rfl) rfl ?_
  simp only [fa_agg, fa_one, fa_nil, List.cons_append, List.nil_append, List.append_nil]
  have m303 : Num 4590000032 (cr ((Z1 / ((((x9 - x6) * ((x4 * (x14 - x8)) - (x5 * (x13 - x7)))) + ((x10 - x7) * ((x5 * (x12 - x6)) - (x3 * (x14 - x8))))) + ((x11 - x8) * ((x3 * (x13 - x7)) - (x4 * (x12 - x6)))))) * (((x3 * (((x1 - x7) * (x11 - x8)) - ((x2 - x8) * (x10 - x7)))) + (x4 * (((x2 - x8) * (x9 - x6)) - ((x0 - x6) * (x11 - x8))))) + (x5 * (((x0 - x6) * (x10 - x7)) - ((x1 - x7) * (x9 - x6))))))) ((Z1 / ((((x9 - x6) * ((x4 * (x14 - x8)) - (x5 * (x13 - x7)))) + ((x10 - x7) * ((x5 * (x12 - x6)) - (x3 * (x14 - x8))))) + ((x11 - x8) * ((x3 * (x13 - x7)) - (x4 * (x12 - x6)))))) * (((x3 * (((x1 - x7) * (x11 - x8)) - ((x2 - x8) * (x10 - x7)))) + (x4 * (((x2 - x8) * (x9 - x6)) - ((x0 - x6) * (x11 - x8))))) + (x5 * (((x0 - x6) * (x10 - x7)) - ((x1 - x7) * (x9 - x6)))))) := Num.of (Sm.mul m293.sm m300.sm)
  refine call_step (n_rat_Sign (m303.mono (by decide))) rfl ?_
  simp only [fa_agg, fa_one, fa_nil, List.cons_append, List.nil_append, List.append_nil]
  refine primS (.bool false) (cs_lss_f (fun z => c2 ((sg_lt Y0).1 z))) ?_
  refine itF rfl ?_
  have m304 : Num 4860000035 (cr ((Z1 / ((((x9 - x6) * ((x4 * (x14 - x8)) - (x5 * (x13 - x7)))) + ((x10 - x7) * ((x5 * (x12 - x6)) - (x3 * (x14 - x8))))) + ((x11 - x8) * ((x3 * (x13 - x7)) - (x4 * (x12 - x6)))))) * ((((x12 - x6) * (((x1 - x7) * (x11 - x8)) - ((x2 - x8) * (x10 - x7)))) + ((x13 - x7) * (((x2 - x8) * (x9 - x6)) - ((x0 - x6) * (x11 - x8))))) + ((x14 - x8) * (((x0 - x6) * (x10 - x7)) - ((x1 - x7) * (x9 - x6))))))) ((Z1 / ((((x9 - x6) * ((x4 * (x14 - x8)) - (x5 * (x13 - x7)))) + ((x10 - x7) * ((x5 * (x12 - x6)) - (x3 * (x14 - x8))))) + ((x11 - x8) * ((x3 * (x13 - x7)) - (x4 * (x12 - x6)))))) * ((((x12 - x6) * (((x1 - x7) * (x11 - x8)) - ((x2 - x8) * (x10 - x7)))) + ((x13 - x7) * (((x2 - x8) * (x9 - x6)) - ((x0 - x6) * (x11 - x8))))) + ((x14 - x8) * (((x0 - x6) * (x10 - x7)) - ((x1 - x7) * (x9 - x6)))))) := Num.of (Sm.mul m293.sm m302.sm)
  refine call_step (n_rat_Sign (m304.mono (by decide))) rfl ?_
  simp only [fa_agg, fa_one, fa_nil, List.cons_append, List.nil_append, List.append_nil]
  refine primS (.bool false) (cs_leq_f ((sg_gt Y0).2 c3)) ?_
  refine itF rfl ?_
  refine primS (rl [(cr ((Z1 / ((((x9 - x6) * ((x4 * (x14 - x8)) - (x5 * (x13 - x7)))) + ((x10 - x7) * ((x5 * (x12 - x6)) - (x3 * (x14 - x8))))) + ((x11 - x8) * ((x3 * (x13 - x7)) - (x4 * (x12 - x6)))))) * ((((x0 - x6) * ((x4 * (x14 - x8)) - (x5 * (x13 - x7)))) + ((x1 - x7) * ((x5 * (x12 - x6)) - (x3 * (x14 - x8))))) + ((x2 - x8) * ((x3 * (x13 - x7)) - (x4 * (x12 - x6))))))), (cr ((Z1 / ((((x9 - x6) * ((x4 * (x14 - x8)) - (x5 * (x13 - x7)))) + ((x10 - x7) * ((x5 * (x12 - x6)) - (x3 * (x14 - x8))))) + ((x11 - x8) * ((x3 * (x13 - x7)) - (x4 * (x12 - x6)))))) * (((x3 * (((x1 - x7) * (x11 - x8)) - ((x2 - x8) * (x10 - x7)))) + (x4 * (((x2 - x8) * (x9 - x6)) - ((x0 - x6) * (x11 - x8))))) + (x5 * (((x0 - x6) * (x10 - x7)) - ((x1 - x7) * (x9 - x6)))))))]) rfl ?_
  refine call_step (n_rat_Sum_2 (k0 := (((Z1 / ((((x9 - x6) * ((x4 * (x14 - x8)) - (x5 * (x13 - x7)))) + ((x10 - x7) * ((x5 * (x12 - x6)) - (x3 * (x14 - x8))))) + ((x11 - x8) * ((x3 * (x13 - x7)) - (x4 * (x12 - x6)))))) * ((((x0 - x6) * ((x4 * (x14 - x8)) - (x5 * (x13 - x7)))) + ((x1 - x7) * ((x5 * (x12 - x6)) - (x3 * (x14 - x8))))) + ((x2 - x8) * ((x3 * (x13 - x7)) - (x4 * (x12 - x6)))))) + ((Z1 / ((((x9 - x6) * ((x4 * (x14 - x8)) - (x5 * (x13 - x7)))) + ((x10 - x7) * ((x5 * (x12 - x6)) - (x3 * (x14 - x8))))) + ((x11 - x8) * ((x3 * (x13 - x7)) - (x4 * (x12 - x6)))))) * (((x3 * (((x1 - x7) * (x11 - x8)) - ((x2 - x8) * (x10 - x7)))) + (x4 * (((x2 - x8) * (x9 - x6)) - ((x0 - x6) * (x11 - x8))))) + (x5 * (((x0 - x6) * (x10 - x7)) - ((x1 - x7) * (x9 - x6)))))))) (m295.mono (by decide)) (m303.mono (by decide)) rfl) rfl ?_
  simp only [fa_agg, fa_one, fa_nil, List.cons_append, List.nil_append, List.append_nil]
  refine call_step (n_rat_Of (1) (1) (by decide) (by decide) (by decide) (by decide) (Y1.trans (by decide +kernel))) rfl ?_
  simp only [fa_agg, fa_one, fa_nil, List.cons_append, List.nil_append, List.append_nil]
  have m306 : Num 8910000062 (cr (((Z1 / ((((x9 - x6) * ((x4 * (x14 - x8)) - (x5 * (x13 - x7)))) + ((x10 - x7) * ((x5 * (x12 - x6)) - (x3 * (x14 - x8))))) + ((x11 - x8) * ((x3 * (x13 - x7)) - (x4 * (x12 - x6)))))) * ((((x0 - x6) * ((x4 * (x14 - x8)) - (x5 * (x13 - x7)))) + ((x1 - x7) * ((x5 * (x12 - x6)) - (x3 * (x14 - x8))))) + ((x2 - x8) * ((x3 * (x13 - x7)) - (x4 * (x12 - x6)))))) + ((Z1 / ((((x9 - x6) * ((x4 * (x14 - x8)) - (x5 * (x13 - x7)))) + ((x10 - x7) * ((x5 * (x12 - x6)) - (x3 * (x14 - x8))))) + ((x11 - x8) * ((x3 * (x13 - x7)) - (x4 * (x12 - x6)))))) * (((x3 * (((x1 - x7) * (x11 - x8)) - ((x2 - x8) * (x10 - x7)))) + (x4 * (((x2 - x8) * (x9 - x6)) - ((x0 - x6) * (x11 - x8))))) + (x5 * (((x0 - x6) * (x10 - x7)) - ((x1 - x7) * (x9 - x6)))))))) (((Z1 / ((((x9 - x6) * ((x4 * (x14 - x8)) - (x5 * (x13 - x7)))) + ((x10 - x7) * ((x5 * (x12 - x6)) - (x3 * (x14 - x8))))) + ((x11 - x8) * ((x3 * (x13 - x7)) - (x4 * (x12 - x6)))))) * ((((x0 - x6) * ((x4 * (x14 - x8)) - (x5 * (x13 - x7)))) + ((x1 - x7) * ((x5 * (x12 - x6)) - (x3 * (x14 - x8))))) + ((x2 - x8) * ((x3 * (x13 - x7)) - (x4 * (x12 - x6)))))) + ((Z1 / ((((x9 - x6) * ((x4 * (x14 - x8)) - (x5 * (x13 - x7)))) + ((x10 - x7) * ((x5 * (x12 - x6)) - (x3 * (x14 - x8))))) + ((x11 - x8) * ((x3 * (x13 - x7)) - (x4 * (x12 - x6)))))) * (((x3 * (((x1 - x7) * (x11 - x8)) - ((x2 - x8) * (x10 - x7)))) + (x4 * (((x2 - x8) * (x9 - x6)) - ((x0 - x6) * (x11 - x8))))) + (x5 * (((x0 - x6) * (x10 - x7)) - ((x1 - x7) * (x9 - x6))))))) := Num.of (Sm.add m295.sm m303.sm)
  refine call_step (n_rat_Cmp (m306.mono (by decide)) (m287.mono (by decide))) rfl ?_
  simp only [fa_agg, fa_one, fa_nil, List.cons_append, List.nil_append, List.append_nil]
  refine primS (.bool true) (cs_gtr_t (cq_gt.2 c4)) ?_
  refine itT rfl ?_
  exact ret_step rfl

theorem n_tri_Hit_4 {Z0 Z1 : Rat} (Y0 : Z0 = (0 : Rat)) (Y1 : Z1 = (1 : Rat)) {r0 r1 r2 r3 r4 r5 r6 r7 r8 r9 r10 r11 r12 r13 r14 : RR} {x0 x1 x2 x3 x4 x5 x6 x7 x8 x9 x10 x11 x12 x13 x14 : Rat} {k0 k1 k2 k3 k4 k5 : Rat} (h0 : Num 90000000 r0 x0) (h1 : Num 90000000 r1 x1) (h2 : Num 90000000 r2 x2) (h3 : Num 90000000 r3 x3) (h4 : Num 90000000 r4 x4) (h5 : Num 90000000 r5 x5) (h6 : Num 90000000 r6 x6) (h7 : Num 90000000 r7 x7) (h8 : Num 90000000 r8 x8) (h9 : Num 90000000 r9 x9) (h10 : Num 90000000 r10 x10) (h11 : Num 90000000 r11 x11) (h12 : Num 90000000 r12 x12) (h13 : Num 90000000 r13 x13) (h14 : Num 90000000 r14 x14) (e0 : k0 = ((((x9 - x6) * ((x4 * (x14 - x8)) - (x5 * (x13 - x7)))) + ((x10 - x7) * ((x5 * (x12 - x6)) - (x3 * (x14 - x8))))) + ((x11 - x8) * ((x3 * (x13 - x7)) - (x4 * (x12 - x6)))))) (e1 : k1 = (Z1 / k0)) (e2 : k2 = (k1 * ((((x0 - x6) * ((x4 * (x14 - x8)) - (x5 * (x13 - x7)))) + ((x1 - x7) * ((x5 * (x12 - x6)) - (x3 * (x14 - x8))))) + ((x2 - x8) * ((x3 * (x13 - x7)) - (x4 * (x12 - x6))))))) (e3 : k3 = (k1 * (((x3 * (((x1 - x7) * (x11 - x8)) - ((x2 - x8) * (x10 - x7)))) + (x4 * (((x2 - x8) * (x9 - x6)) - ((x0 - x6) * (x11 - x8))))) + (x5 * (((x0 - x6) * (x10 - x7)) - ((x1 - x7) * (x9 - x6))))))) (e4 : k4 = (k1 * ((((x12 - x6) * (((x1 - x7) * (x11 - x8)) - ((x2 - x8) * (x10 - x7)))) + ((x13 - x7) * (((x2 - x8) * (x9 - x6)) - ((x0 - x6) * (x11 - x8))))) + ((x14 - x8) * (((x0 - x6) * (x10 - x7)) - ((x1 - x7) * (x9 - x6))))))) (e5 : k5 = (k2 + k3)) (c0 : ¬k0 = Z0) (c1 : ¬k2 < Z0) (c2 : ¬k3 < Z0) (c3 : Z0 < k4) (c4 : ¬Z1 < k5) : PureCalls prog F.tri_Hit [.agg ([.bool r0.neg, nl r0.num, nl r0.den, .bool r1.neg, nl r1.num, nl r1.den, .bool r2.neg, nl r2.num, nl r2.den]), .agg ([.bool r3.neg, nl r3.num, nl r3.den, .bool r4.neg, nl r4.num, nl r4.den, .bool r5.neg, nl r5.num, nl r5.den]), .agg ([.bool r6.neg, nl r6.num, nl r6.den, .bool r7.neg, nl r7.num, nl r7.den, .bool r8.neg, nl r8.num, nl r8.den, .bool r9.neg, nl r9.num, nl r9.den, .bool r10.neg, nl r10.num, nl r10.den, .bool r11.neg, nl r11.num, nl r11.den, .bool r12.neg, nl r12.num, nl r12.den, .bool r13.neg, nl r13.num, nl r13.den, .bool r14.neg, nl r14.num, nl r14.den])] [.agg ([.bool (decide ((k4).num < 0)), nn (k4).num.natAbs, nn (k4).den, .bool (decide ((k2).num < 0)), nn (k2).num.natAbs, nn (k2).den, .bool (decide ((k3).num < 0)), nn (k3).num.natAbs, nn (k3).den]), .one (.bool true)] := by
  subst e0 e1 e2 e3 e4 e5
  refine symFunc_sound hmix tree_tri_Hit (by kernel_rfl) rfl ?_
  unfold ir_tri_Hit
  simp only [fa_agg, fa_one, fa_nil, List.cons_append, List.nil_append, List.append_nil]
  refine call_step (n_rat_Of (0) (1) (by decide) (by decide) (by decide) (by decide) (Y0.trans (by decide +kernel))) rfl ?_
  simp only [fa_agg, fa_one, fa_nil, List.cons_append, List.nil_append, List.append_nil]
  refine call_step (n_tri_sides_0 (k0 := (x9 - x6)) (k1 := (x10 - x7)) (k2 := (x11 - x8)) (k3 := (x12 - x6)) (k4 := (x13 - x7)) (k5 := (x14 - x8)) (h6.mono (by decide)) (h7.mono (by decide)) (h8.mono (by decide)) (h9.mono (by decide)) (h10.mono (by decide)) (h11.mono (by decide)) (h12.mono (by decide)) (h13.mono (by decide)) (h14.mono (by decide)) rfl rfl rfl rfl rfl rfl) rfl ?_
  simp only [fa_agg, fa_one, fa_nil, List.cons_append, List.nil_append, List.append_nil]
  have m307 : Num 180000001 (cr (x12 - x6)) (x12 - x6) := Num.of (Sm.sub h12.sm h6.sm)
  have m308 : Num 180000001 (cr (x13 - x7)) (x13 - x7) := Num.of (Sm.sub h13.sm h7.sm)
  have m309 : Num 180000001 (cr (x14 - x8)) (x14 - x8) := Num.of (Sm.sub h14.sm h8.sm)
  refine call_step (n_vec_Cross_0 (k0 := ((x4 * (x14 - x8)) - (x5 * (x13 - x7)))) (k1 := ((x5 * (x12 - x6)) - (x3 * (x14 - x8)))) (k2 := ((x3 * (x13 - x7)) - (x4 * (x12 - x6)))) (h3.mono (by decide)) (h4.mono (by decide)) (h5.mono (by decide)) (m307.mono (by decide)) (m308.mono (by decide)) (m309.mono (by decide)) rfl rfl rfl) rfl ?_
  simp only [fa_agg, fa_one, fa_nil, List.cons_append, List.nil_append, List.append_nil]
  have m310 : Num 180000001 (cr (x9 - x6)) (x9 - x6) := Num.of (Sm.sub h9.sm h6.sm)
  have m311 : Num 180000001 (cr (x10 - x7)) (x10 - x7) := Num.of (Sm.sub h10.sm h7.sm)
  have m312 : Num 180000001 (cr (x11 - x8)) (x11 - x8) := Num.of (Sm.sub h11.sm h8.sm)
  have m313 : Num 540000003 (cr ((x4 * (x14 - x8)) - (x5 * (x13 - x7)))) ((x4 * (x14 - x8)) - (x5 * (x13 - x7))) := Num.of (Sm.sub (Sm.mul h4.sm m309.sm) (Sm.mul h5.sm m308.sm))
  have m314 : Num 540000003 (cr ((x5 * (x12 - x6)) - (x3 * (x14 - x8)))) ((x5 * (x12 - x6)) - (x3 * (x14 - x8))) := Num.of (Sm.sub (Sm.mul h5.sm m307.sm) (Sm.mul h3.sm m309.sm))
  have m315 : Num 540000003 (cr ((x3 * (x13 - x7)) - (x4 * (x12 - x6)))) ((x3 * (x13 - x7)) - (x4 * (x12 - x6))) := Num.of (Sm.sub (Sm.mul h3.sm m308.sm) (Sm.mul h4.sm m307.sm))
  refine call_step (n_vec_Dot_0 (k0 := ((((x9 - x6) * ((x4 * (x14 - x8)) - (x5 * (x13 - x7)))) + ((x10 - x7) * ((x5 * (x12 - x6)) - (x3 * (x14 - x8))))) + ((x11 - x8) * ((x3 * (x13 - x7)) - (x4 * (x12 - x6)))))) (m310.mono (by decide)) (m311.mono (by decide)) (m312.mono (by decide)) (m313.mono (by decide)) (m314.mono (by decide)) (m315.mono (by decide)) rfl) rfl ?_
  simp only [fa_agg, fa_one, fa_nil, List.cons_append, List.nil_append, List.append_nil]
  refine call_step (n_rat_Of (1) (1) (by decide) (by decide) (by decide) (by decide) (Y1.trans (by decide +kernel))) rfl ?_
  simp only [fa_agg, fa_one, fa_nil, List.cons_append, List.nil_append, List.append_nil]
  have m316 : Num 1 (cr Z1) Z1 := Num.c Y1 (by decide +kernel) (by decide +kernel)
  have m317 : Num 2160000014 (cr ((((x9 - x6) * ((x4 * (x14 - x8)) - (x5 * (x13 - x7)))) + ((x10 - x7) * ((x5 * (x12 - x6)) - (x3 * (x14 - x8))))) + ((x11 - x8) * ((x3 * (x13 - x7)) - (x4 * (x12 - x6)))))) ((((x9 - x6) * ((x4 * (x14 - x8)) - (x5 * (x13 - x7)))) + ((x10 - x7) * ((x5 * (x12 - x6)) - (x3 * (x14 - x8))))) + ((x11 - x8) * ((x3 * (x13 - x7)) - (x4 * (x12 - x6))))) := Num.of (Sm.add (Sm.add (Sm.mul m310.sm m313.sm) (Sm.mul m311.sm m314.sm)) (Sm.mul m312.sm m315.sm))
  refine call_step (n_rat_Div_f (k0 := (Z1 / ((((x9 - x6) * ((x4 * (x14 - x8)) - (x5 * (x13 - x7)))) + ((x10 - x7) * ((x5 * (x12 - x6)) - (x3 * (x14 - x8))))) + ((x11 - x8) * ((x3 * (x13 - x7)) - (x4 * (x12 - x6))))))) Y0 (m316.mono (by decide)) (m317.mono (by decide)) rfl c0) rfl ?_
  simp only [fa_agg, fa_one, fa_nil, List.cons_append, List.nil_append, List.append_nil]
  refine primS (.bool false) rfl ?_
  refine itF rfl ?_
  refine call_step (n_vec_Sub_0 (k0 := (x0 - x6)) (k1 := (x1 - x7)) (k2 := (x2 - x8)) (h0.mono (by decide)) (h1.mono (by decide)) (h2.mono (by decide)) (h6.mono (by decide)) (h7.mono (by decide)) (h8.mono (by decide)) rfl rfl rfl) rfl ?_
  simp only [fa_agg, fa_one, fa_nil, List.cons_append, List.nil_append, List.append_nil]
  have m318 : Num 180000001 (cr (x0 - x6)) (x0 - x6) := Num.of (Sm.sub h0.sm h6.sm)
  have m319 : Num 180000001 (cr (x1 - x7)) (x1 - x7) := Num.of (Sm.sub h1.sm h7.sm)
  have m320 : Num 180000001 (cr (x2 - x8)) (x2 - x8) := Num.of (Sm.sub h2.sm h8.sm)
  refine call_step (n_vec_Dot_0 (k0 := ((((x0 - x6) * ((x4 * (x14 - x8)) - (x5 * (x13 - x7)))) + ((x1 - x7) * ((x5 * (x12 - x6)) - (x3 * (x14 - x8))))) + ((x2 - x8) * ((x3 * (x13 - x7)) - (x4 * (x12 - x6)))))) (m318.mono (by decide)) (m319.mono (by decide)) (m320.mono (by decide)) (m313.mono (by decide)) (m314.mono (by decide)) (m315.mono (by decide)) rfl) rfl ?_
  simp only [fa_agg, fa_one, fa_nil, List.cons_append, List.nil_append, List.append_nil]
  refine primS (rl [(cr (Z1 / ((((x9 - x6) * ((x4 * (x14 - x8)) - (x5 * (x13 - x7)))) + ((x10 - x7) * ((x5 * (x12 - x6)) - (x3 * (x14 - x8))))) + ((x11 - x8) * ((x3 * (x13 - x7)) - (x4 * (x12 - x6))))))), (cr ((((x0 - x6) * ((x4 * (x14 - x8)) - (x5 * (x13 - x7)))) + ((x1 - x7) * ((x5 * (x12 - x6)) - (x3 * (x14 - x8))))) + ((x2 - x8) * ((x3 * (x13 - x7)) - (x4 * (x12 - x6))))))]) rfl ?_
  have m322 : Num 2160000015 (cr (Z1 / ((((x9 - x6) * ((x4 * (x14 - x8)) - (x5 * (x13 - x7)))) + ((x10 - x7) * ((x5 * (x12 - x6)) - (x3 * (x14 - x8))))) + ((x11 - x8) * ((x3 * (x13 - x7)) - (x4 * (x12 - x6))))))) (Z1 / ((((x9 - x6) * ((x4 * (x14 - x8)) - (x5 * (x13 - x7)))) + ((x10 - x7) * ((x5 * (x12 - x6)) - (x3 * (x14 - x8))))) + ((x11 - x8) * ((x3 * (x13 - x7)) - (x4 * (x12 - x6)))))) := Num.of (Sm.div m316.sm m317.sm)
  have m323 : Num 2160000014 (cr ((((x0 - x6) * ((x4 * (x14 - x8)) - (x5 * (x13 - x7)))) + ((x1 - x7) * ((x5 * (x12 - x6)) - (x3 * (x14 - x8))))) + ((x2 - x8) * ((x3 * (x13 - x7)) - (x4 * (x12 - x6)))))) ((((x0 - x6) * ((x4 * (x14 - x8)) - (x5 * (x13 - x7)))) + ((x1 - x7) * ((x5 * (x12 - x6)) - (x3 * (x14 - x8))))) + ((x2 - x8) * ((x3 * (x13 - x7)) - (x4 * (x12 - x6))))) := Num.of (Sm.add (Sm.add (Sm.mul m318.sm m313.sm) (Sm.mul m319.sm m314.sm)) (Sm.mul m320.sm m315.sm))
  refine call_step (n_rat_Product_2 (k0 := ((Z1 / ((((x9 - x6) * ((x4 * (x14 - x8)) - (x5 * (x13 - x7)))) + ((x10 - x7) * ((x5 * (x12 - x6)) - (x3 * (x14 - x8))))) + ((x11 - x8) * ((x3 * (x13 - x7)) - (x4 * (x12 - x6)))))) * ((((x0 - x6) * ((x4 * (x14 - x8)) - (x5 * (x13 - x7)))) + ((x1 - x7) * ((x5 * (x12 - x6)) - (x3 * (x14 - x8))))) + ((x2 - x8) * ((x3 * (x13 - x7)) - (x4 * (x12 - x6))))))) (m322.mono (by decide)) (m323.mono (by decide)) rfl) rfl ?_
  simp only [fa_agg, fa_one, fa_nil, List.cons_append, List.nil_append, List.append_nil]
  have m324 : Num 4320000029 (cr ((Z1 / ((((x9 - x6) * ((x4 * (x14 - x8)) - (x5 * (x13 - x7)))) + ((x10 - x7) * ((x5 * (x12 - x6)) - (x3 * (x14 - x8))))) + ((x11 - x8) * ((x3 * (x13 - x7)) - (x4 * (x12 - x6)))))) * ((((x0 - x6) * ((x4 * (x14 - x8)) - (x5 * (x13 - x7)))) + ((x1 - x7) * ((x5 * (x12 - x6)) - (x3 * (x14 - x8))))) + ((x2 - x8) * ((x3 * (x13 - x7)) - (x4 * (x12 - x6))))))) ((Z1 / ((((x9 - x6) * ((x4 * (x14 - x8)) - (x5 * (x13 - x7)))) + ((x10 - x7) * ((x5 * (x12 - x6)) - (x3 * (x14 - x8))))) + ((x11 - x8) * ((x3 * (x13 - x7)) - (x4 * (x12 - x6)))))) * ((((x0 - x6) * ((x4 * (x14 - x8)) - (x5 * (x13 - x7)))) + ((x1 - x7) * ((x5 * (x12 - x6)) - (x3 * (x14 - x8))))) + ((x2 - x8) * ((x3 * (x13 - x7)) - (x4 * (x12 - x6)))))) := Num.of (Sm.mul m322.sm m323.sm)
  refine call_step (n_rat_Sign (m324.mono (by decide))) rfl ?_
  simp only [fa_agg, fa_one, fa_nil, List.cons_append, List.nil_append, List.append_nil]
  refine primS (.bool false) (cs_lss_f (fun z => c1 ((sg_lt Y0).1 z))) ?_
  refine itF rfl ?_
  refine call_step (n_vec_Cross_0 (k0 := (((x1 - x7) * (x11 - x8)) - ((x2 - x8) * (x10 - x7)))) (k1 := (((x2 - x8) * (x9 - x6)) - ((x0 - x6) * (x11 - x8)))) (k2 := (((x0 - x6) * (x10 - x7)) - ((x1 - x7) * (x9 - x6)))) (m318.mono (by decide)) (m319.mono (by decide)) (m320.mono (by decide)) (m310.mono (by decide)) (m311.mono (by decide)) (m312.mono (by decide)) rfl rfl rfl) rfl ?_
  simp only [fa_agg, fa_one, fa_nil, List.cons_append, List.nil_append, List.append_nil]
  have m325 : Num 720000005 (cr (((x1 - x7) * (x11 - x8)) - ((x2 - x8) * (x10 - x7)))) (((x1 - x7) * (x11 - x8)) - ((x2 - x8) * (x10 - x7))) := Num.of (Sm.sub (Sm.mul m319.sm m312.sm) (Sm.mul m320.sm m311.sm))
  have m326 : Num 720000005 (cr (((x2 - x8) * (x9 - x6)) - ((x0 - x6) * (x11 - x8)))) (((x2 - x8) * (x9 - x6)) - ((x0 - x6) * (x11 - x8))) := Num.of (Sm.sub (Sm.mul m320.sm m310.sm) (Sm.mul m318.sm m312.sm))
  have m327 : Num 720000005 (cr (((x0 - x6) * (x10 - x7)) - ((x1 - x7) * (x9 - x6)))) (((x0 - x6) * (x10 - x7)) - ((x1 - x7) * (x9 - x6))) := Num.of (Sm.sub (Sm.mul m318.sm m311.sm) (Sm.mul m319.sm m310.sm))
  refine call_step (n_vec_Dot_0 (k0 := (((x3 * (((x1 - x7) * (x11 - x8)) - ((x2 - x8) * (x10 - x7)))) + (x4 * (((x2 - x8) * (x9 - x6)) - ((x0 - x6) * (x11 - x8))))) + (x5 * (((x0 - x6) * (x10 - x7)) - ((x1 - x7) * (x9 - x6)))))) (h3.mono (by decide)) (h4.mono (by decide)) (h5.mono (by decide)) (m325.mono (by decide)) (m326.mono (by decide)) (m327.mono (by decide)) rfl) rfl ?_
  simp only [fa_agg, fa_one, fa_nil, List.cons_append, List.nil_append, List.append_nil]
  refine primS (rl [(cr (Z1 / ((((x9 - x6) * ((x4 * (x14 - x8)) - (x5 * (x13 - x7)))) + ((x10 - x7) * ((x5 * (x12 - x6)) - (x3 * (x14 - x8))))) + ((x11 - x8) * ((x3 * (x13 - x7)) - (x4 * (x12 - x6))))))), (cr (((x3 * (((x1 - x7) * (x11 - x8)) - ((x2 - x8) * (x10 - x7)))) + (x4 * (((x2 - x8) * (x9 - x6)) - ((x0 - x6) * (x11 - x8))))) + (x5 * (((x0 - x6) * (x10 - x7)) - ((x1 - x7) * (x9 - x6))))))]) rfl ?_
  have m329 : Num 2430000017 (cr (((x3 * (((x1 - x7) * (x11 - x8)) - ((x2 - x8) * (x10 - x7)))) + (x4 * (((x2 - x8) * (x9 - x6)) - ((x0 - x6) * (x11 - x8))))) + (x5 * (((x0 - x6) * (x10 - x7)) - ((x1 - x7) * (x9 - x6)))))) (((x3 * (((x1 - x7) * (x11 - x8)) - ((x2 - x8) * (x10 - x7)))) + (x4 * (((x2 - x8) * (x9 - x6)) - ((x0 - x6) * (x11 - x8))))) + (x5 * (((x0 - x6) * (x10 - x7)) - ((x1 - x7) * (x9 - x6))))) := Num.of (Sm.add (Sm.add (Sm.mul h3.sm m325.sm) (Sm.mul h4.sm m326.sm)) (Sm.mul h5.sm m327.sm))
  refine call_step (n_rat_Product_2 (k0 := ((Z1 / ((((x9 - x6) * ((x4 * (x14 - x8)) - (x5 * (x13 - x7)))) + ((x10 - x7) * ((x5 * (x12 - x6)) - (x3 * (x14 - x8))))) + ((x11 - x8) * ((x3 * (x13 - x7)) - (x4 * (x12 - x6)))))) * (((x3 * (((x1 - x7) * (x11 - x8)) - ((x2 - x8) * (x10 - x7)))) + (x4 * (((x2 - x8) * (x9 - x6)) - ((x0 - x6) * (x11 - x8))))) + (x5 * (((x0 - x6) * (x10 - x7)) - ((x1 - x7) * (x9 - x6))))))) (m322.mono (by decide)) (m329.mono (by decide)) rfl) rfl ?_
  simp only [fa_agg, fa_one, fa_nil, List.cons_append, List.nil_append, List.append_nil]
  refine call_step (n_vec_Dot_0 (k0 := ((((x12 - x6) * (((x1 - x7) * (x11 - x8)) - ((x2 - x8) * (x10 - x7)))) + ((x13 - x7) * (((x2 - x8) * (x9 - x6)) - ((x0 - x6) * (x11 - x8))))) + ((x14 - x8) * (((x0 - x6) * (x10 - x7)) - ((x1 - x7) * (x9 - x6)))))) (m307.mono (by decide)) (m308.mono (by decide)) (m309.mono (by decide)) (m325.mono (by decide)) (m326.mono (by decide)) (m327.mono (by decide)) rfl) rfl ?_
  simp only [fa_agg, fa_one, fa_nil, List.cons_append, List.nil_append, List.append_nil]
  refine primS (rl [(cr (Z1 / ((((x9 - x6) * ((x4 * (x14 - x8)) - (x5 * (x13 - x7)))) + ((x10 - x7) * ((x5 * (x12 - x6)) - (x3 * (x14 - x8))))) + ((x11 - x8) * ((x3 * (x13 - x7)) - (x4 * (x12 - x6))))))), (cr ((((x12 - x6) * (((x1 - x7) * (x11 - x8)) - ((x2 - x8) * (x10 - x7)))) + ((x13 - x7) * (((x2 - x8) * (x9 - x6)) - ((x0 - x6) * (x11 - x8))))) + ((x14 - x8) * (((x0 - x6) * (x10 - x7)) - ((x1 - x7) * (x9 - x6))))))]) rfl ?_
  have m331 : Num 2700000020 (cr ((((x12 - x6) * (((x1 - x7) * (x11 - x8)) - ((x2 - x8) * (x10 - x7)))) + ((x13 - x7) * (((x2 - x8) * (x9 - x6)) - ((x0 - x6) * (x11 - x8))))) + ((x14 - x8) * (((x0 - x6) * (x10 - x7)) - ((x1 - x7) * (x9 - x6)))))) ((((x12 - x6) * (((x1 - x7) * (x11 - x8)) - ((x2 - x8) * (x10 - x7)))) + ((x13 - x7) * (((x2 - x8) * (x9 - x6)) - ((x0 - x6) * (x11 - x8))))) + ((x14 - x8) * (((x0 - x6) * (x10 - x7)) - ((x1 - x7) * (x9 - x6))))) := Num.of (Sm.add (Sm.add (Sm.mul m307.sm m325.sm) (Sm.mul m308.sm m326.sm)) (Sm.mul m309.sm m327.sm))
  refine call_step (n_rat_Product_2 (k0 := ((Z1 / ((((x9 - x6) * ((x4 * (x14 - x8)) - (x5 * (x13 - x7)))) + ((x10 - x7) * ((x5 * (x12 - x6)) - (x3 * (x14 - x8))))) + ((x11 - x8) * ((x3 * (x13 - x7)) - (x4 * (x12 - x6)))))) * ((((x12 - x6) * (((x1 - x7) * (x11 - x8)) - ((x2 - x8) * (x10 - x7)))) + ((x13 - x7) * (((x2 - x8) * (x9 - x6)) - ((x0 - x6) * (x11 - x8))))) + ((x14 - x8) * (((x0 - x6) * (x10 - x7)) - ((x1 - x7) * (x9 - x6))))))) (m322.mono (by decide)) (m331.mono (by decide)) rfl) rfl ?_
  simp only [fa_agg, fa_one, fa_nil, List.cons_append, List.nil_append, List.append_nil]
  have m332 : Num 4590000032 (cr ((Z1 / ((((x9 - x6) * ((x4 * (x14 - x8)) - (x5 * (x13 - x7)))) + ((x10 - x7) * ((x5 * (x12 - x6)) - (x3 * (x14 - x8))))) + ((x11 - x8) * ((x3 * (x13 - x7)) - (x4 * (x12 - x6)))))) * (((x3 * (((x1 - x7) * (x11 - x8)) - ((x2 - x8) * (x10 - x7)))) + (x4 * (((x2 - x8) * (x9 - x6)) - ((x0 - x6) * (x11 - x8))))) + (x5 * (((x0 - x6) * (x10 - x7)) - ((x1 - x7) * (x9 - x6))))))) ((Z1 / ((((x9 - x6) * ((x4 * (x14 - x8)) - (x5 * (x13 - x7)))) + ((x10 - x7) * ((x5 * (x12 - x6)) - (x3 * (x14 - x8))))) + ((x11 - x8) * ((x3 * (x13 - x7)) - (x4 * (x12 - x6)))))) * (((x3 * (((x1 - x7) * (x11 - x8)) - ((x2 - x8) * (x10 - x7)))) + (x4 * (((x2 - x8) * (x9 - x6)) - ((x0 - x6) * (x11 - x8))))) + (x5 * (((x0 - x6) * (x10 - x7)) - ((x1 - x7) * (x9 - x6)))))) := Num.of (Sm.mul m322.sm m329.sm)
  refine call_step (n_rat_Sign (m332.mono (by decide))) rfl ?_
  simp only [fa_agg, fa_one, fa_nil, List.cons_append, List.nil_append, List.append_nil]
  refine primS (.bool false) (cs_lss_f (fun z => c2 ((sg_lt Y0).1 z))) ?_
  refine itF rfl ?_
  have m333 : Num 4860000035 (cr ((Z1 / ((((x9 - x6) * ((x4 * (x14 - x8)) - (x5 * (x13 - x7)))) + ((x10 - x7) * ((x5 * (x12 - x6)) - (x3 * (x14 - x8))))) + ((x11 - x8) * ((x3 * (x13 - x7)) - (x4 * (x12 - x6)))))) * ((((x12 - x6) * (((x1 - x7) * (x11 - x8)) - ((x2 - x8) * (x10 - x7)))) + ((x13 - x7) * (((x2 - x8) * (x9 - x6)) - ((x0 - x6) * (x11 - x8))))) + ((x14 - x8) * (((x0 - x6) * (x10 - x7)) - ((x1 - x7) * (x9 - x6))))))) ((Z1 / ((((x9 - x6) * ((x4 * (x14 - x8)) - (x5 * (x13 - x7)))) + ((x10 - x7) * ((x5 * (x12 - x6)) - (x3 * (x14 - x8))))) + ((x11 - x8) * ((x3 * (x13 - x7)) - (x4 * (x12 - x6)))))) * ((((x12 - x6) * (((x1 - x7) * (x11 - x8)) - ((x2 - x8) * (x10 - x7)))) + ((x13 - x7) * (((x2 - x8) * (x9 - x6)) - ((x0 - x6) * (x11 - x8))))) + ((x14 - x8) * (((x0 - x6) * (x10 - x7)) - ((x1 - x7) * (x9 - x6)))))) := Num.of (Sm.mul m322.sm m331.sm)
  refine call_step (n_rat_Sign (m333.mono (by decide))) rfl ?_
  simp only [fa_agg, fa_one, fa_nil, List.cons_append, List.nil_append, List.append_nil]
  refine primS (.bool false) (cs_leq_f ((sg_gt Y0).2 c3)) ?_
  refine itF rfl ?_
  refine primS (rl [(cr ((Z1 / ((((x9 - x6) * ((x4 * (x14 - x8)) - (x5 * (x13 - x7)))) + ((x10 - x7) * ((x5 * (x12 - x6)) - (x3 * (x14 - x8))))) + ((x11 - x8) * ((x3 * (x13 - x7)) - (x4 * (x12 - x6)))))) * ((((x0 - x6) * ((x4 * (x14 - x8)) - (x5 * (x13 - x7)))) + ((x1 - x7) * ((x5 * (x12 - x6)) - (x3 * (x14 - x8))))) + ((x2 - x8) * ((x3 * (x13 - x7)) - (x4 * (x12 - x6))))))), (cr ((Z1 / ((((x9 - x6) * ((x4 * (x14 - x8)) - (x5 * (x13 - x7)))) + ((x10 - x7) * ((x5 * (x12 - x6)) - (x3 * (x14 - x8))))) + ((x11 - x8) * ((x3 * (x13 - x7)) - (x4 * (x12 - x6)))))) * (((x3 * (((x1 - x7) * (x11 - x8)) - ((x2 - x8) * (x10 - x7)))) + (x4 * (((x2 - x8) * (x9 - x6)) - ((x0 - x6) * (x11 - x8))))) + (x5 * (((x0 - x6) * (x10 - x7)) - ((x1 - x7) * (x9 - x6)))))))]) rfl ?_
  refine call_step (n_rat_Sum_2 (k0 := (((Z1 / ((((x9 - x6) * ((x4 * (x14 - x8)) - (x5 * (x13 - x7)))) + ((x10 - x7) * ((x5 * (x12 - x6)) - (x3 * (x14 - x8))))) + ((x11 - x8) * ((x3 * (x13 - x7)) - (x4 * (x12 - x6)))))) * ((((x0 - x6) * ((x4 * (x14 - x8)) - (x5 * (x13 - x7)))) + ((x1 - x7) * ((x5 * (x12 - x6)) - (x3 * (x14 - x8))))) + ((x2 - x8) * ((x3 * (x13 - x7)) - (x4 * (x12 - x6)))))) + ((Z1 / ((((x9 - x6) * ((x4 * (x14 - x8)) - (x5 * (x13 - x7)))) + ((x10 - x7) * ((x5 * (x12 - x6)) - (x3 * (x14 - x8))))) + ((x11 - x8) * ((x3 * (x13 - x7)) - (x4 * (x12 - x6)))))) * (((x3 * (((x1 - x7) * (x11 - x8)) - ((x2 - x8) * (x10 - x7)))) + (x4 * (((x2 - x8) * (x9 - x6)) - ((x0 - x6) * (x11 - x8))))) + (x5 * (((x0 - x6) * (x10 - x7)) - ((x1 - x7) * (x9 - x6)))))))) (m324.mono (by decide)) (m332.mono (by decide)) rfl) rfl ?_
  simp only [fa_agg, fa_one, fa_nil, List.cons_append, List.nil_append, List.append_nil]
  refine call_step (n_rat_Of (1) (1) (by decide) (by decide) (by decide) (by decide) (Y1.trans (by decide +kernel))) rfl ?_
  simp only [fa_agg, fa_one, fa_nil, List.cons_append, List.nil_append, List.append_nil]
  have m335 : Num 8910000062 (cr (((Z1 / ((((x9 - x6) * ((x4 * (x14 - x8)) - (x5 * (x13 - x7)))) + ((x10 - x7) * ((x5 * (x12 - x6)) - (x3 * (x14 - x8))))) + ((x11 - x8) * ((x3 * (x13 - x7)) - (x4 * (x12 - x6)))))) * ((((x0 - x6) * ((x4 * (x14 - x8)) - (x5 * (x13 - x7)))) + ((x1 - x7) * ((x5 * (x12 - x6)) - (x3 * (x14 - x8))))) + ((x2 - x8) * ((x3 * (x13 - x7)) - (x4 * (x12 - x6)))))) + ((Z1 / ((((x9 - x6) * ((x4 * (x14 - x8)) - (x5 * (x13 - x7)))) + ((x10 - x7) * ((x5 * (x12 - x6)) - (x3 * (x14 - x8))))) + ((x11 - x8) * ((x3 * (x13 - x7)) - (x4 * (x12 - x6)))))) * (((x3 * (((x1 - x7) * (x11 - x8)) - ((x2 - x8) * (x10 - x7)))) + (x4 * (((x2 - x8) * (x9 - x6)) - ((x0 - x6) * (x11 - x8))))) + (x5 * (((x0 - x6) * (x10 - x7)) - ((x1 - x7) * (x9 - x6)))))))) (((Z1 / ((((x9 - x6) * ((x4 * (x14 - x8)) - (x5 * (x13 - x7)))) + ((x10 - x7) * ((x5 * (x12 - x6)) - (x3 * (x14 - x8))))) + ((x11 - x8) * ((x3 * (x13 - x7)) - (x4 * (x12 - x6)))))) * ((((x0 - x6) * ((x4 * (x14 - x8)) - (x5 * (x13 - x7)))) + ((x1 - x7) * ((x5 * (x12 - x6)) - (x3 * (x14 - x8))))) + ((x2 - x8) * ((x3 * (x13 - x7)) - (x4 * (x12 - x6)))))) + ((Z1 / ((((x9 - x6) * ((x4 * (x14 - x8)) - (x5 * (x13 - x7)))) + ((x10 - x7) * ((x5 * (x12 - x6)) - (x3 * (x14 - x8))))) + ((x11 - x8) * ((x3 * (x13 - x7)) - (x4 * (x12 - x6)))))) * (((x3 * (((x1 - x7) * (x11 - x8)) - ((x2 - x8) * (x10 - x7)))) + (x4 * (((x2 - x8) * (x9 - x6)) - ((x0 - x6) * (x11 - x8))))) + (x5 * (((x0 - x6) * (x10 - x7)) - ((x1 - x7) * (x9 - x6))))))) := Num.of (Sm.add m324.sm m332.sm)
  refine call_step (n_rat_Cmp (m335.mono (by decide)) (m316.mono (by decide))) rfl ?_
  simp only [fa_agg, fa_one, fa_nil, List.cons_append, List.nil_append, List.append_nil]
  refine primS (.bool false) (cs_gtr_f (fun z => c4 (cq_gt.1 z))) ?_
  refine itF rfl ?_
  exact ret_step rfl

theorem n_tri_Hit_5 {Z0 Z1 : Rat} (Y0 : Z0 = (0 : Rat)) (Y1 : Z1 = (1 : Rat)) {r0 r1 r2 r3 r4 r5 r6 r7 r8 r9 r10 r11 r12 r13 r14 : RR} {x0 x1 x2 x3 x4 x5 x6 x7 x8 x9 x10 x11 x12 x13 x14 : Rat} {k0 k1 k2 k3 k4 : Rat} (h0 : Num 90000000 r0 x0) (h1 : Num 90000000 r1 x1) (h2 : Num 90000000 r2 x2) (h3 : Num 90000000 r3 x3) (h4 : Num 90000000 r4 x4) (h5 : Num 90000000 r5 x5) (h6 : Num 90000000 r6 x6) (h7 : Num 90000000 r7 x7) (h8 : Num 90000000 r8 x8) (h9 : Num 90000000 r9 x9) (h10 : Num 90000000 r10 x10) (h11 : Num 90000000 r11 x11) (h12 : Num 90000000 r12 x12) (h13 : Num 90000000 r13 x13) (h14 : Num 90000000 r14 x14) (e0 : k0 = ((((x9 - x6) * ((x4 * (x14 - x8)) - (x5 * (x13 - x7)))) + ((x10 - x7) * ((x5 * (x12 - x6)) - (x3 * (x14 - x8))))) + ((x11 - x8) * ((x3 * (x13 - x7)) - (x4 * (x12 - x6)))))) (e1 : k1 = (Z1 / k0)) (e2 : k2 = (k1 * ((((x0 - x6) * ((x4 * (x14 - x8)) - (x5 * (x13 - x7)))) + ((x1 - x7) * ((x5 * (x12 - x6)) - (x3 * (x14 - x8))))) + ((x2 - x8) * ((x3 * (x13 - x7)) - (x4 * (x12 - x6))))))) (e3 : k3 = (k1 * (((x3 * (((x1 - x7) * (x11 - x8)) - ((x2 - x8) * (x10 - x7)))) + (x4 * (((x2 - x8) * (x9 - x6)) - ((x0 - x6) * (x11 - x8))))) + (x5 * (((x0 - x6) * (x10 - x7)) - ((x1 - x7) * (x9 - x6))))))) (e4 : k4 = (k1 * ((((x12 - x6) * (((x1 - x7) * (x11 - x8)) - ((x2 - x8) * (x10 - x7)))) + ((x13 - x7) * (((x2 - x8) * (x9 - x6)) - ((x0 - x6) * (x11 - x8))))) + ((x14 - x8) * (((x0 - x6) * (x10 - x7)) - ((x1 - x7) * (x9 - x6))))))) (c0 : ¬k0 = Z0) (c1 : ¬k2 < Z0) (c2 : ¬k3 < Z0) (c3 : ¬Z0 < k4) : PureCalls prog F.tri_Hit [.agg ([.bool r0.neg, nl r0.num, nl r0.den, .bool r1.neg, nl r1.num, nl r1.den, .bool r2.neg, nl r2.num, nl r2.den]), .agg ([.bool r3.neg, nl r3.num, nl r3.den, .bool r4.neg, nl r4.num, nl r4.den, .bool r5.neg, nl r5.num, nl r5.den]), .agg ([.bool r6.neg, nl r6.num, nl r6.den, .bool r7.neg, nl r7.num, nl r7.den, .bool r8.neg, nl r8.num, nl r8.den, .bool r9.neg, nl r9.num, nl r9.den, .bool r10.neg, nl r10.num, nl r10.den, .bool r11.neg, nl r11.num, nl r11.den, .bool r12.neg, nl r12.num, nl r12.den, .bool r13.neg, nl r13.num, nl r13.den, .bool r14.neg, nl r14.num, nl r14.den])] [.agg ([.bool (decide ((Z0).num < 0)), nn (Z0).num.natAbs, nn (Z0).den, .bool (decide ((Z0).num < 0)), nn (Z0).num.natAbs, nn (Z0).den, .bool (decide ((Z0).num < 0)), nn (Z0).num.natAbs, nn (Z0).den]), .one (.bool false)] := by
  subst e0 e1 e2 e3 e4
  refine symFunc_sound hmix tree_tri_Hit (by kernel_rfl) rfl ?_
  unfold ir_tri_Hit
  simp only [fa_agg, fa_one, fa_nil, List.cons_append, List.nil_append, List.append_nil]
  refine call_step (n_rat_Of (0) (1) (by decide) (by decide) (by decide) (by decide) (Y0.trans (by decide +kernel))) rfl ?_
  simp only [fa_agg, fa_one, fa_nil, List.cons_append, List.nil_append, List.append_nil]
  refine call_step (n_tri_sides_0 (k0 := (x9 - x6)) (k1 := (x10 - x7)) (k2 := (x11 - x8)) (k3 := (x12 - x6)) (k4 := (x13 - x7)) (k5 := (x14 - x8)) (h6.mono (by decide)) (h7.mono (by decide)) (h8.mono (by decide)) (h9.mono (by decide)) (h10.mono (by decide)) (h11.mono (by decide)) (h12.mono (by decide)) (h13.mono (by decide)) (h14.mono (by decide)) rfl rfl rfl rfl rfl rfl) rfl ?_
  simp only [fa_agg, fa_one, fa_nil, List.cons_append, List.nil_append, List.append_nil]
  have m336 : Num 180000001 (cr (x12 - x6)) (x12 - x6) := Num.of (Sm.sub h12.sm h6.sm)
  have m337 : Num 180000001 (cr (x13 - x7)) (x13 - x7) := Num.of (Sm.sub h13.sm h7.sm)
  have m338 : Num 180000001 (cr (x14 - x8)) (x14 - x8) := Num.of (Sm.sub h14.sm h8.sm)
  refine call_step (n_vec_Cross_0 (k0 := ((x4 * (x14 - x8)) - (x5 * (x13 - x7)))) (k1 := ((x5 * (x12 - x6)) - (x3 * (x14 - x8)))) (k2 := ((x3 * (x13 - x7)) - (x4 * (x12 - x6)))) (h3.mono (by decide)) (h4.mono (by decide)) (h5.mono (by decide)) (m336.mono (by decide)) (m337.mono (by decide)) (m338.mono (by decide)) rfl rfl rfl) rfl ?_
  simp only [fa_agg, fa_one, fa_nil, List.cons_append, List.nil_append, List.append_nil]
  have m339 : Num 180000001 (cr (x9 - x6)) (x9 - x6) := Num.of (Sm.sub h9.sm h6.sm)
  have m340 : Num 180000001 (cr (x10 - x7)) (x10 - x7) := Num.of (Sm.sub h10.sm h7.sm)
  have m341 : Num 180000001 (cr (x11 - x8)) (x11 - x8) := Num.of (Sm.sub h11.sm h8.sm)
  have m342 : Num 540000003 (cr ((x4 * (x14 - x8)) - (x5 * (x13 - x7)))) ((x4 * (x14 - x8)) - (x5 * (x13 - x7))) := Num.of (Sm.sub (Sm.mul h4.sm m338.sm) (Sm.mul h5.sm m337.sm))
  have m343 : Num 540000003 (cr ((x5 * (x12 - x6)) - (x3 * (x14 - x8)))) ((x5 * (x12 - x6)) - (x3 * (x14 - x8))) := Num.of (Sm.sub (Sm.mul h5.sm m336.sm) (Sm.mul h3.sm m338.sm))
  have m344 : Num 540000003 (cr ((x3 * (x13 - x7)) - (x4 * (x12 - x6)))) ((x3 * (x13 - x7)) - (x4 * (x12 - x6))) := Num.of (Sm.sub (Sm.mul h3.sm m337.sm) (Sm.mul h4.sm m336.sm))
  refine call_step (n_vec_Dot_0 (k0 := ((((x9 - x6) * ((x4 * (x14 - x8)) - (x5 * (x13 - x7)))) + ((x10 - x7) * ((x5 * (x12 - x6)) - (x3 * (x14 - x8))))) + ((x11 - x8) * ((x3 * (x13 - x7)) - (x4 * (x12 - x6)))))) (m339.mono (by decide)) (m340.mono (by decide)) (m341.mono (by decide)) (m342.mono (by decide)) (m343.mono (by decide)) (m344.mono (by decide)) rfl) rfl ?_
  simp only [fa_agg, fa_one, fa_nil, List.cons_append, List.nil_append, List.append_nil]
  refine call_step (n_rat_Of (1) (1) (by decide) (by decide) (by decide) (by decide) (Y1.trans (by decide +kernel))) rfl ?_
  simp only [fa_agg, fa_one, fa_nil, List.cons_append, List.nil_append, List.append_nil]
  have m345 : Num 1 (cr Z1) Z1 := Num.c Y1 (by decide +kernel) (by decide +kernel)
  have m346 : Num 2160000014 (cr ((((x9 - x6) * ((x4 * (x14 - x8)) - (x5 * (x13 - x7)))) + ((x10 - x7) * ((x5 * (x12 - x6)) - (x3 * (x14 - x8))))) + ((x11 - x8) * ((x3 * (x13 - x7)) - (x4 * (x12 - x6)))))) ((((x9 - x6) * ((x4 * (x14 - x8)) - (x5 * (x13 - x7)))) + ((x10 - x7) * ((x5 * (x12 - x6)) - (x3 * (x14 - x8))))) + ((x11 - x8) * ((x3 * (x13 - x7)) - (x4 * (x12 - x6))))) := Num.of (Sm.add (Sm.add (Sm.mul m339.sm m342.sm) (Sm.mul m340.sm m343.sm)) (Sm.mul m341.sm m344.sm))
  refine call_step (n_rat_Div_f (k0 := (Z1 / ((((x9 - x6) * ((x4 * (x14 - x8)) - (x5 * (x13 - x7)))) + ((x10 - x7) * ((x5 * (x12 - x6)) - (x3 * (x14 - x8))))) + ((x11 - x8) * ((x3 * (x13 - x7)) - (x4 * (x12 - x6))))))) Y0 (m345.mono (by decide)) (m346.mono (by decide)) rfl c0) rfl ?_
  simp only [fa_agg, fa_one, fa_nil, List.cons_append, List.nil_append, List.append_nil]
  refine primS (.bool false) rfl ?_
  refine itF rfl ?_
  refine call_step (n_vec_Sub_0 (k0 := (x0 - x6)) (k1 := (x1 - x7)) (k2 := (x2 - x8)) (h0.mono (by decide)) (h1.mono (by decide)) (h2.mono (by decide)) (h6.mono (by decide)) (h7.mono (by decide)) (h8.mono (by decide)) rfl rfl rfl) rfl ?_
  simp only [fa_agg, fa_one, fa_nil, List.cons_append, List.nil_append, List.append_nil]
  have m347 : Num 180000001 (cr (x0 - x6)) (x0 - x6) := Num.of (Sm.sub h0.sm h6.sm)
  have m348 : Num 180000001 (cr (x1 - x7)) (x1 - x7) := Num.of (Sm.sub h1.sm h7.sm)
  have m349 : Num 180000001 (cr (x2 - x8)) (x2 - x8) := Num.of (Sm.sub h2.sm h8.sm)
  refine call_step (n_vec_Dot_0 (k0 := ((((x0 - x6) * ((x4 * (x14 - x8)) - (x5 * (x13 - x7)))) + ((x1 - x7) * ((x5 * (x12 - x6)) - (x3 * (x14 - x8))))) + ((x2 - x8) * ((x3 * (x13 - x7)) - (x4 * (x12 - x6)))))) (m347.mono (by decide)) (m348.mono (by decide)) (m349.mono (by decide)) (m342.mono (by decide)) (m343.mono (by decide)) (m344.mono (by decide)) rfl) rfl ?_
  simp only [fa_agg, fa_one, fa_nil, List.cons_append, List.nil_append, List.append_nil]
  refine primS (rl [(cr (Z1 / ((((x9 - x6) * ((x4 * (x14 - x8)) - (x5 * (x13 - x7)))) + ((x10 - x7) * ((x5 * (x12 - x6)) - (x3 * (x14 - x8))))) + ((x11 - x8) * ((x3 * (x13 - x7)) - (x4 * (x12 - x6))))))), (cr ((((x0 - x6) * ((x4 * (x14 - x8)) - (x5 * (x13 - x7)))) + ((x1 - x7) * ((x5 * (x12 - x6)) - (x3 * (x14 - x8))))) + ((x2 - x8) * ((x3 * (x13 - x7)) - (x4 * (x12 - x6))))))]) rfl ?_
  have m351 : Num 2160000015 (cr (Z1 / ((((x9 - x6) * ((x4 * (x14 - x8)) - (x5 * (x13 - x7)))) + ((x10 - x7) * ((x5 * (x12 - x6)) - (x3 * (x14 - x8))))) + ((x11 - x8) * ((x3 * (x13 - x7)) - (x4 * (x12 - x6))))))) (Z1 / ((((x9 - x6) * ((x4 * (x14 - x8)) - (x5 * (x13 - x7)))) + ((x10 - x7) * ((x5 * (x12 - x6)) - (x3 * (x14 - x8))))) + ((x11 - x8) * ((x3 * (x13 - x7)) - (x4 * (x12 - x6)))))) := Num.of (Sm.div m345.sm m346.sm)
  have m352 : Num 2160000014 (cr ((((x0 - x6) * ((x4 * (x14 - x8)) - (x5 * (x13 - x7)))) + ((x1 - x7) * ((x5 * (x12 - x6)) - (x3 * (x14 - x8))))) + ((x2 - x8) * ((x3 * (x13 - x7)) - (x4 * (x12 - x6)))))) ((((x0 - x6) * ((x4 * (x14 - x8)) - (x5 * (x13 - x7)))) + ((x1 - x7) * ((x5 * (x12 - x6)) - (x3 * (x14 - x8))))) + ((x2 - x8) * ((x3 * (x13 - x7)) - (x4 * (x12 - x6))))) := Num.of (Sm.add (Sm.add (Sm.mul m347.sm m342.sm) (Sm.mul m348.sm m343.sm)) (Sm.mul m349.sm m344.sm))
  refine call_step (n_rat_Product_2 (k0 := ((Z1 / ((((x9 - x6) * ((x4 * (x14 - x8)) - (x5 * (x13 - x7)))) + ((x10 - x7) * ((x5 * (x12 - x6)) - (x3 * (x14 - x8))))) + ((x11 - x8) * ((x3 * (x13 - x7)) - (x4 * (x12 - x6)))))) * ((((x0 - x6) * ((x4 * (x14 - x8)) - (x5 * (x13 - x7)))) + ((x1 - x7) * ((x5 * (x12 - x6)) - (x3 * (x14 - x8))))) + ((x2 - x8) * ((x3 * (x13 - x7)) - (x4 * (x12 - x6))))))) (m351.mono (by decide)) (m352.mono (by decide)) rfl) rfl ?_
  simp only [fa_agg, fa_one, fa_nil, List.cons_append, List.nil_append, List.append_nil]
  have m353 : Num 4320000029 (cr ((Z1 / ((((x9 - x6) * ((x4 * (x14 - x8)) - (x5 * (x13 - x7)))) + ((x10 - x7) * ((x5 * (x12 - x6)) - (x3 * (x14 - x8))))) + ((x11 - x8) * ((x3 * (x13 - x7)) - (x4 * (x12 - x6)))))) * ((((x0 - x6) * ((x4 * (x14 - x8)) - (x5 * (x13 - x7)))) + ((x1 - x7) * ((x5 * (x12 - x6)) - (x3 * (x14 - x8))))) + ((x2 - x8) * ((x3 * (x13 - x7)) - (x4 * (x12 - x6))))))) ((Z1 / ((((x9 - x6) * ((x4 * (x14 - x8)) - (x5 * (x13 - x7)))) + ((x10 - x7) * ((x5 * (x12 - x6)) - (x3 * (x14 - x8))))) + ((x11 - x8) * ((x3 * (x13 - x7)) - (x4 * (x12 - x6)))))) * ((((x0 - x6) * ((x4 * (x14 - x8)) - (x5 * (x13 - x7)))) + ((x1 - x7) * ((x5 * (x12 - x6)) - (x3 * (x14 - x8))))) + ((x2 - x8) * ((x3 * (x13 - x7)) - (x4 * (x12 - x6)))))) := Num.of (Sm.mul m351.sm m352.sm)
  refine call_step (n_rat_Sign (m353.mono (by decide))) rfl ?_
  simp only [fa_agg, fa_one, fa_nil, List.cons_append, List.nil_append, List.append_nil]
  refine primS (.bool false) (cs_lss_f (fun z => c1 ((sg_lt Y0).1 z))) ?_
  refine itF rfl ?_
  refine call_step (n_vec_Cross_0 (k0 := (((x1 - x7) * (x11 - x8)) - ((x2 - x8) * (x10 - x7)))) (k1 := (((x2 - x8) * (x9 - x6)) - ((x0 - x6) * (x11 - x8)))) (k2 := (((x0 - x6) * (x10 - x7)) - ((x1 - x7) * (x9 - x6)))) (m347.mono (by decide)) (m348.mono (by decide)) (m349.mono (by decide)) (m339.mono (by decide)) (m340.mono (by decide)) (m341.mono (by decide)) rfl rfl rfl) rfl ?_
  simp only [fa_agg, fa_one, fa_nil, List.cons_append, List.nil_append, List.append_nil]
  have m354 : Num 720000005 (cr (((x1 - x7) * (x11 - x8)) - ((x2 - x8) * (x10 - x7)))) (((x1 - x7) * (x11 - x8)) - ((x2 - x8) * (x10 - x7))) := Num.of (Sm.sub (Sm.mul m348.sm m341.sm) (Sm.mul m349.sm m340.sm))
  have m355 : Num 720000005 (cr (((x2 - x8) * (x9 - x6)) - ((x0 - x6) * (x11 - x8)))) (((x2 - x8) * (x9 - x6)) - ((x0 - x6) * (x11 - x8))) := Num.of (Sm.sub (Sm.mul m349.sm m339.sm) (Sm.mul m347.sm m341.sm))
  have m356 : Num 720000005 (cr (((x0 - x6) * (x10 - x7)) - ((x1 - x7) * (x9 - x6)))) (((x0 - x6) * (x10 - x7)) - ((x1 - x7) * (x9 - x6))) := Num.of (Sm.sub (Sm.mul m347.sm m340.sm) (Sm.mul m348.sm m339.sm))
  refine call_step (n_vec_Dot_0 (k0 := (((x3 * (((x1 - x7) * (x11 - x8)) - ((x2 - x8) * (x10 - x7)))) + (x4 * (((x2 - x8) * (x9 - x6)) - ((x0 - x6) * (x11 - x8))))) + (x5 * (((x0 - x6) * (x10 - x7)) - ((x1 - x7) * (x9 - x6)))))) (h3.mono (by decide)) (h4.mono (by decide)) (h5.mono (by decide)) (m354.mono (by decide)) (m355.mono (by decide)) (m356.mono (by decide)) rfl) rfl ?_
  simp only [fa_agg, fa_one, fa_nil, List.cons_append, List.nil_append, List.append_nil]
  refine primS (rl [(cr (Z1 / ((((x9 - x6) * ((x4 * (x14 - x8)) - (x5 * (x13 - x7)))) + ((x10 - x7) * ((x5 * (x12 - x6)) - (x3 * (x14 - x8))))) + ((x11 - x8) * ((x3 * (x13 - x7)) - (x4 * (x12 - x6))))))), (cr (((x3 * (((x1 - x7) * (x11 - x8)) - ((x2 - x8) * (x10 - x7)))) + (x4 * (((x2 - x8) * (x9 - x6)) - ((x0 - x6) * (x11 - x8))))) + (x5 * (((x0 - x6) * (x10 - x7)) - ((x1 - x7) * (x9 - x6))))))]) rfl ?_
  have m358 : Num 2430000017 (cr (((x3 * (((x1 - x7) * (x11 - x8)) - ((x2 - x8) * (x10 - x7)))) + (x4 * (((x2 - x8) * (x9 - x6)) - ((x0 - x6) * (x11 - x8))))) + (x5 * (((x0 - x6) * (x10 - x7)) - ((x1 - x7) * (x9 - x6)))))) (((x3 * (((x1 - x7) * (x11 - x8)) - ((x2 - x8) * (x10 - x7)))) + (x4 * (((x2 - x8) * (x9 - x6)) - ((x0 - x6) * (x11 - x8))))) + (x5 * (((x0 - x6) * (x10 - x7)) - ((x1 - x7) * (x9 - x6))))) := Num.of (Sm.add (Sm.add (Sm.mul h3.sm m354.sm) (Sm.mul h4.sm m355.sm)) (Sm.mul h5.sm m356.sm))
  refine call_step (n_rat_Product_2 (k0 := ((Z1 / ((((x9 - x6) * ((x4 * (x14 - x8)) - (x5 * (x13 - x7)))) + ((x10 - x7) * ((x5 * (x12 - x6)) - (x3 * (x14 - x8))))) + ((x11 - x8) * ((x3 * (x13 - x7)) - (x4 * (x12 - x6)))))) * (((x3 * (((x1 - x7) * (x11 - x8)) - ((x2 - x8) * (x10 - x7)))) + (x4 * (((x2 - x8) * (x9 - x6)) - ((x0 - x6) * (x11 - x8))))) + (x5 * (((x0 - x6) * (x10 - x7)) - ((x1 - x7) * (x9 - x6))))))) (m351.mono (by decide)) (m358.mono (by decide)) rfl) rfl ?_
  simp only [fa_agg, fa_one, fa_nil, List.cons_append, List.nil_append, List.append_nil]
  refine call_step (n_vec_Dot_0 (k0 := ((((x12 - x6) * (((x1 - x7) * (x11 - x8)) - ((x2 - x8) * (x10 - x7)))) + ((x13 - x7) * (((x2 - x8) * (x9 - x6)) - ((x0 - x6) * (x11 - x8))))) + ((x14 - x8) * (((x0 - x6) * (x10 - x7)) - ((x1 - x7) * (x9 - x6)))))) (m336.mono (by decide)) (m337.mono (by decide)) (m338.mono (by decide)) (m354.mono (by decide)) (m355.mono (by decide)) (m356.mono (by decide)) rfl) rfl ?_
  simp only [fa_agg, fa_one, fa_nil, List.cons_append, List.nil_append, List.append_nil]
  refine primS (rl [(cr (Z1 / ((((x9 - x6) * ((x4 * (x14 - x8)) - (x5 * (x13 - x7)))) + ((x10 - x7) * ((x5 * (x12 - x6)) - (x3 * (x14 - x8))))) + ((x11 - x8) * ((x3 * (x13 - x7)) - (x4 * (x12 - x6))))))), (cr ((((x12 - x6) * (((x1 - x7) * (x11 - x8)) - ((x2 - x8) * (x10 - x7)))) + ((x13 - x7) * (((x2 - x8) * (x9 - x6)) - ((x0 - x6) * (x11 - x8))))) + ((x14 - x8) * (((x0 - x6) * (x10 - x7)) - ((x1 - x7) * (x9 - x6))))))]) rfl ?_
  have m360 : Num 2700000020 (cr ((((x12 - x6) * (((x1 - x7) * (x11 - x8)) - ((x2 - x8) * (x10 - x7)))) + ((x13 - x7) * (((x2 - x8) * (x9 - x6)) - ((x0 - x6) * (x11 - x8))))) + ((x14 - x8) * (((x0 - x6) * (x10 - x7)) - ((x1 - x7) * (x9 - x6)))))) ((((x12 - x6) * (((x1 - x7) * (x11 - x8)) - ((x2 - x8) * (x10 - x7)))) + ((x13 - x7) * (((x2 - x8) * (x9 - x6)) - ((x0 - x6) * (x11 - x8))))) + ((x14 - x8) * (((x0 - x6) * (x10 - x7)) - ((x1 - x7) * (x9 - x6))))) := Num.of (Sm.add (Sm.add (Sm.mul m336.sm m354.sm) (Sm.mul m337.sm m355.sm)) (Sm.mul m338.sm m356.sm))
  refine call_step (n_rat_Product_2 (k0 := ((Z1 / ((((x9 - x6) * ((x4 * (x14 - x8)) - (x5 * (x13 - x7)))) + ((x10 - x7) * ((x5 * (x12 - x6)) - (x3 * (x14 - x8))))) + ((x11 - x8) * ((x3 * (x13 - x7)) - (x4 * (x12 - x6)))))) * ((((x12 - x6) * (((x1 - x7) * (x11 - x8)) - ((x2 - x8) * (x10 - x7)))) + ((x13 - x7) * (((x2 - x8) * (x9 - x6)) - ((x0 - x6) * (x11 - x8))))) + ((x14 - x8) * (((x0 - x6) * (x10 - x7)) - ((x1 - x7) * (x9 - x6))))))) (m351.mono (by decide)) (m360.mono (by decide)) rfl) rfl ?_
  simp only [fa_agg, fa_one, fa_nil, List.cons_append, List.nil_append, List.append_nil]
  have m361 : Num 4590000032 (cr ((Z1 / ((((x9 - x6) * ((x4 * (x14 - x8)) - (x5 * (x13 - x7)))) + ((x10 - x7) * ((x5 * (x12 - x6)) - (x3 * (x14 - x8))))) + ((x11 - x8) * ((x3 * (x13 - x7)) - (x4 * (x12 - x6)))))) * (((x3 * (((x1 - x7) * (x11 - x8)) - ((x2 - x8) * (x10 - x7)))) + (x4 * (((x2 - x8) * (x9 - x6)) - ((x0 - x6) * (x11 - x8))))) + (x5 * (((x0 - x6) * (x10 - x7)) - ((x1 - x7) * (x9 - x6))))))) ((Z1 / ((((x9 - x6) * ((x4 * (x14 - x8)) - (x5 * (x13 - x7)))) + ((x10 - x7) * ((x5 * (x12 - x6)) - (x3 * (x14 - x8))))) + ((x11 - x8) * ((x3 * (x13 - x7)) - (x4 * (x12 - x6)))))) * (((x3 * (((x1 - x7) * (x11 - x8)) - ((x2 - x8) * (x10 - x7)))) + (x4 * (((x2 - x8) * (x9 - x6)) - ((x0 - x6) * (x11 - x8))))) + (x5 * (((x0 - x6) * (x10 - x7)) - ((x1 - x7) * (x9 - x6)))))) := Num.of (Sm.mul m351.sm m358.sm)
  refine call_step (n_rat_Sign (m361.mono (by decide))) rfl ?_
  simp only [fa_agg, fa_one, fa_nil, List.cons_append, List.nil_append, List.append_nil]
  refine primS (.bool false) (cs_lss_f (fun z => c2 ((sg_lt Y0).1 z))) ?_
  refine itF rfl ?_
  have m362 : Num 4860000035 (cr ((Z1 / ((((x9 - x6) * ((x4 * (x14 - x8)) - (x5 * (x13 - x7)))) + ((x10 - x7) * ((x5 * (x12 - x6)) - (x3 * (x14 - x8))))) + ((x11 - x8) * ((x3 * (x13 - x7)) - (x4 * (x12 - x6)))))) * ((((x12 - x6) * (((x1 - x7) * (x11 - x8)) - ((x2 - x8) * (x10 - x7)))) + ((x13 - x7) * (((x2 - x8) * (x9 - x6)) - ((x0 - x6) * (x11 - x8))))) + ((x14 - x8) * (((x0 - x6) * (x10 - x7)) - ((x1 - x7) * (x9 - x6))))))) ((Z1 / ((((x9 - x6) * ((x4 * (x14 - x8)) - (x5 * (x13 - x7)))) + ((x10 - x7) * ((x5 * (x12 - x6)) - (x3 * (x14 - x8))))) + ((x11 - x8) * ((x3 * (x13 - x7)) - (x4 * (x12 - x6)))))) * ((((x12 - x6) * (((x1 - x7) * (x11 - x8)) - ((x2 - x8) * (x10 - x7)))) + ((x13 - x7) * (((x2 - x8) * (x9 - x6)) - ((x0 - x6) * (x11 - x8))))) + ((x14 - x8) * (((x0 - x6) * (x10 - x7)) - ((x1 - x7) * (x9 - x6)))))) := Num.of (Sm.mul m351.sm m360.sm)
  refine call_step (n_rat_Sign (m362.mono (by decide))) rfl ?_
  simp only [fa_agg, fa_one, fa_nil, List.cons_append, List.nil_append, List.append_nil]
  refine primS (.bool true) (cs_leq_t (fun z => c3 ((sg_gt Y0).1 z))) ?_
  refine itT rfl ?_
  exact ret_step rfl

theorem n_penumbralaw08_unit_0 {Z0 Z1 : Rat} (Y0 : Z0 = (0 : Rat)) (Y1 : Z1 = (1 : Rat))    : PureCalls prog F.penumbralaw08_unit [] [.agg ([.bool (decide ((Z0).num < 0)), nn (Z0).num.natAbs, nn (Z0).den, .bool (decide ((Z0).num < 0)), nn (Z0).num.natAbs, nn (Z0).den, .bool (decide ((Z0).num < 0)), nn (Z0).num.natAbs, nn (Z0).den, .bool (decide ((Z1).num < 0)), nn (Z1).num.natAbs, nn (Z1).den, .bool (decide ((Z0).num < 0)), nn (Z0).num.natAbs, nn (Z0).den, .bool (decide ((Z0).num < 0)), nn (Z0).num.natAbs, nn (Z0).den, .bool (decide ((Z0).num < 0)), nn (Z0).num.natAbs, nn (Z0).den, .bool (decide ((Z1).num < 0)), nn (Z1).num.natAbs, nn (Z1).den, .bool (decide ((Z0).num < 0)), nn (Z0).num.natAbs, nn (Z0).den])] := by
  refine symFunc_sound hmix tree_penumbralaw08_unit (by kernel_rfl) rfl ?_
  unfold ir_penumbralaw08_unit
  simp only [fa_agg, fa_one, fa_nil, List.cons_append, List.nil_append, List.append_nil]
  refine call_step (n_vec_Of (0) (0) (0) (by decide) (by decide) (by decide) (by decide) (by decide) (by decide) (Y0.trans (by decide +kernel)) (Y0.trans (by decide +kernel)) (Y0.trans (by decide +kernel))) rfl ?_
  simp only [fa_agg, fa_one, fa_nil, List.cons_append, List.nil_append, List.append_nil]
  refine call_step (n_vec_Of (1) (0) (0) (by decide) (by decide) (by decide) (by decide) (by decide) (by decide) (Y1.trans (by decide +kernel)) (Y0.trans (by decide +kernel)) (Y0.trans (by decide +kernel))) rfl ?_
  simp only [fa_agg, fa_one, fa_nil, List.cons_append, List.nil_append, List.append_nil]
  refine call_step (n_vec_Of (0) (1) (0) (by decide) (by decide) (by decide) (by decide) (by decide) (by decide) (Y0.trans (by decide +kernel)) (Y1.trans (by decide +kernel)) (Y0.trans (by decide +kernel))) rfl ?_
  simp only [fa_agg, fa_one, fa_nil, List.cons_append, List.nil_append, List.append_nil]
  exact ret_step rfl

theorem n_tri_Normal_0  {r0 r1 r2 r3 r4 r5 r6 r7 r8 : RR} {x0 x1 x2 x3 x4 x5 x6 x7 x8 : Rat} {k0 k1 k2 : Rat} (h0 : Num 900000000 r0 x0) (h1 : Num 900000000 r1 x1) (h2 : Num 900000000 r2 x2) (h3 : Num 900000000 r3 x3) (h4 : Num 900000000 r4 x4) (h5 : Num 900000000 r5 x5) (h6 : Num 900000000 r6 x6) (h7 : Num 900000000 r7 x7) (h8 : Num 900000000 r8 x8) (e0 : k0 = (((x4 - x1) * (x8 - x2)) - ((x5 - x2) * (x7 - x1)))) (e1 : k1 = (((x5 - x2) * (x6 - x0)) - ((x3 - x0) * (x8 - x2)))) (e2 : k2 = (((x3 - x0) * (x7 - x1)) - ((x4 - x1) * (x6 - x0))))  : PureCalls prog F.tri_Normal [.agg ([.bool r0.neg, nl r0.num, nl r0.den, .bool r1.neg, nl r1.num, nl r1.den, .bool r2.neg, nl r2.num, nl r2.den, .bool r3.neg, nl r3.num, nl r3.den, .bool r4.neg, nl r4.num, nl r4.den, .bool r5.neg, nl r5.num, nl r5.den, .bool r6.neg, nl r6.num, nl r6.den, .bool r7.neg, nl r7.num, nl r7.den, .bool r8.neg, nl r8.num, nl r8.den])] [.agg ([.bool (decide ((k0).num < 0)), nn (k0).num.natAbs, nn (k0).den, .bool (decide ((k1).num < 0)), nn (k1).num.natAbs, nn (k1).den, .bool (decide ((k2).num < 0)), nn (k2).num.natAbs, nn (k2).den])] := by
  subst e0 e1 e2
  refine symFunc_sound hmix tree_tri_Normal (by kernel_rfl) rfl ?_
  unfold ir_tri_Normal
  simp only [fa_agg, fa_one, fa_nil, List.cons_append, List.nil_append, List.append_nil]
  refine call_step (n_tri_sides_0 (k0 := (x3 - x0)) (k1 := (x4 - x1)) (k2 := (x5 - x2)) (k3 := (x6 - x0)) (k4 := (x7 - x1)) (k5 := (x8 - x2)) (h0.mono (by decide)) (h1.mono (by decide)) (h2.mono (by decide)) (h3.mono (by decide)) (h4.mono (by decide)) (h5.mono (by decide)) (h6.mono (by decide)) (h7.mono (by decide)) (h8.mono (by decide)) rfl rfl rfl rfl rfl rfl) rfl ?_
  simp only [fa_agg, fa_one, fa_nil, List.cons_append, List.nil_append, List.append_nil]
  have m369 : Num 1800000001 (cr (x3 - x0)) (x3 - x0) := Num.of (Sm.sub h3.sm h0.sm)
  have m370 : Num 1800000001 (cr (x4 - x1)) (x4 - x1) := Num.of (Sm.sub h4.sm h1.sm)
  have m371 : Num 1800000001 (cr (x5 - x2)) (x5 - x2) := Num.of (Sm.sub h5.sm h2.sm)
  have m372 : Num 1800000001 (cr (x6 - x0)) (x6 - x0) := Num.of (Sm.sub h6.sm h0.sm)
  have m373 : Num 1800000001 (cr (x7 - x1)) (x7 - x1) := Num.of (Sm.sub h7.sm h1.sm)
  have m374 : Num 1800000001 (cr (x8 - x2)) (x8 - x2) := Num.of (Sm.sub h8.sm h2.sm)
  refine call_step (n_vec_Cross_0 (k0 := (((x4 - x1) * (x8 - x2)) - ((x5 - x2) * (x7 - x1)))) (k1 := (((x5 - x2) * (x6 - x0)) - ((x3 - x0) * (x8 - x2)))) (k2 := (((x3 - x0) * (x7 - x1)) - ((x4 - x1) * (x6 - x0)))) (m369.mono (by decide)) (m370.mono (by decide)) (m371.mono (by decide)) (m372.mono (by decide)) (m373.mono (by decide)) (m374.mono (by decide)) rfl rfl rfl) rfl ?_
  simp only [fa_agg, fa_one, fa_nil, List.cons_append, List.nil_append, List.append_nil]
  exact ret_step rfl

theorem n_penumbraref05_Is_0  {x0 x1 x2 x3 x4 x5 : Rat} (h0 : Num 9000000000 (cr x0) x0) (h1 : Num 9000000000 (cr x1) x1) (h2 : Num 9000000000 (cr x2) x2) (h3 : Num 9000000000 (cr x3) x3) (h4 : Num 9000000000 (cr x4) x4) (h5 : Num 9000000000 (cr x5) x5)  (c0 : x0 = x3) (c1 : x1 = x4) (c2 : x2 = x5) : PureCalls prog F.penumbraref05_Is [.agg ([.bool (decide ((x0).num < 0)), nn (x0).num.natAbs, nn (x0).den, .bool (decide ((x1).num < 0)), nn (x1).num.natAbs, nn (x1).den, .bool (decide ((x2).num < 0)), nn (x2).num.natAbs, nn (x2).den]), .agg ([.bool (decide ((x3).num < 0)), nn (x3).num.natAbs, nn (x3).den, .bool (decide ((x4).num < 0)), nn (x4).num.natAbs, nn (x4).den, .bool (decide ((x5).num < 0)), nn (x5).num.natAbs, nn (x5).den])] [.one (.bool true)] := by
  refine symFunc_sound hmix tree_penumbraref05_Is (by kernel_rfl) rfl ?_
  unfold ir_penumbraref05_Is
  simp only [fa_agg, fa_one, fa_nil, List.cons_append, List.nil_append, List.append_nil]
  refine call_step (n_penumbraref03_Is_t (h0.mono (by decide)) (h3.mono (by decide)) c0) rfl ?_
  simp only [fa_agg, fa_one, fa_nil, List.cons_append, List.nil_append, List.append_nil]
  refine itT rfl ?_
  refine call_step (n_penumbraref03_Is_t (h1.mono (by decide)) (h4.mono (by decide)) c1) rfl ?_
  simp only [fa_agg, fa_one, fa_nil, List.cons_append, List.nil_append, List.append_nil]
  refine itT rfl ?_
  refine call_step (n_penumbraref03_Is_t (h2.mono (by decide)) (h5.mono (by decide)) c2) rfl ?_
  simp only [fa_agg, fa_one, fa_nil, List.cons_append, List.nil_append, List.append_nil]
  exact ret_step rfl

theorem n_vec_Unit_at0 {Z0 Z1 : Rat} (Y0 : Z0 = (0 : Rat)) (Y1 : Z1 = (1 : Rat)) : PureCalls prog F.vec_Unit [.agg ([.bool (decide ((Z0).num < 0)), nn (Z0).num.natAbs, nn (Z0).den, .bool (decide ((Z0).num < 0)), nn (Z0).num.natAbs, nn (Z0).den, .bool (decide ((Z1).num < 0)), nn (Z1).num.natAbs, nn (Z1).den])] [.agg ([.bool (decide ((Z0).num < 0)), nn (Z0).num.natAbs, nn (Z0).den, .bool (decide ((Z0).num < 0)), nn (Z0).num.natAbs, nn (Z0).den, .bool (decide ((Z1).num < 0)), nn (Z1).num.natAbs, nn (Z1).den]), .agg ([.bool (decide ((Z1).num < 0)), nn (Z1).num.natAbs, nn (Z1).den]), .one (.bool true)] := by
  refine symFunc_sound hmix tree_vec_Unit (by kernel_rfl) rfl ?_
  unfold ir_vec_Unit
  simp only [fa_agg, fa_one, fa_nil, List.cons_append, List.nil_append, List.append_nil]
  have m382 : Num 1 (cr Z0) Z0 := Num.c Y0 (by decide +kernel) (by decide +kernel)
  have m383 : Num 1 (cr Z1) Z1 := Num.c Y1 (by decide +kernel) (by decide +kernel)
  refine call_step (n_vec_Dot_0 (k0 := Z1) (m382.mono (by decide)) (m382.mono (by decide)) (m383.mono (by decide)) (m382.mono (by decide)) (m382.mono (by decide)) (m383.mono (by decide)) (by rw [Y1, Y0] <;> decide +kernel)) rfl ?_
  simp only [fa_agg, fa_one, fa_nil, List.cons_append, List.nil_append, List.append_nil]
  refine call_step (n_rat_Sqrt_t (m383.mono (by decide)) 1 1 (by rw [Y1] <;> decide +kernel) (by rw [Y1] <;> decide +kernel) (Y1.trans (by decide +kernel))) rfl ?_
  simp only [fa_agg, fa_one, fa_nil, List.cons_append, List.nil_append, List.append_nil]
  refine call_step (n_rat_Of (1) (1) (by decide) (by decide) (by decide) (by decide) (Y1.trans (by decide +kernel))) rfl ?_
  simp only [fa_agg, fa_one, fa_nil, List.cons_append, List.nil_append, List.append_nil]
  refine call_step (n_rat_Div_f (k0 := Z1) Y0 (m383.mono (by decide)) (m383.mono (by decide)) (by rw [Y1] <;> decide +kernel) (show ¬(Z1 = Z0) by rw [Y1, Y0] <;> decide +kernel)) rfl ?_
  simp only [fa_agg, fa_one, fa_nil, List.cons_append, List.nil_append, List.append_nil]
  refine primS (.bool false) rfl ?_
  refine itF rfl ?_
  refine primS (.bool false) rfl ?_
  refine itF rfl ?_
  refine call_step (n_vec_Scale_0 (k0 := Z0) (k1 := Z0) (k2 := Z1) (m383.mono (by decide)) (m382.mono (by decide)) (m382.mono (by decide)) (m383.mono (by decide)) (by rw [Y0, Y1] <;> decide +kernel) (by rw [Y0, Y1] <;> decide +kernel) (by rw [Y1] <;> decide +kernel)) rfl ?_
  simp only [fa_agg, fa_one, fa_nil, List.cons_append, List.nil_append, List.append_nil]
  exact ret_step rfl

theorem n_tri_Unit_at0 {Z0 Z1_2 Z1 : Rat} (Y0 : Z0 = (0 : Rat)) (Y1_2 : Z1_2 = (1/2 : Rat)) (Y1 : Z1 = (1 : Rat)) : PureCalls prog F.tri_Unit [.agg ([.bool (decide ((Z0).num < 0)), nn (Z0).num.natAbs, nn (Z0).den, .bool (decide ((Z0).num < 0)), nn (Z0).num.natAbs, nn (Z0).den, .bool (decide ((Z0).num < 0)), nn (Z0).num.natAbs, nn (Z0).den, .bool (decide ((Z1).num < 0)), nn (Z1).num.natAbs, nn (Z1).den, .bool (decide ((Z0).num < 0)), nn (Z0).num.natAbs, nn (Z0).den, .bool (decide ((Z0).num < 0)), nn (Z0).num.natAbs, nn (Z0).den, .bool (decide ((Z0).num < 0)), nn (Z0).num.natAbs, nn (Z0).den, .bool (decide ((Z1).num < 0)), nn (Z1).num.natAbs, nn (Z1).den, .bool (decide ((Z0).num < 0)), nn (Z0).num.natAbs, nn (Z0).den])] [.agg ([.bool (decide ((Z0).num < 0)), nn (Z0).num.natAbs, nn (Z0).den, .bool (decide ((Z0).num < 0)), nn (Z0).num.natAbs, nn (Z0).den, .bool (decide ((Z1).num < 0)), nn (Z1).num.natAbs, nn (Z1).den]), .agg ([.bool (decide ((Z1_2).num < 0)), nn (Z1_2).num.natAbs, nn (Z1_2).den]), .one (.bool true)] := by
  refine symFunc_sound hmix tree_tri_Unit (by kernel_rfl) rfl ?_
  unfold ir_tri_Unit
  simp only [fa_agg, fa_one, fa_nil, List.cons_append, List.nil_append, List.append_nil]
  have m380 : Num 1 (cr Z0) Z0 := Num.c Y0 (by decide +kernel) (by decide +kernel)
  have m381 : Num 1 (cr Z1) Z1 := Num.c Y1 (by decide +kernel) (by decide +kernel)
  refine call_step (n_tri_Normal_0 (k0 := Z0) (k1 := Z0) (k2 := Z1) (m380.mono (by decide)) (m380.mono (by decide)) (m380.mono (by decide)) (m381.mono (by decide)) (m380.mono (by decide)) (m380.mono (by decide)) (m380.mono (by decide)) (m381.mono (by decide)) (m380.mono (by decide)) (by rw [Y0, Y1] <;> decide +kernel) (by rw [Y0, Y1] <;> decide +kernel) (by rw [Y1, Y0] <;> decide +kernel)) rfl ?_
  simp only [fa_agg, fa_one, fa_nil, List.cons_append, List.nil_append, List.append_nil]
  refine call_step (n_vec_Unit_at0 Y0 Y1) rfl ?_
  simp only [fa_agg, fa_one, fa_nil, List.cons_append, List.nil_append, List.append_nil]
  refine call_step (n_rat_Of (1) (2) (by decide) (by decide) (by decide) (by decide) (Y1_2.trans (by decide +kernel))) rfl ?_
  simp only [fa_agg, fa_one, fa_nil, List.cons_append, List.nil_append, List.append_nil]
  refine primS (rl [(cr Z1), (cr Z1_2)]) rfl ?_
  have m385 : Num 1 (cr Z1_2) Z1_2 := Num.c Y1_2 (by decide +kernel) (by decide +kernel)
  refine call_step (n_rat_Product_2 (k0 := Z1_2) (m381.mono (by decide)) (m385.mono (by decide)) (by rw [Y1_2, Y1] <;> decide +kernel)) rfl ?_
  simp only [fa_agg, fa_one, fa_nil, List.cons_append, List.nil_append, List.append_nil]
  exact ret_step rfl

theorem n_penumbralaw08_fixed : PureCalls prog F.penumbralaw08_fixed [] [.one (.bool true)] := by
  obtain ⟨Zm2, Ym2⟩ := ex_eq (-2 : Rat)
  obtain ⟨Zm1, Ym1⟩ := ex_eq (-1 : Rat)
  obtain ⟨Z0, Y0⟩ := ex_eq (0 : Rat)
  obtain ⟨Z1_4, Y1_4⟩ := ex_eq (1/4 : Rat)
  obtain ⟨Z1_2, Y1_2⟩ := ex_eq (1/2 : Rat)
  obtain ⟨Z1, Y1⟩ := ex_eq (1 : Rat)
  obtain ⟨Z2, Y2⟩ := ex_eq (2 : Rat)
  refine symFunc_sound hmix tree_penumbralaw08_fixed (by kernel_rfl) rfl ?_
  unfold ir_penumbralaw08_fixed
  simp only [fa_agg, fa_one, fa_nil, List.cons_append, List.nil_append, List.append_nil]
  refine call_step (n_rat_Of (1) (4) (by decide) (by decide) (by decide) (by decide) (Y1_4.trans (by decide +kernel))) rfl ?_
  simp only [fa_agg, fa_one, fa_nil, List.cons_append, List.nil_append, List.append_nil]
  refine call_step (n_rat_Of (1) (1) (by decide) (by decide) (by decide) (by decide) (Y1.trans (by decide +kernel))) rfl ?_
  simp only [fa_agg, fa_one, fa_nil, List.cons_append, List.nil_append, List.append_nil]
  refine call_step (n_vec_Of (0) (0) (-2) (by decide) (by decide) (by decide) (by decide) (by decide) (by decide) (Y0.trans (by decide +kernel)) (Y0.trans (by decide +kernel)) (Ym2.trans (by decide +kernel))) rfl ?_
  simp only [fa_agg, fa_one, fa_nil, List.cons_append, List.nil_append, List.append_nil]
  refine call_step (n_penumbralaw08_unit_0 Y0 Y1) rfl ?_
  simp only [fa_agg, fa_one, fa_nil, List.cons_append, List.nil_append, List.append_nil]
  have m375 : Num 1 (cr Z1_4) Z1_4 := Num.c Y1_4 (by decide +kernel) (by decide +kernel)
  have m376 : Num 1 (cr Z1) Z1 := Num.c Y1 (by decide +kernel) (by decide +kernel)
  have m377 : Num 1 (cr Z0) Z0 := Num.c Y0 (by decide +kernel) (by decide +kernel)
  have m378 : Num 1 (cr Zm2) Zm2 := Num.c Ym2 (by decide +kernel) (by decide +kernel)
  refine call_step (n_tri_Hit_4 (k0 := Z2) (k1 := Z1_2) (k2 := Z1_4) (k3 := Z1_4) (k4 := Z1_2) (k5 := Z1_2) Y0 Y1 (m375.mono (by decide)) (m375.mono (by decide)) (m376.mono (by decide)) (m377.mono (by decide)) (m377.mono (by decide)) (m378.mono (by decide)) (m377.mono (by decide)) (m377.mono (by decide)) (m377.mono (by decide)) (m376.mono (by decide)) (m377.mono (by decide)) (m377.mono (by decide)) (m377.mono (by decide)) (m376.mono (by decide)) (m377.mono (by decide)) (by rw [Y2, Y1, Y0, Ym2] <;> decide +kernel) (by rw [Y1_2, Y1, Y2] <;> decide +kernel) (by rw [Y1_4, Y1_2, Y0, Ym2, Y1] <;> decide +kernel) (by rw [Y1_4, Y1_2, Y0, Y1, Ym2] <;> decide +kernel) (by rw [Y1_2, Y0, Y1_4, Y1] <;> decide +kernel) (by rw [Y1_2, Y1_4] <;> decide +kernel) (show ¬(Z2 = Z0) by rw [Y2, Y0] <;> decide +kernel) (show ¬(Z1_4 < Z0) by rw [Y1_4, Y0] <;> decide +kernel) (show ¬(Z1_4 < Z0) by rw [Y1_4, Y0] <;> decide +kernel) (show (Z0 < Z1_2) by rw [Y0, Y1_2] <;> decide +kernel) (show ¬(Z1 < Z1_2) by rw [Y1, Y1_2] <;> decide +kernel)) rfl ?_
  simp only [fa_agg, fa_one, fa_nil, List.cons_append, List.nil_append, List.append_nil]
  refine call_step (n_vec_Of (0) (0) (1) (by decide) (by decide) (by decide) (by decide) (by decide) (by decide) (Y0.trans (by decide +kernel)) (Y0.trans (by decide +kernel)) (Y1.trans (by decide +kernel))) rfl ?_
  simp only [fa_agg, fa_one, fa_nil, List.cons_append, List.nil_append, List.append_nil]
  refine call_step (n_penumbralaw08_unit_0 Y0 Y1) rfl ?_
  simp only [fa_agg, fa_one, fa_nil, List.cons_append, List.nil_append, List.append_nil]
  refine call_step (n_tri_Hit_5 (k0 := Zm1) (k1 := Zm1) (k2 := Z1_4) (k3 := Z1_4) (k4 := Zm1) Y0 Y1 (m375.mono (by decide)) (m375.mono (by decide)) (m376.mono (by decide)) (m377.mono (by decide)) (m377.mono (by decide)) (m376.mono (by decide)) (m377.mono (by decide)) (m377.mono (by decide)) (m377.mono (by decide)) (m376.mono (by decide)) (m377.mono (by decide)) (m377.mono (by decide)) (m377.mono (by decide)) (m376.mono (by decide)) (m377.mono (by decide)) (by rw [Ym1, Y1, Y0] <;> decide +kernel) (by rw [Ym1, Y1] <;> decide +kernel) (by rw [Y1_4, Ym1, Y0, Y1] <;> decide +kernel) (by rw [Y1_4, Ym1, Y0, Y1] <;> decide +kernel) (by rw [Ym1, Y0, Y1_4, Y1] <;> decide +kernel) (show ¬(Zm1 = Z0) by rw [Ym1, Y0] <;> decide +kernel) (show ¬(Z1_4 < Z0) by rw [Y1_4, Y0] <;> decide +kernel) (show ¬(Z1_4 < Z0) by rw [Y1_4, Y0] <;> decide +kernel) (show ¬(Z0 < Zm1) by rw [Y0, Ym1] <;> decide +kernel)) rfl ?_
  simp only [fa_agg, fa_one, fa_nil, List.cons_append, List.nil_append, List.append_nil]
  refine call_step (n_vec_Of (1) (1) (1) (by decide) (by decide) (by decide) (by decide) (by decide) (by decide) (Y1.trans (by decide +kernel)) (Y1.trans (by decide +kernel)) (Y1.trans (by decide +kernel))) rfl ?_
  simp only [fa_agg, fa_one, fa_nil, List.cons_append, List.nil_append, List.append_nil]
  refine call_step (n_vec_Of (0) (0) (-1) (by decide) (by decide) (by decide) (by decide) (by decide) (by decide) (Y0.trans (by decide +kernel)) (Y0.trans (by decide +kernel)) (Ym1.trans (by decide +kernel))) rfl ?_
  simp only [fa_agg, fa_one, fa_nil, List.cons_append, List.nil_append, List.append_nil]
  refine call_step (n_penumbralaw08_unit_0 Y0 Y1) rfl ?_
  simp only [fa_agg, fa_one, fa_nil, List.cons_append, List.nil_append, List.append_nil]
  have m379 : Num 1 (cr Zm1) Zm1 := Num.c Ym1 (by decide +kernel) (by decide +kernel)
  refine call_step (n_tri_Hit_3 (k0 := Z1) (k1 := Z1) (k2 := Z1) (k3 := Z1) (k4 := Z1) (k5 := Z2) Y0 Y1 (m376.mono (by decide)) (m376.mono (by decide)) (m376.mono (by decide)) (m377.mono (by decide)) (m377.mono (by decide)) (m379.mono (by decide)) (m377.mono (by decide)) (m377.mono (by decide)) (m377.mono (by decide)) (m376.mono (by decide)) (m377.mono (by decide)) (m377.mono (by decide)) (m377.mono (by decide)) (m376.mono (by decide)) (m377.mono (by decide)) (by rw [Y1, Y0, Ym1] <;> decide +kernel) (by rw [Y1] <;> decide +kernel) (by rw [Y1, Y0, Ym1] <;> decide +kernel) (by rw [Y1, Y0, Ym1] <;> decide +kernel) (by rw [Y1, Y0] <;> decide +kernel) (by rw [Y2, Y1] <;> decide +kernel) (show ¬(Z1 = Z0) by rw [Y1, Y0] <;> decide +kernel) (show ¬(Z1 < Z0) by rw [Y1, Y0] <;> decide +kernel) (show ¬(Z1 < Z0) by rw [Y1, Y0] <;> decide +kernel) (show (Z0 < Z1) by rw [Y0, Y1] <;> decide +kernel) (show (Z1 < Z2) by rw [Y1, Y2] <;> decide +kernel)) rfl ?_
  simp only [fa_agg, fa_one, fa_nil, List.cons_append, List.nil_append, List.append_nil]
  refine call_step (n_penumbralaw08_unit_0 Y0 Y1) rfl ?_
  simp only [fa_agg, fa_one, fa_nil, List.cons_append, List.nil_append, List.append_nil]
  refine call_step (n_tri_Unit_at0 Y0 Y1_2 Y1) rfl ?_
  simp only [fa_agg, fa_one, fa_nil, List.cons_append, List.nil_append, List.append_nil]
  refine itT rfl ?_
  refine call_step (n_penumbraref03_Of (1) (2) (by decide) (by decide) (by decide) (by decide) (Y1_2.trans (by decide +kernel))) rfl ?_
  simp only [fa_agg, fa_one, fa_nil, List.cons_append, List.nil_append, List.append_nil]
  have m386 : Num 1 (cr Z1_2) Z1_2 := Num.c Y1_2 (by decide +kernel) (by decide +kernel)
  refine call_step (n_penumbraref03_Is_t (m386.mono (by decide)) (m386.mono (by decide)) rfl) rfl ?_
  simp only [fa_agg, fa_one, fa_nil, List.cons_append, List.nil_append, List.append_nil]
  refine itT rfl ?_
  refine call_step (n_penumbraref03_Of (1) (4) (by decide) (by decide) (by decide) (by decide) (Y1_4.trans (by decide +kernel))) rfl ?_
  simp only [fa_agg, fa_one, fa_nil, List.cons_append, List.nil_append, List.append_nil]
  refine call_step (n_penumbraref03_Is_t (m375.mono (by decide)) (m375.mono (by decide)) rfl) rfl ?_
  simp only [fa_agg, fa_one, fa_nil, List.cons_append, List.nil_append, List.append_nil]
  refine itT rfl ?_
  refine call_step (n_penumbraref03_Of (1) (4) (by decide) (by decide) (by decide) (by decide) (Y1_4.trans (by decide +kernel))) rfl ?_
  simp only [fa_agg, fa_one, fa_nil, List.cons_append, List.nil_append, List.append_nil]
  refine call_step (n_penumbraref03_Is_t (m375.mono (by decide)) (m375.mono (by decide)) rfl) rfl ?_
  simp only [fa_agg, fa_one, fa_nil, List.cons_append, List.nil_append, List.append_nil]
  refine itT rfl ?_
  refine primS (.bool true) rfl ?_
  refine itT rfl ?_
  refine primS (.bool true) rfl ?_
  refine itT rfl ?_
  refine itT rfl ?_
  refine call_step (n_penumbraref05_Of (0) (0) (1) (by decide) (by decide) (by decide) (by decide) (by decide) (by decide) (Y0.trans (by decide +kernel)) (Y0.trans (by decide +kernel)) (Y1.trans (by decide +kernel))) rfl ?_
  simp only [fa_agg, fa_one, fa_nil, List.cons_append, List.nil_append, List.append_nil]
  refine call_step (n_penumbraref05_Is_0 (m377.mono (by decide)) (m377.mono (by decide)) (m376.mono (by decide)) (m377.mono (by decide)) (m377.mono (by decide)) (m376.mono (by decide)) rfl rfl rfl) rfl ?_
  simp only [fa_agg, fa_one, fa_nil, List.cons_append, List.nil_append, List.append_nil]
  refine itT rfl ?_
  refine call_step (n_penumbraref03_Of (1) (2) (by decide) (by decide) (by decide) (by decide) (Y1_2.trans (by decide +kernel))) rfl ?_
  simp only [fa_agg, fa_one, fa_nil, List.cons_append, List.nil_append, List.append_nil]
  refine call_step (n_penumbraref03_Is_t (m386.mono (by decide)) (m386.mono (by decide)) rfl) rfl ?_
  simp only [fa_agg, fa_one, fa_nil, List.cons_append, List.nil_append, List.append_nil]
  exact ret_step rfl

theorem n_tri_At_0  {r0 r1 r2 r3 r4 r5 r6 : RR} {x0 x1 x2 x3 x4 x5 x6 : Rat} {k0 k1 k2 : Rat} (h0 : Num 900000000 r0 x0) (h1 : Num 900000000 r1 x1) (h2 : Num 900000000 r2 x2) (h3 : Num 900000000 r3 x3) (h4 : Num 900000000 r4 x4) (h5 : Num 900000000 r5 x5) (h6 : Num 900000000 r6 x6) (e0 : k0 = (x0 + (x6 * x3))) (e1 : k1 = (x1 + (x6 * x4))) (e2 : k2 = (x2 + (x6 * x5)))  : PureCalls prog F.tri_At [.agg ([.bool r0.neg, nl r0.num, nl r0.den, .bool r1.neg, nl r1.num, nl r1.den, .bool r2.neg, nl r2.num, nl r2.den]), .agg ([.bool r3.neg, nl r3.num, nl r3.den, .bool r4.neg, nl r4.num, nl r4.den, .bool r5.neg, nl r5.num, nl r5.den]), .agg ([.bool r6.neg, nl r6.num, nl r6.den])] [.agg ([.bool (decide ((k0).num < 0)), nn (k0).num.natAbs, nn (k0).den, .bool (decide ((k1).num < 0)), nn (k1).num.natAbs, nn (k1).den, .bool (decide ((k2).num < 0)), nn (k2).num.natAbs, nn (k2).den])] := by
  subst e0 e1 e2
  refine symFunc_sound hmix tree_tri_At (by kernel_rfl) rfl ?_
  unfold ir_tri_At
  simp only [fa_agg, fa_one, fa_nil, List.cons_append, List.nil_append, List.append_nil]
  refine call_step (n_vec_Scale_0 (k0 := (x6 * x3)) (k1 := (x6 * x4)) (k2 := (x6 * x5)) (h6.mono (by decide)) (h3.mono (by decide)) (h4.mono (by decide)) (h5.mono (by decide)) rfl rfl rfl) rfl ?_
  simp only [fa_agg, fa_one, fa_nil, List.cons_append, List.nil_append, List.append_nil]
  refine primS (rl3 [(r0, r1, r2), ((cr (x6 * x3)), (cr (x6 * x4)), (cr (x6 * x5)))]) rfl ?_
  have m393 : Num 1800000000 (cr (x6 * x3)) (x6 * x3) := Num.of (Sm.mul h6.sm h3.sm)
  have m394 : Num 1800000000 (cr (x6 * x4)) (x6 * x4) := Num.of (Sm.mul h6.sm h4.sm)
  have m395 : Num 1800000000 (cr (x6 * x5)) (x6 * x5) := Num.of (Sm.mul h6.sm h5.sm)
  refine call_step (n_vec_Sum_2 (o0 := (x0 + (x6 * x3))) (o1 := (x1 + (x6 * x4))) (o2 := (x2 + (x6 * x5))) (h0.mono (by decide)) (h1.mono (by decide)) (h2.mono (by decide)) (m393.mono (by decide)) (m394.mono (by decide)) (m395.mono (by decide)) rfl rfl rfl) rfl ?_
  simp only [fa_agg, fa_one, fa_nil, List.cons_append, List.nil_append, List.append_nil]
  exact ret_step rfl

end Go.Px.Na

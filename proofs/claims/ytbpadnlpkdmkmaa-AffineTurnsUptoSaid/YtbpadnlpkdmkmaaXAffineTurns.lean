/- XAffineTurns: the trees of functions and their contracts, as programs of mine printed them. -/
import Derived.Test.YtbpadnlpkdmkmaaLs
import Derived.Test.YtbpadnlpkdmkmaaPx24
import Derived.Test.YtbpadnlpkdmkmaaProg
import Derived.Tactics
set_option maxRecDepth 20000
set_option maxHeartbeats 40000000
set_option linter.unusedVariables false
set_option linter.unusedSimpArgs false
namespace Go.Px
open Go.RowKit
def ir_vec_minor : IR :=
 .prim (.mk 2) [.var 0, .var 1, .var 2, .var 9, .var 10, .var 11] <|
 .call F.rat_Product [.one (.var 12)] [.agg 3] <|
 .prim (.mk 2) [.var 3, .var 4, .var 5, .var 6, .var 7, .var 8] <|
 .call F.rat_Product [.one (.var 16)] [.agg 3] <|
 .call F.rat_Sub [.agg [.var 13, .var 14, .var 15], .agg [.var 17, .var 18, .var 19]] [.agg 3] <|
 .ret [.agg [.var 20, .var 21, .var 22]]

def ir_vec_Cross : IR :=
 .call F.vec_minor [.agg [.var 3, .var 4, .var 5], .agg [.var 6, .var 7, .var 8], .agg [.var 12, .var 13, .var 14], .agg [.var 15, .var 16, .var 17]] [.agg 3] <|
 .call F.vec_minor [.agg [.var 6, .var 7, .var 8], .agg [.var 0, .var 1, .var 2], .agg [.var 15, .var 16, .var 17], .agg [.var 9, .var 10, .var 11]] [.agg 3] <|
 .call F.vec_minor [.agg [.var 0, .var 1, .var 2], .agg [.var 3, .var 4, .var 5], .agg [.var 9, .var 10, .var 11], .agg [.var 12, .var 13, .var 14]] [.agg 3] <|
 .ret [.agg [.var 18, .var 19, .var 20, .var 21, .var 22, .var 23, .var 24, .var 25, .var 26]]

def ir_vec_Dot : IR :=
 .prim (.mk 2) [.var 0, .var 1, .var 2, .var 9, .var 10, .var 11] <|
 .call F.rat_Product [.one (.var 18)] [.agg 3] <|
 .prim (.mk 2) [.var 3, .var 4, .var 5, .var 12, .var 13, .var 14] <|
 .call F.rat_Product [.one (.var 22)] [.agg 3] <|
 .prim (.mk 2) [.var 6, .var 7, .var 8, .var 15, .var 16, .var 17] <|
 .call F.rat_Product [.one (.var 26)] [.agg 3] <|
 .prim (.mk 3) [.var 19, .var 20, .var 21, .var 23, .var 24, .var 25, .var 27, .var 28, .var 29] <|
 .call F.rat_Sum [.one (.var 30)] [.agg 3] <|
 .ret [.agg [.var 31, .var 32, .var 33]]

def ir_affine_Det : IR :=
 .call F.vec_Cross [.agg [.var 9, .var 10, .var 11, .var 12, .var 13, .var 14, .var 15, .var 16, .var 17], .agg [.var 18, .var 19, .var 20, .var 21, .var 22, .var 23, .var 24, .var 25, .var 26]] [.agg 9] <|
 .call F.vec_Dot [.agg [.var 0, .var 1, .var 2, .var 3, .var 4, .var 5, .var 6, .var 7, .var 8], .agg [.var 36, .var 37, .var 38, .var 39, .var 40, .var 41, .var 42, .var 43, .var 44]] [.agg 3] <|
 .ret [.agg [.var 45, .var 46, .var 47]]

def ir_affine_Identity : IR :=
 .call F.vec_Of [.one (.int .i64 (1)), .one (.int .i64 (0)), .one (.int .i64 (0))] [.agg 9] <|
 .call F.vec_Of [.one (.int .i64 (0)), .one (.int .i64 (1)), .one (.int .i64 (0))] [.agg 9] <|
 .call F.vec_Of [.one (.int .i64 (0)), .one (.int .i64 (0)), .one (.int .i64 (1))] [.agg 9] <|
 .call F.vec_Of [.one (.int .i64 (0)), .one (.int .i64 (0)), .one (.int .i64 (0))] [.agg 9] <|
 .ret [.agg [.var 0, .var 1, .var 2, .var 3, .var 4, .var 5, .var 6, .var 7, .var 8, .var 9, .var 10, .var 11, .var 12, .var 13, .var 14, .var 15, .var 16, .var 17, .var 18, .var 19, .var 20, .var 21, .var 22, .var 23, .var 24, .var 25, .var 26, .var 27, .var 28, .var 29, .var 30, .var 31, .var 32, .var 33, .var 34, .var 35]]

def ir_affine_cofactors : IR :=
 .call F.vec_Cross [.agg [.var 9, .var 10, .var 11, .var 12, .var 13, .var 14, .var 15, .var 16, .var 17], .agg [.var 18, .var 19, .var 20, .var 21, .var 22, .var 23, .var 24, .var 25, .var 26]] [.agg 9] <|
 .call F.vec_Cross [.agg [.var 18, .var 19, .var 20, .var 21, .var 22, .var 23, .var 24, .var 25, .var 26], .agg [.var 0, .var 1, .var 2, .var 3, .var 4, .var 5, .var 6, .var 7, .var 8]] [.agg 9] <|
 .call F.vec_Cross [.agg [.var 0, .var 1, .var 2, .var 3, .var 4, .var 5, .var 6, .var 7, .var 8], .agg [.var 9, .var 10, .var 11, .var 12, .var 13, .var 14, .var 15, .var 16, .var 17]] [.agg 9] <|
 .ret [.agg [.var 36, .var 37, .var 38, .var 39, .var 40, .var 41, .var 42, .var 43, .var 44, .var 45, .var 46, .var 47, .var 48, .var 49, .var 50, .var 51, .var 52, .var 53, .var 54, .var 55, .var 56, .var 57, .var 58, .var 59, .var 60, .var 61, .var 62]]

def ir_vec_Scale : IR :=
 .prim (.mk 2) [.var 0, .var 1, .var 2, .var 3, .var 4, .var 5] <|
 .call F.rat_Product [.one (.var 12)] [.agg 3] <|
 .prim (.mk 2) [.var 0, .var 1, .var 2, .var 6, .var 7, .var 8] <|
 .call F.rat_Product [.one (.var 16)] [.agg 3] <|
 .prim (.mk 2) [.var 0, .var 1, .var 2, .var 9, .var 10, .var 11] <|
 .call F.rat_Product [.one (.var 20)] [.agg 3] <|
 .ret [.agg [.var 13, .var 14, .var 15, .var 17, .var 18, .var 19, .var 21, .var 22, .var 23]]

def ir_affine_Turn : IR :=
 .call F.vec_Dot [.agg [.var 0, .var 1, .var 2, .var 3, .var 4, .var 5, .var 6, .var 7, .var 8], .agg [.var 36, .var 37, .var 38, .var 39, .var 40, .var 41, .var 42, .var 43, .var 44]] [.agg 3] <|
 .call F.vec_Dot [.agg [.var 9, .var 10, .var 11, .var 12, .var 13, .var 14, .var 15, .var 16, .var 17], .agg [.var 36, .var 37, .var 38, .var 39, .var 40, .var 41, .var 42, .var 43, .var 44]] [.agg 3] <|
 .call F.vec_Dot [.agg [.var 18, .var 19, .var 20, .var 21, .var 22, .var 23, .var 24, .var 25, .var 26], .agg [.var 36, .var 37, .var 38, .var 39, .var 40, .var 41, .var 42, .var 43, .var 44]] [.agg 3] <|
 .ret [.agg [.var 45, .var 46, .var 47, .var 48, .var 49, .var 50, .var 51, .var 52, .var 53]]

def ir_affine_Inverse : IR :=
 .call F.rat_Of [.one (.int .i64 (1)), .one (.int .i64 (1))] [.agg 3] <|
 .call F.affine_Det [.agg [.var 0, .var 1, .var 2, .var 3, .var 4, .var 5, .var 6, .var 7, .var 8, .var 9, .var 10, .var 11, .var 12, .var 13, .var 14, .var 15, .var 16, .var 17, .var 18, .var 19, .var 20, .var 21, .var 22, .var 23, .var 24, .var 25, .var 26, .var 27, .var 28, .var 29, .var 30, .var 31, .var 32, .var 33, .var 34, .var 35]] [.agg 3] <|
 .call F.rat_Div [.agg [.var 36, .var 37, .var 38], .agg [.var 39, .var 40, .var 41]] [.agg 3, .one] <|
 .prim .not [.var 45] <|
 .ite (.var 46) (
  .call F.affine_Identity [] [.agg 36] <|
  .ret [.agg [.var 47, .var 48, .var 49, .var 50, .var 51, .var 52, .var 53, .var 54, .var 55, .var 56, .var 57, .var 58, .var 59, .var 60, .var 61, .var 62, .var 63, .var 64, .var 65, .var 66, .var 67, .var 68, .var 69, .var 70, .var 71, .var 72, .var 73, .var 74, .var 75, .var 76, .var 77, .var 78, .var 79, .var 80, .var 81, .var 82], .one (.bol false)]) (
  .call F.affine_cofactors [.agg [.var 0, .var 1, .var 2, .var 3, .var 4, .var 5, .var 6, .var 7, .var 8, .var 9, .var 10, .var 11, .var 12, .var 13, .var 14, .var 15, .var 16, .var 17, .var 18, .var 19, .var 20, .var 21, .var 22, .var 23, .var 24, .var 25, .var 26, .var 27, .var 28, .var 29, .var 30, .var 31, .var 32, .var 33, .var 34, .var 35]] [.agg 27] <|
  .call F.vec_Scale [.agg [.var 42, .var 43, .var 44], .agg [.var 47, .var 48, .var 49, .var 50, .var 51, .var 52, .var 53, .var 54, .var 55]] [.agg 9] <|
  .call F.vec_Scale [.agg [.var 42, .var 43, .var 44], .agg [.var 56, .var 57, .var 58, .var 59, .var 60, .var 61, .var 62, .var 63, .var 64]] [.agg 9] <|
  .call F.vec_Scale [.agg [.var 42, .var 43, .var 44], .agg [.var 65, .var 66, .var 67, .var 68, .var 69, .var 70, .var 71, .var 72, .var 73]] [.agg 9] <|
  .call F.rat_Of [.one (.int .i64 (-1)), .one (.int .i64 (1))] [.agg 3] <|
  .call F.affine_Turn [.agg [.var 74, .var 75, .var 76, .var 83, .var 84, .var 85, .var 92, .var 93, .var 94, .var 77, .var 78, .var 79, .var 86, .var 87, .var 88, .var 95, .var 96, .var 97, .var 80, .var 81, .var 82, .var 89, .var 90, .var 91, .var 98, .var 99, .var 100, .bol false, .nil, .nil, .bol false, .nil, .nil, .bol false, .nil, .nil], .agg [.var 27, .var 28, .var 29, .var 30, .var 31, .var 32, .var 33, .var 34, .var 35]] [.agg 9] <|
  .call F.vec_Scale [.agg [.var 101, .var 102, .var 103], .agg [.var 104, .var 105, .var 106, .var 107, .var 108, .var 109, .var 110, .var 111, .var 112]] [.agg 9] <|
  .ret [.agg [.var 74, .var 75, .var 76, .var 83, .var 84, .var 85, .var 92, .var 93, .var 94, .var 77, .var 78, .var 79, .var 86, .var 87, .var 88, .var 95, .var 96, .var 97, .var 80, .var 81, .var 82, .var 89, .var 90, .var 91, .var 98, .var 99, .var 100, .var 113, .var 114, .var 115, .var 116, .var 117, .var 118, .var 119, .var 120, .var 121], .one (.bol true)])

def ir_penumbraref05_Cross : IR :=
 .call F.penumbraref03_Mul [.agg [.var 3, .var 4, .var 5], .agg [.var 15, .var 16, .var 17]] [.agg 3] <|
 .call F.penumbraref03_Mul [.agg [.var 6, .var 7, .var 8], .agg [.var 12, .var 13, .var 14]] [.agg 3] <|
 .call F.penumbraref03_Sub [.agg [.var 18, .var 19, .var 20], .agg [.var 21, .var 22, .var 23]] [.agg 3] <|
 .call F.penumbraref03_Mul [.agg [.var 6, .var 7, .var 8], .agg [.var 9, .var 10, .var 11]] [.agg 3] <|
 .call F.penumbraref03_Mul [.agg [.var 0, .var 1, .var 2], .agg [.var 15, .var 16, .var 17]] [.agg 3] <|
 .call F.penumbraref03_Sub [.agg [.var 27, .var 28, .var 29], .agg [.var 30, .var 31, .var 32]] [.agg 3] <|
 .call F.penumbraref03_Mul [.agg [.var 0, .var 1, .var 2], .agg [.var 12, .var 13, .var 14]] [.agg 3] <|
 .call F.penumbraref03_Mul [.agg [.var 3, .var 4, .var 5], .agg [.var 9, .var 10, .var 11]] [.agg 3] <|
 .call F.penumbraref03_Sub [.agg [.var 36, .var 37, .var 38], .agg [.var 39, .var 40, .var 41]] [.agg 3] <|
 .ret [.agg [.var 24, .var 25, .var 26, .var 33, .var 34, .var 35, .var 42, .var 43, .var 44]]

def ir_penumbraref05_Dot : IR :=
 .call F.penumbraref03_Mul [.agg [.var 0, .var 1, .var 2], .agg [.var 9, .var 10, .var 11]] [.agg 3] <|
 .call F.penumbraref03_Mul [.agg [.var 3, .var 4, .var 5], .agg [.var 12, .var 13, .var 14]] [.agg 3] <|
 .call F.penumbraref03_Add [.agg [.var 18, .var 19, .var 20], .agg [.var 21, .var 22, .var 23]] [.agg 3] <|
 .call F.penumbraref03_Mul [.agg [.var 6, .var 7, .var 8], .agg [.var 15, .var 16, .var 17]] [.agg 3] <|
 .call F.penumbraref03_Add [.agg [.var 24, .var 25, .var 26], .agg [.var 27, .var 28, .var 29]] [.agg 3] <|
 .ret [.agg [.var 30, .var 31, .var 32]]

def ir_penumbraref07_Det : IR :=
 .call F.penumbraref05_Cross [.agg [.var 9, .var 10, .var 11, .var 12, .var 13, .var 14, .var 15, .var 16, .var 17], .agg [.var 18, .var 19, .var 20, .var 21, .var 22, .var 23, .var 24, .var 25, .var 26]] [.agg 9] <|
 .call F.penumbraref05_Dot [.agg [.var 0, .var 1, .var 2, .var 3, .var 4, .var 5, .var 6, .var 7, .var 8], .agg [.var 36, .var 37, .var 38, .var 39, .var 40, .var 41, .var 42, .var 43, .var 44]] [.agg 3] <|
 .ret [.agg [.var 45, .var 46, .var 47]]

def ir_penumbraref05_Zero : IR :=
 .call F.penumbraref03_Zero [] [.agg 3] <|
 .call F.penumbraref03_Zero [] [.agg 3] <|
 .call F.penumbraref03_Zero [] [.agg 3] <|
 .ret [.agg [.var 0, .var 1, .var 2, .var 3, .var 4, .var 5, .var 6, .var 7, .var 8]]

def ir_penumbraref07_Identity : IR :=
 .call F.penumbraref05_Of [.one (.int .i64 (1)), .one (.int .i64 (0)), .one (.int .i64 (0))] [.agg 9] <|
 .call F.penumbraref05_Of [.one (.int .i64 (0)), .one (.int .i64 (1)), .one (.int .i64 (0))] [.agg 9] <|
 .call F.penumbraref05_Of [.one (.int .i64 (0)), .one (.int .i64 (0)), .one (.int .i64 (1))] [.agg 9] <|
 .call F.penumbraref05_Zero [] [.agg 9] <|
 .ret [.agg [.var 0, .var 1, .var 2, .var 3, .var 4, .var 5, .var 6, .var 7, .var 8, .var 9, .var 10, .var 11, .var 12, .var 13, .var 14, .var 15, .var 16, .var 17, .var 18, .var 19, .var 20, .var 21, .var 22, .var 23, .var 24, .var 25, .var 26, .var 27, .var 28, .var 29, .var 30, .var 31, .var 32, .var 33, .var 34, .var 35]]

def ir_penumbraref05_Sub : IR :=
 .call F.penumbraref03_Sub [.agg [.var 0, .var 1, .var 2], .agg [.var 9, .var 10, .var 11]] [.agg 3] <|
 .call F.penumbraref03_Sub [.agg [.var 3, .var 4, .var 5], .agg [.var 12, .var 13, .var 14]] [.agg 3] <|
 .call F.penumbraref03_Sub [.agg [.var 6, .var 7, .var 8], .agg [.var 15, .var 16, .var 17]] [.agg 3] <|
 .ret [.agg [.var 18, .var 19, .var 20, .var 21, .var 22, .var 23, .var 24, .var 25, .var 26]]

def ir_penumbraref05_Scale : IR :=
 .call F.penumbraref03_Mul [.agg [.var 0, .var 1, .var 2], .agg [.var 3, .var 4, .var 5]] [.agg 3] <|
 .call F.penumbraref03_Mul [.agg [.var 0, .var 1, .var 2], .agg [.var 6, .var 7, .var 8]] [.agg 3] <|
 .call F.penumbraref03_Mul [.agg [.var 0, .var 1, .var 2], .agg [.var 9, .var 10, .var 11]] [.agg 3] <|
 .ret [.agg [.var 12, .var 13, .var 14, .var 15, .var 16, .var 17, .var 18, .var 19, .var 20]]

def ir_penumbraref07_solve : IR :=
 .call F.penumbraref05_Cross [.agg [.var 3, .var 4, .var 5, .var 12, .var 13, .var 14, .var 21, .var 22, .var 23], .agg [.var 6, .var 7, .var 8, .var 15, .var 16, .var 17, .var 24, .var 25, .var 26]] [.agg 9] <|
 .call F.penumbraref05_Dot [.agg [.var 42, .var 43, .var 44, .var 45, .var 46, .var 47, .var 48, .var 49, .var 50], .agg [.var 51, .var 52, .var 53, .var 54, .var 55, .var 56, .var 57, .var 58, .var 59]] [.agg 3] <|
 .call F.penumbraref05_Cross [.agg [.var 42, .var 43, .var 44, .var 45, .var 46, .var 47, .var 48, .var 49, .var 50], .agg [.var 6, .var 7, .var 8, .var 15, .var 16, .var 17, .var 24, .var 25, .var 26]] [.agg 9] <|
 .call F.penumbraref05_Dot [.agg [.var 0, .var 1, .var 2, .var 9, .var 10, .var 11, .var 18, .var 19, .var 20], .agg [.var 63, .var 64, .var 65, .var 66, .var 67, .var 68, .var 69, .var 70, .var 71]] [.agg 3] <|
 .call F.penumbraref05_Cross [.agg [.var 3, .var 4, .var 5, .var 12, .var 13, .var 14, .var 21, .var 22, .var 23], .agg [.var 42, .var 43, .var 44, .var 45, .var 46, .var 47, .var 48, .var 49, .var 50]] [.agg 9] <|
 .call F.penumbraref05_Dot [.agg [.var 0, .var 1, .var 2, .var 9, .var 10, .var 11, .var 18, .var 19, .var 20], .agg [.var 75, .var 76, .var 77, .var 78, .var 79, .var 80, .var 81, .var 82, .var 83]] [.agg 3] <|
 .call F.penumbraref03_Over [.agg [.var 36, .var 37, .var 38], .agg [.var 39, .var 40, .var 41]] [.agg 3] <|
 .call F.penumbraref05_Scale [.agg [.var 87, .var 88, .var 89], .agg [.var 60, .var 61, .var 62, .var 72, .var 73, .var 74, .var 84, .var 85, .var 86]] [.agg 9] <|
 .ret [.agg [.var 90, .var 91, .var 92, .var 93, .var 94, .var 95, .var 96, .var 97, .var 98]]

def ir_penumbraref05_Add : IR :=
 .call F.penumbraref03_Add [.agg [.var 0, .var 1, .var 2], .agg [.var 9, .var 10, .var 11]] [.agg 3] <|
 .call F.penumbraref03_Add [.agg [.var 3, .var 4, .var 5], .agg [.var 12, .var 13, .var 14]] [.agg 3] <|
 .call F.penumbraref03_Add [.agg [.var 6, .var 7, .var 8], .agg [.var 15, .var 16, .var 17]] [.agg 3] <|
 .ret [.agg [.var 18, .var 19, .var 20, .var 21, .var 22, .var 23, .var 24, .var 25, .var 26]]

def ir_penumbraref07_Told : IR :=
 .call F.penumbraref05_Sub [.agg [.var 9, .var 10, .var 11, .var 12, .var 13, .var 14, .var 15, .var 16, .var 17], .agg [.var 0, .var 1, .var 2, .var 3, .var 4, .var 5, .var 6, .var 7, .var 8]] [.agg 9] <|
 .call F.penumbraref05_Sub [.agg [.var 18, .var 19, .var 20, .var 21, .var 22, .var 23, .var 24, .var 25, .var 26], .agg [.var 0, .var 1, .var 2, .var 3, .var 4, .var 5, .var 6, .var 7, .var 8]] [.agg 9] <|
 .call F.penumbraref05_Sub [.agg [.var 27, .var 28, .var 29, .var 30, .var 31, .var 32, .var 33, .var 34, .var 35], .agg [.var 0, .var 1, .var 2, .var 3, .var 4, .var 5, .var 6, .var 7, .var 8]] [.agg 9] <|
 .ret [.agg [.var 36, .var 37, .var 38, .var 45, .var 46, .var 47, .var 54, .var 55, .var 56, .var 39, .var 40, .var 41, .var 48, .var 49, .var 50, .var 57, .var 58, .var 59, .var 42, .var 43, .var 44, .var 51, .var 52, .var 53, .var 60, .var 61, .var 62, .var 0, .var 1, .var 2, .var 3, .var 4, .var 5, .var 6, .var 7, .var 8]]

def ir_penumbraref07_Inverse : IR :=
 .call F.penumbraref07_Det [.agg [.var 0, .var 1, .var 2, .var 3, .var 4, .var 5, .var 6, .var 7, .var 8, .var 9, .var 10, .var 11, .var 12, .var 13, .var 14, .var 15, .var 16, .var 17, .var 18, .var 19, .var 20, .var 21, .var 22, .var 23, .var 24, .var 25, .var 26, .var 27, .var 28, .var 29, .var 30, .var 31, .var 32, .var 33, .var 34, .var 35]] [.agg 3] <|
 .call F.penumbraref03_Sign [.agg [.var 36, .var 37, .var 38]] [.one] <|
 .prim (.bin .eql) [.var 39, .int .i64 (0)] <|
 .ite (.var 40) (
  .call F.penumbraref07_Identity [] [.agg 36] <|
  .ret [.agg [.var 41, .var 42, .var 43, .var 44, .var 45, .var 46, .var 47, .var 48, .var 49, .var 50, .var 51, .var 52, .var 53, .var 54, .var 55, .var 56, .var 57, .var 58, .var 59, .var 60, .var 61, .var 62, .var 63, .var 64, .var 65, .var 66, .var 67, .var 68, .var 69, .var 70, .var 71, .var 72, .var 73, .var 74, .var 75, .var 76], .one (.bol false)]) (
  .call F.penumbraref03_One [] [.agg 3] <|
  .call F.penumbraref05_Zero [] [.agg 9] <|
  .call F.penumbraref05_Sub [.agg [.var 44, .var 45, .var 46, .var 47, .var 48, .var 49, .var 50, .var 51, .var 52], .agg [.var 27, .var 28, .var 29, .var 30, .var 31, .var 32, .var 33, .var 34, .var 35]] [.agg 9] <|
  .call F.penumbraref07_solve [.agg [.var 0, .var 1, .var 2, .var 3, .var 4, .var 5, .var 6, .var 7, .var 8, .var 9, .var 10, .var 11, .var 12, .var 13, .var 14, .var 15, .var 16, .var 17, .var 18, .var 19, .var 20, .var 21, .var 22, .var 23, .var 24, .var 25, .var 26, .var 27, .var 28, .var 29, .var 30, .var 31, .var 32, .var 33, .var 34, .var 35], .agg [.var 41, .var 42, .var 43], .agg [.var 36, .var 37, .var 38], .agg [.var 53, .var 54, .var 55, .var 56, .var 57, .var 58, .var 59, .var 60, .var 61]] [.agg 9] <|
  .call F.penumbraref05_Of [.one (.int .i64 (1)), .one (.int .i64 (0)), .one (.int .i64 (0))] [.agg 9] <|
  .call F.penumbraref07_solve [.agg [.var 0, .var 1, .var 2, .var 3, .var 4, .var 5, .var 6, .var 7, .var 8, .var 9, .var 10, .var 11, .var 12, .var 13, .var 14, .var 15, .var 16, .var 17, .var 18, .var 19, .var 20, .var 21, .var 22, .var 23, .var 24, .var 25, .var 26, .var 27, .var 28, .var 29, .var 30, .var 31, .var 32, .var 33, .var 34, .var 35], .agg [.var 41, .var 42, .var 43], .agg [.var 36, .var 37, .var 38], .agg [.var 71, .var 72, .var 73, .var 74, .var 75, .var 76, .var 77, .var 78, .var 79]] [.agg 9] <|
  .call F.penumbraref05_Add [.agg [.var 62, .var 63, .var 64, .var 65, .var 66, .var 67, .var 68, .var 69, .var 70], .agg [.var 80, .var 81, .var 82, .var 83, .var 84, .var 85, .var 86, .var 87, .var 88]] [.agg 9] <|
  .call F.penumbraref05_Of [.one (.int .i64 (0)), .one (.int .i64 (1)), .one (.int .i64 (0))] [.agg 9] <|
  .call F.penumbraref07_solve [.agg [.var 0, .var 1, .var 2, .var 3, .var 4, .var 5, .var 6, .var 7, .var 8, .var 9, .var 10, .var 11, .var 12, .var 13, .var 14, .var 15, .var 16, .var 17, .var 18, .var 19, .var 20, .var 21, .var 22, .var 23, .var 24, .var 25, .var 26, .var 27, .var 28, .var 29, .var 30, .var 31, .var 32, .var 33, .var 34, .var 35], .agg [.var 41, .var 42, .var 43], .agg [.var 36, .var 37, .var 38], .agg [.var 98, .var 99, .var 100, .var 101, .var 102, .var 103, .var 104, .var 105, .var 106]] [.agg 9] <|
  .call F.penumbraref05_Add [.agg [.var 62, .var 63, .var 64, .var 65, .var 66, .var 67, .var 68, .var 69, .var 70], .agg [.var 107, .var 108, .var 109, .var 110, .var 111, .var 112, .var 113, .var 114, .var 115]] [.agg 9] <|
  .call F.penumbraref05_Of [.one (.int .i64 (0)), .one (.int .i64 (0)), .one (.int .i64 (1))] [.agg 9] <|
  .call F.penumbraref07_solve [.agg [.var 0, .var 1, .var 2, .var 3, .var 4, .var 5, .var 6, .var 7, .var 8, .var 9, .var 10, .var 11, .var 12, .var 13, .var 14, .var 15, .var 16, .var 17, .var 18, .var 19, .var 20, .var 21, .var 22, .var 23, .var 24, .var 25, .var 26, .var 27, .var 28, .var 29, .var 30, .var 31, .var 32, .var 33, .var 34, .var 35], .agg [.var 41, .var 42, .var 43], .agg [.var 36, .var 37, .var 38], .agg [.var 125, .var 126, .var 127, .var 128, .var 129, .var 130, .var 131, .var 132, .var 133]] [.agg 9] <|
  .call F.penumbraref05_Add [.agg [.var 62, .var 63, .var 64, .var 65, .var 66, .var 67, .var 68, .var 69, .var 70], .agg [.var 134, .var 135, .var 136, .var 137, .var 138, .var 139, .var 140, .var 141, .var 142]] [.agg 9] <|
  .call F.penumbraref07_Told [.agg [.var 62, .var 63, .var 64, .var 65, .var 66, .var 67, .var 68, .var 69, .var 70], .agg [.var 89, .var 90, .var 91, .var 92, .var 93, .var 94, .var 95, .var 96, .var 97], .agg [.var 116, .var 117, .var 118, .var 119, .var 120, .var 121, .var 122, .var 123, .var 124], .agg [.var 143, .var 144, .var 145, .var 146, .var 147, .var 148, .var 149, .var 150, .var 151]] [.agg 36] <|
  .ret [.agg [.var 152, .var 153, .var 154, .var 155, .var 156, .var 157, .var 158, .var 159, .var 160, .var 161, .var 162, .var 163, .var 164, .var 165, .var 166, .var 167, .var 168, .var 169, .var 170, .var 171, .var 172, .var 173, .var 174, .var 175, .var 176, .var 177, .var 178, .var 179, .var 180, .var 181, .var 182, .var 183, .var 184, .var 185, .var 186, .var 187], .one (.bol true)])

def ir_affine_Stretch : IR :=
 .call F.rat_Of [.one (.int .i64 (1)), .one (.int .i64 (1))] [.agg 3] <|
 .call F.rat_Sub [.agg [.var 18, .var 19, .var 20], .agg [.var 21, .var 22, .var 23]] [.agg 3] <|
 .call F.affine_Identity [] [.agg 36] <|
 .prim (.mk 2) [.var 24, .var 25, .var 26, .var 9, .var 10, .var 11] <|
 .call F.rat_Product [.one (.var 63)] [.agg 3] <|
 .call F.vec_Scale [.agg [.var 64, .var 65, .var 66], .agg [.var 9, .var 10, .var 11, .var 12, .var 13, .var 14, .var 15, .var 16, .var 17]] [.agg 9] <|
 .prim (.mk 2) [.var 27, .var 28, .var 29, .var 30, .var 31, .var 32, .var 33, .var 34, .var 35, .var 67, .var 68, .var 69, .var 70, .var 71, .var 72, .var 73, .var 74, .var 75] <|
 .call F.vec_Sum [.one (.var 76)] [.agg 9] <|
 .prim (.mk 2) [.var 24, .var 25, .var 26, .var 12, .var 13, .var 14] <|
 .call F.rat_Product [.one (.var 86)] [.agg 3] <|
 .call F.vec_Scale [.agg [.var 87, .var 88, .var 89], .agg [.var 9, .var 10, .var 11, .var 12, .var 13, .var 14, .var 15, .var 16, .var 17]] [.agg 9] <|
 .prim (.mk 2) [.var 36, .var 37, .var 38, .var 39, .var 40, .var 41, .var 42, .var 43, .var 44, .var 90, .var 91, .var 92, .var 93, .var 94, .var 95, .var 96, .var 97, .var 98] <|
 .call F.vec_Sum [.one (.var 99)] [.agg 9] <|
 .prim (.mk 2) [.var 24, .var 25, .var 26, .var 15, .var 16, .var 17] <|
 .call F.rat_Product [.one (.var 109)] [.agg 3] <|
 .call F.vec_Scale [.agg [.var 110, .var 111, .var 112], .agg [.var 9, .var 10, .var 11, .var 12, .var 13, .var 14, .var 15, .var 16, .var 17]] [.agg 9] <|
 .prim (.mk 2) [.var 45, .var 46, .var 47, .var 48, .var 49, .var 50, .var 51, .var 52, .var 53, .var 113, .var 114, .var 115, .var 116, .var 117, .var 118, .var 119, .var 120, .var 121] <|
 .call F.vec_Sum [.one (.var 122)] [.agg 9] <|
 .call F.vec_Dot [.agg [.var 0, .var 1, .var 2, .var 3, .var 4, .var 5, .var 6, .var 7, .var 8], .agg [.var 9, .var 10, .var 11, .var 12, .var 13, .var 14, .var 15, .var 16, .var 17]] [.agg 3] <|
 .prim (.mk 2) [.var 24, .var 25, .var 26, .var 132, .var 133, .var 134] <|
 .call F.rat_Product [.one (.var 135)] [.agg 3] <|
 .call F.rat_Neg [.agg [.var 136, .var 137, .var 138]] [.agg 3] <|
 .call F.vec_Scale [.agg [.var 139, .var 140, .var 141], .agg [.var 9, .var 10, .var 11, .var 12, .var 13, .var 14, .var 15, .var 16, .var 17]] [.agg 9] <|
 .ret [.agg [.var 77, .var 78, .var 79, .var 80, .var 81, .var 82, .var 83, .var 84, .var 85, .var 100, .var 101, .var 102, .var 103, .var 104, .var 105, .var 106, .var 107, .var 108, .var 123, .var 124, .var 125, .var 126, .var 127, .var 128, .var 129, .var 130, .var 131, .var 142, .var 143, .var 144, .var 145, .var 146, .var 147, .var 148, .var 149, .var 150]]

def ir_affine_Apply : IR :=
 .call F.affine_Turn [.agg [.var 0, .var 1, .var 2, .var 3, .var 4, .var 5, .var 6, .var 7, .var 8, .var 9, .var 10, .var 11, .var 12, .var 13, .var 14, .var 15, .var 16, .var 17, .var 18, .var 19, .var 20, .var 21, .var 22, .var 23, .var 24, .var 25, .var 26, .var 27, .var 28, .var 29, .var 30, .var 31, .var 32, .var 33, .var 34, .var 35], .agg [.var 36, .var 37, .var 38, .var 39, .var 40, .var 41, .var 42, .var 43, .var 44]] [.agg 9] <|
 .prim (.mk 2) [.var 45, .var 46, .var 47, .var 48, .var 49, .var 50, .var 51, .var 52, .var 53, .var 27, .var 28, .var 29, .var 30, .var 31, .var 32, .var 33, .var 34, .var 35] <|
 .call F.vec_Sum [.one (.var 54)] [.agg 9] <|
 .ret [.agg [.var 55, .var 56, .var 57, .var 58, .var 59, .var 60, .var 61, .var 62, .var 63]]

def ir_penumbraref05_Is : IR :=
 .call F.penumbraref03_Is [.agg [.var 0, .var 1, .var 2], .agg [.var 9, .var 10, .var 11]] [.one] <|
 .ite (.var 18) (
  .call F.penumbraref03_Is [.agg [.var 3, .var 4, .var 5], .agg [.var 12, .var 13, .var 14]] [.one] <|
  .ite (.var 19) (
   .call F.penumbraref03_Is [.agg [.var 6, .var 7, .var 8], .agg [.var 15, .var 16, .var 17]] [.one] <|
   .ret [.one (.var 20)]) (
   .ret [.one (.bol false)])) (
  .ret [.one (.bol false)])

def ir_affine_Area : IR :=
 .call F.affine_cofactors [.agg [.var 0, .var 1, .var 2, .var 3, .var 4, .var 5, .var 6, .var 7, .var 8, .var 9, .var 10, .var 11, .var 12, .var 13, .var 14, .var 15, .var 16, .var 17, .var 18, .var 19, .var 20, .var 21, .var 22, .var 23, .var 24, .var 25, .var 26, .var 27, .var 28, .var 29, .var 30, .var 31, .var 32, .var 33, .var 34, .var 35]] [.agg 27] <|
 .call F.vec_Dot [.agg [.var 45, .var 46, .var 47, .var 48, .var 49, .var 50, .var 51, .var 52, .var 53], .agg [.var 36, .var 37, .var 38, .var 39, .var 40, .var 41, .var 42, .var 43, .var 44]] [.agg 3] <|
 .call F.vec_Dot [.agg [.var 54, .var 55, .var 56, .var 57, .var 58, .var 59, .var 60, .var 61, .var 62], .agg [.var 36, .var 37, .var 38, .var 39, .var 40, .var 41, .var 42, .var 43, .var 44]] [.agg 3] <|
 .call F.vec_Dot [.agg [.var 63, .var 64, .var 65, .var 66, .var 67, .var 68, .var 69, .var 70, .var 71], .agg [.var 36, .var 37, .var 38, .var 39, .var 40, .var 41, .var 42, .var 43, .var 44]] [.agg 3] <|
 .ret [.agg [.var 72, .var 73, .var 74, .var 75, .var 76, .var 77, .var 78, .var 79, .var 80]]

def ir_penumbraref07_Is : IR :=
 .call F.penumbraref05_Is [.agg [.var 0, .var 1, .var 2, .var 3, .var 4, .var 5, .var 6, .var 7, .var 8], .agg [.var 36, .var 37, .var 38, .var 39, .var 40, .var 41, .var 42, .var 43, .var 44]] [.one] <|
 .ite (.var 72) (
  .call F.penumbraref05_Is [.agg [.var 9, .var 10, .var 11, .var 12, .var 13, .var 14, .var 15, .var 16, .var 17], .agg [.var 45, .var 46, .var 47, .var 48, .var 49, .var 50, .var 51, .var 52, .var 53]] [.one] <|
  .ite (.var 73) (
   .call F.penumbraref05_Is [.agg [.var 18, .var 19, .var 20, .var 21, .var 22, .var 23, .var 24, .var 25, .var 26], .agg [.var 54, .var 55, .var 56, .var 57, .var 58, .var 59, .var 60, .var 61, .var 62]] [.one] <|
   .ite (.var 74) (
    .call F.penumbraref05_Is [.agg [.var 27, .var 28, .var 29, .var 30, .var 31, .var 32, .var 33, .var 34, .var 35], .agg [.var 63, .var 64, .var 65, .var 66, .var 67, .var 68, .var 69, .var 70, .var 71]] [.one] <|
    .ret [.one (.var 75)]) (
    .ret [.one (.bol false)])) (
   .ret [.one (.bol false)])) (
  .ret [.one (.bol false)])

def ir_penumbralaw07_fixed : IR :=
 .call F.vec_Of [.one (.int .i64 (0)), .one (.int .i64 (0)), .one (.int .i64 (1))] [.agg 9] <|
 .call F.vec_Of [.one (.int .i64 (0)), .one (.int .i64 (0)), .one (.int .i64 (1))] [.agg 9] <|
 .call F.rat_Of [.one (.int .i64 (-1)), .one (.int .i64 (1))] [.agg 3] <|
 .call F.affine_Stretch [.agg [.var 0, .var 1, .var 2, .var 3, .var 4, .var 5, .var 6, .var 7, .var 8], .agg [.var 9, .var 10, .var 11, .var 12, .var 13, .var 14, .var 15, .var 16, .var 17], .agg [.var 18, .var 19, .var 20]] [.agg 36] <|
 .call F.vec_Of [.one (.int .i64 (1)), .one (.int .i64 (0)), .one (.int .i64 (0))] [.agg 9] <|
 .call F.vec_Of [.one (.int .i64 (1)), .one (.int .i64 (0)), .one (.int .i64 (0))] [.agg 9] <|
 .call F.vec_Of [.one (.int .i64 (0)), .one (.int .i64 (0)), .one (.int .i64 (1))] [.agg 9] <|
 .call F.affine_Inverse [.agg [.var 57, .var 58, .var 59, .var 60, .var 61, .var 62, .var 63, .var 64, .var 65, .var 66, .var 67, .var 68, .var 69, .var 70, .var 71, .var 72, .var 73, .var 74, .var 75, .var 76, .var 77, .var 78, .var 79, .var 80, .var 81, .var 82, .var 83, .bol false, .nil, .nil, .bol false, .nil, .nil, .bol false, .nil, .nil]] [.agg 36, .one] <|
 .call F.vec_Of [.one (.int .i64 (2)), .one (.int .i64 (3)), .one (.int .i64 (5))] [.agg 9] <|
 .call F.affine_Apply [.agg [.var 21, .var 22, .var 23, .var 24, .var 25, .var 26, .var 27, .var 28, .var 29, .var 30, .var 31, .var 32, .var 33, .var 34, .var 35, .var 36, .var 37, .var 38, .var 39, .var 40, .var 41, .var 42, .var 43, .var 44, .var 45, .var 46, .var 47, .var 48, .var 49, .var 50, .var 51, .var 52, .var 53, .var 54, .var 55, .var 56], .agg [.var 121, .var 122, .var 123, .var 124, .var 125, .var 126, .var 127, .var 128, .var 129]] [.agg 9] <|
 .call F.penumbraref05_Of [.one (.int .i64 (2)), .one (.int .i64 (3)), .one (.int .i64 (-3))] [.agg 9] <|
 .call F.penumbraref05_Is [.agg [.var 130, .var 131, .var 132, .var 133, .var 134, .var 135, .var 136, .var 137, .var 138], .agg [.var 139, .var 140, .var 141, .var 142, .var 143, .var 144, .var 145, .var 146, .var 147]] [.one] <|
 .ite (.var 148) (
  .call F.vec_Of [.one (.int .i64 (0)), .one (.int .i64 (0)), .one (.int .i64 (1))] [.agg 9] <|
  .call F.affine_Area [.agg [.var 21, .var 22, .var 23, .var 24, .var 25, .var 26, .var 27, .var 28, .var 29, .var 30, .var 31, .var 32, .var 33, .var 34, .var 35, .var 36, .var 37, .var 38, .var 39, .var 40, .var 41, .var 42, .var 43, .var 44, .var 45, .var 46, .var 47, .var 48, .var 49, .var 50, .var 51, .var 52, .var 53, .var 54, .var 55, .var 56], .agg [.var 149, .var 150, .var 151, .var 152, .var 153, .var 154, .var 155, .var 156, .var 157]] [.agg 9] <|
  .call F.penumbraref05_Of [.one (.int .i64 (0)), .one (.int .i64 (0)), .one (.int .i64 (1))] [.agg 9] <|
  .call F.penumbraref05_Is [.agg [.var 158, .var 159, .var 160, .var 161, .var 162, .var 163, .var 164, .var 165, .var 166], .agg [.var 167, .var 168, .var 169, .var 170, .var 171, .var 172, .var 173, .var 174, .var 175]] [.one] <|
  .ite (.var 176) (
   .call F.vec_Of [.one (.int .i64 (1)), .one (.int .i64 (0)), .one (.int .i64 (0))] [.agg 9] <|
   .call F.affine_Area [.agg [.var 21, .var 22, .var 23, .var 24, .var 25, .var 26, .var 27, .var 28, .var 29, .var 30, .var 31, .var 32, .var 33, .var 34, .var 35, .var 36, .var 37, .var 38, .var 39, .var 40, .var 41, .var 42, .var 43, .var 44, .var 45, .var 46, .var 47, .var 48, .var 49, .var 50, .var 51, .var 52, .var 53, .var 54, .var 55, .var 56], .agg [.var 177, .var 178, .var 179, .var 180, .var 181, .var 182, .var 183, .var 184, .var 185]] [.agg 9] <|
   .call F.penumbraref05_Of [.one (.int .i64 (-1)), .one (.int .i64 (0)), .one (.int .i64 (0))] [.agg 9] <|
   .call F.penumbraref05_Is [.agg [.var 186, .var 187, .var 188, .var 189, .var 190, .var 191, .var 192, .var 193, .var 194], .agg [.var 195, .var 196, .var 197, .var 198, .var 199, .var 200, .var 201, .var 202, .var 203]] [.one] <|
   .ite (.var 204) (
    .prim .not [.var 120] <|
    .ite (.var 205) (
     .call F.affine_Identity [] [.agg 36] <|
     .call F.penumbraref07_Identity [] [.agg 36] <|
     .call F.penumbraref07_Is [.agg [.var 206, .var 207, .var 208, .var 209, .var 210, .var 211, .var 212, .var 213, .var 214, .var 215, .var 216, .var 217, .var 218, .var 219, .var 220, .var 221, .var 222, .var 223, .var 224, .var 225, .var 226, .var 227, .var 228, .var 229, .var 230, .var 231, .var 232, .var 233, .var 234, .var 235, .var 236, .var 237, .var 238, .var 239, .var 240, .var 241], .agg [.var 242, .var 243, .var 244, .var 245, .var 246, .var 247, .var 248, .var 249, .var 250, .var 251, .var 252, .var 253, .var 254, .var 255, .var 256, .var 257, .var 258, .var 259, .var 260, .var 261, .var 262, .var 263, .var 264, .var 265, .var 266, .var 267, .var 268, .var 269, .var 270, .var 271, .var 272, .var 273, .var 274, .var 275, .var 276, .var 277]] [.one] <|
     .ret [.one (.var 278)]) (
     .ret [.one (.bol false)])) (
    .ret [.one (.bol false)])) (
   .ret [.one (.bol false)])) (
  .ret [.one (.bol false)])

def ir_penumbraref07_stretched : IR :=
 .call F.penumbraref03_One [] [.agg 3] <|
 .call F.penumbraref03_Sub [.agg [.var 18, .var 19, .var 20], .agg [.var 30, .var 31, .var 32]] [.agg 3] <|
 .call F.penumbraref05_Sub [.agg [.var 21, .var 22, .var 23, .var 24, .var 25, .var 26, .var 27, .var 28, .var 29], .agg [.var 0, .var 1, .var 2, .var 3, .var 4, .var 5, .var 6, .var 7, .var 8]] [.agg 9] <|
 .call F.penumbraref05_Dot [.agg [.var 36, .var 37, .var 38, .var 39, .var 40, .var 41, .var 42, .var 43, .var 44], .agg [.var 9, .var 10, .var 11, .var 12, .var 13, .var 14, .var 15, .var 16, .var 17]] [.agg 3] <|
 .call F.penumbraref03_Mul [.agg [.var 33, .var 34, .var 35], .agg [.var 45, .var 46, .var 47]] [.agg 3] <|
 .call F.penumbraref05_Scale [.agg [.var 48, .var 49, .var 50], .agg [.var 9, .var 10, .var 11, .var 12, .var 13, .var 14, .var 15, .var 16, .var 17]] [.agg 9] <|
 .call F.penumbraref05_Add [.agg [.var 21, .var 22, .var 23, .var 24, .var 25, .var 26, .var 27, .var 28, .var 29], .agg [.var 51, .var 52, .var 53, .var 54, .var 55, .var 56, .var 57, .var 58, .var 59]] [.agg 9] <|
 .ret [.agg [.var 60, .var 61, .var 62, .var 63, .var 64, .var 65, .var 66, .var 67, .var 68]]

def ir_penumbraref07_Stretch : IR :=
 .call F.penumbraref05_Zero [] [.agg 9] <|
 .call F.penumbraref07_stretched [.agg [.var 0, .var 1, .var 2, .var 3, .var 4, .var 5, .var 6, .var 7, .var 8], .agg [.var 9, .var 10, .var 11, .var 12, .var 13, .var 14, .var 15, .var 16, .var 17], .agg [.var 18, .var 19, .var 20], .agg [.var 21, .var 22, .var 23, .var 24, .var 25, .var 26, .var 27, .var 28, .var 29]] [.agg 9] <|
 .call F.penumbraref05_Of [.one (.int .i64 (1)), .one (.int .i64 (0)), .one (.int .i64 (0))] [.agg 9] <|
 .call F.penumbraref07_stretched [.agg [.var 0, .var 1, .var 2, .var 3, .var 4, .var 5, .var 6, .var 7, .var 8], .agg [.var 9, .var 10, .var 11, .var 12, .var 13, .var 14, .var 15, .var 16, .var 17], .agg [.var 18, .var 19, .var 20], .agg [.var 39, .var 40, .var 41, .var 42, .var 43, .var 44, .var 45, .var 46, .var 47]] [.agg 9] <|
 .call F.penumbraref05_Of [.one (.int .i64 (0)), .one (.int .i64 (1)), .one (.int .i64 (0))] [.agg 9] <|
 .call F.penumbraref07_stretched [.agg [.var 0, .var 1, .var 2, .var 3, .var 4, .var 5, .var 6, .var 7, .var 8], .agg [.var 9, .var 10, .var 11, .var 12, .var 13, .var 14, .var 15, .var 16, .var 17], .agg [.var 18, .var 19, .var 20], .agg [.var 57, .var 58, .var 59, .var 60, .var 61, .var 62, .var 63, .var 64, .var 65]] [.agg 9] <|
 .call F.penumbraref05_Of [.one (.int .i64 (0)), .one (.int .i64 (0)), .one (.int .i64 (1))] [.agg 9] <|
 .call F.penumbraref07_stretched [.agg [.var 0, .var 1, .var 2, .var 3, .var 4, .var 5, .var 6, .var 7, .var 8], .agg [.var 9, .var 10, .var 11, .var 12, .var 13, .var 14, .var 15, .var 16, .var 17], .agg [.var 18, .var 19, .var 20], .agg [.var 75, .var 76, .var 77, .var 78, .var 79, .var 80, .var 81, .var 82, .var 83]] [.agg 9] <|
 .call F.penumbraref07_Told [.agg [.var 30, .var 31, .var 32, .var 33, .var 34, .var 35, .var 36, .var 37, .var 38], .agg [.var 48, .var 49, .var 50, .var 51, .var 52, .var 53, .var 54, .var 55, .var 56], .agg [.var 66, .var 67, .var 68, .var 69, .var 70, .var 71, .var 72, .var 73, .var 74], .agg [.var 84, .var 85, .var 86, .var 87, .var 88, .var 89, .var 90, .var 91, .var 92]] [.agg 36] <|
 .ret [.agg [.var 93, .var 94, .var 95, .var 96, .var 97, .var 98, .var 99, .var 100, .var 101, .var 102, .var 103, .var 104, .var 105, .var 106, .var 107, .var 108, .var 109, .var 110, .var 111, .var 112, .var 113, .var 114, .var 115, .var 116, .var 117, .var 118, .var 119, .var 120, .var 121, .var 122, .var 123, .var 124, .var 125, .var 126, .var 127, .var 128]]

def ir_penumbralaw07_AffineTurns : IR :=
 .call F.affine_Inverse [.agg [.var 0, .var 1, .var 2, .var 3, .var 4, .var 5, .var 6, .var 7, .var 8, .var 9, .var 10, .var 11, .var 12, .var 13, .var 14, .var 15, .var 16, .var 17, .var 18, .var 19, .var 20, .var 21, .var 22, .var 23, .var 24, .var 25, .var 26, .var 27, .var 28, .var 29, .var 30, .var 31, .var 32, .var 33, .var 34, .var 35]] [.agg 36, .one] <|
 .call F.penumbraref07_Inverse [.agg [.var 0, .var 1, .var 2, .var 3, .var 4, .var 5, .var 6, .var 7, .var 8, .var 9, .var 10, .var 11, .var 12, .var 13, .var 14, .var 15, .var 16, .var 17, .var 18, .var 19, .var 20, .var 21, .var 22, .var 23, .var 24, .var 25, .var 26, .var 27, .var 28, .var 29, .var 30, .var 31, .var 32, .var 33, .var 34, .var 35]] [.agg 36, .one] <|
 .call F.penumbralaw07_fixed [] [.one] <|
 .ite (.var 143) (
  .call F.penumbraref07_Is [.agg [.var 69, .var 70, .var 71, .var 72, .var 73, .var 74, .var 75, .var 76, .var 77, .var 78, .var 79, .var 80, .var 81, .var 82, .var 83, .var 84, .var 85, .var 86, .var 87, .var 88, .var 89, .var 90, .var 91, .var 92, .var 93, .var 94, .var 95, .var 96, .var 97, .var 98, .var 99, .var 100, .var 101, .var 102, .var 103, .var 104], .agg [.var 106, .var 107, .var 108, .var 109, .var 110, .var 111, .var 112, .var 113, .var 114, .var 115, .var 116, .var 117, .var 118, .var 119, .var 120, .var 121, .var 122, .var 123, .var 124, .var 125, .var 126, .var 127, .var 128, .var 129, .var 130, .var 131, .var 132, .var 133, .var 134, .var 135, .var 136, .var 137, .var 138, .var 139, .var 140, .var 141]] [.one] <|
  .ite (.var 144) (
   .prim (.beq false) [.var 105, .var 142] <|
   .ite (.var 145) (
    .call F.affine_Stretch [.agg [.var 36, .var 37, .var 38, .var 39, .var 40, .var 41, .var 42, .var 43, .var 44], .agg [.var 45, .var 46, .var 47, .var 48, .var 49, .var 50, .var 51, .var 52, .var 53], .agg [.var 54, .var 55, .var 56]] [.agg 36] <|
    .call F.penumbraref07_Stretch [.agg [.var 36, .var 37, .var 38, .var 39, .var 40, .var 41, .var 42, .var 43, .var 44], .agg [.var 45, .var 46, .var 47, .var 48, .var 49, .var 50, .var 51, .var 52, .var 53], .agg [.var 54, .var 55, .var 56]] [.agg 36] <|
    .call F.penumbraref07_Is [.agg [.var 146, .var 147, .var 148, .var 149, .var 150, .var 151, .var 152, .var 153, .var 154, .var 155, .var 156, .var 157, .var 158, .var 159, .var 160, .var 161, .var 162, .var 163, .var 164, .var 165, .var 166, .var 167, .var 168, .var 169, .var 170, .var 171, .var 172, .var 173, .var 174, .var 175, .var 176, .var 177, .var 178, .var 179, .var 180, .var 181], .agg [.var 182, .var 183, .var 184, .var 185, .var 186, .var 187, .var 188, .var 189, .var 190, .var 191, .var 192, .var 193, .var 194, .var 195, .var 196, .var 197, .var 198, .var 199, .var 200, .var 201, .var 202, .var 203, .var 204, .var 205, .var 206, .var 207, .var 208, .var 209, .var 210, .var 211, .var 212, .var 213, .var 214, .var 215, .var 216, .var 217]] [.one] <|
    .ret [.one (.var 218)]) (
    .ret [.one (.bol false)])) (
   .ret [.one (.bol false)])) (
  .ret [.one (.bol false)])

theorem tree_vec_minor : symFunc Go.Proofs.Try.prog H0 400 F.vec_minor [.agg 3, .agg 3, .agg 3, .agg 3] = some ir_vec_minor := by kernel_rfl
theorem tree_vec_Cross : symFunc Go.Proofs.Try.prog H0 400 F.vec_Cross [.agg 9, .agg 9] = some ir_vec_Cross := by kernel_rfl
theorem tree_vec_Dot : symFunc Go.Proofs.Try.prog H0 400 F.vec_Dot [.agg 9, .agg 9] = some ir_vec_Dot := by kernel_rfl
theorem tree_affine_Det : symFunc Go.Proofs.Try.prog H0 400 F.affine_Det [.agg 36] = some ir_affine_Det := by kernel_rfl
theorem tree_affine_Identity : symFunc Go.Proofs.Try.prog H0 400 F.affine_Identity [] = some ir_affine_Identity := by kernel_rfl
theorem tree_affine_cofactors : symFunc Go.Proofs.Try.prog H0 400 F.affine_cofactors [.agg 36] = some ir_affine_cofactors := by kernel_rfl
theorem tree_vec_Scale : symFunc Go.Proofs.Try.prog H0 400 F.vec_Scale [.agg 3, .agg 9] = some ir_vec_Scale := by kernel_rfl
theorem tree_affine_Turn : symFunc Go.Proofs.Try.prog H0 400 F.affine_Turn [.agg 36, .agg 9] = some ir_affine_Turn := by kernel_rfl
theorem tree_affine_Inverse : symFunc Go.Proofs.Try.prog H0 400 F.affine_Inverse [.agg 36] = some ir_affine_Inverse := by kernel_rfl
theorem tree_penumbraref05_Cross : symFunc Go.Proofs.Try.prog H0 400 F.penumbraref05_Cross [.agg 9, .agg 9] = some ir_penumbraref05_Cross := by kernel_rfl
theorem tree_penumbraref05_Dot : symFunc Go.Proofs.Try.prog H0 400 F.penumbraref05_Dot [.agg 9, .agg 9] = some ir_penumbraref05_Dot := by kernel_rfl
theorem tree_penumbraref07_Det : symFunc Go.Proofs.Try.prog H0 400 F.penumbraref07_Det [.agg 36] = some ir_penumbraref07_Det := by kernel_rfl
theorem tree_penumbraref05_Zero : symFunc Go.Proofs.Try.prog H0 400 F.penumbraref05_Zero [] = some ir_penumbraref05_Zero := by kernel_rfl
theorem tree_penumbraref07_Identity : symFunc Go.Proofs.Try.prog H0 400 F.penumbraref07_Identity [] = some ir_penumbraref07_Identity := by kernel_rfl
theorem tree_penumbraref05_Sub : symFunc Go.Proofs.Try.prog H0 400 F.penumbraref05_Sub [.agg 9, .agg 9] = some ir_penumbraref05_Sub := by kernel_rfl
theorem tree_penumbraref05_Scale : symFunc Go.Proofs.Try.prog H0 400 F.penumbraref05_Scale [.agg 3, .agg 9] = some ir_penumbraref05_Scale := by kernel_rfl
theorem tree_penumbraref07_solve : symFunc Go.Proofs.Try.prog H0 400 F.penumbraref07_solve [.agg 36, .agg 3, .agg 3, .agg 9] = some ir_penumbraref07_solve := by kernel_rfl
theorem tree_penumbraref05_Add : symFunc Go.Proofs.Try.prog H0 400 F.penumbraref05_Add [.agg 9, .agg 9] = some ir_penumbraref05_Add := by kernel_rfl
theorem tree_penumbraref07_Told : symFunc Go.Proofs.Try.prog H0 400 F.penumbraref07_Told [.agg 9, .agg 9, .agg 9, .agg 9] = some ir_penumbraref07_Told := by kernel_rfl
theorem tree_penumbraref07_Inverse : symFunc Go.Proofs.Try.prog H0 400 F.penumbraref07_Inverse [.agg 36] = some ir_penumbraref07_Inverse := by kernel_rfl
theorem tree_affine_Stretch : symFunc Go.Proofs.Try.prog H0 400 F.affine_Stretch [.agg 9, .agg 9, .agg 3] = some ir_affine_Stretch := by kernel_rfl
theorem tree_affine_Apply : symFunc Go.Proofs.Try.prog H0 400 F.affine_Apply [.agg 36, .agg 9] = some ir_affine_Apply := by kernel_rfl
theorem tree_penumbraref05_Is : symFunc Go.Proofs.Try.prog H0 400 F.penumbraref05_Is [.agg 9, .agg 9] = some ir_penumbraref05_Is := by kernel_rfl
theorem tree_affine_Area : symFunc Go.Proofs.Try.prog H0 400 F.affine_Area [.agg 36, .agg 9] = some ir_affine_Area := by kernel_rfl
theorem tree_penumbraref07_Is : symFunc Go.Proofs.Try.prog H0 400 F.penumbraref07_Is [.agg 36, .agg 36] = some ir_penumbraref07_Is := by kernel_rfl
theorem tree_penumbralaw07_fixed : symFunc Go.Proofs.Try.prog H0 400 F.penumbralaw07_fixed [] = some ir_penumbralaw07_fixed := by kernel_rfl
theorem tree_penumbraref07_stretched : symFunc Go.Proofs.Try.prog H0 400 F.penumbraref07_stretched [.agg 9, .agg 9, .agg 3, .agg 9] = some ir_penumbraref07_stretched := by kernel_rfl
theorem tree_penumbraref07_Stretch : symFunc Go.Proofs.Try.prog H0 400 F.penumbraref07_Stretch [.agg 9, .agg 9, .agg 3] = some ir_penumbraref07_Stretch := by kernel_rfl
theorem tree_penumbralaw07_AffineTurns : symFunc Go.Proofs.Try.prog H0 400 F.penumbralaw07_AffineTurns [.agg 36, .agg 33] = some ir_penumbralaw07_AffineTurns := by kernel_rfl
end Go.Px
namespace Go.Px.Na
open Go.RowKit
open Go.Proofs.Try (prog)

theorem n_vec_minor_0  {r0 r1 r2 r3 : RR} {x0 x1 x2 x3 : Rat} {k0 : Rat} (h0 : Num 9000000000 r0 x0) (h1 : Num 9000000000 r1 x1) (h2 : Num 9000000000 r2 x2) (h3 : Num 9000000000 r3 x3) (e0 : k0 = ((x0 * x3) - (x1 * x2)))  : PureCalls prog F.vec_minor [.agg ([.bool r0.neg, nl r0.num, nl r0.den]), .agg ([.bool r1.neg, nl r1.num, nl r1.den]), .agg ([.bool r2.neg, nl r2.num, nl r2.den]), .agg ([.bool r3.neg, nl r3.num, nl r3.den])] [.agg ([.bool (decide ((k0).num < 0)), nn (k0).num.natAbs, nn (k0).den])] := by
  subst e0
  refine symFunc_sound hmix tree_vec_minor (by kernel_rfl) rfl ?_
  unfold ir_vec_minor
  simp only [fa_agg, fa_one, fa_nil, List.cons_append, List.nil_append, List.append_nil]
  refine primS (rl [r0, r3]) rfl ?_
  refine call_step (n_rat_Product_2 (k0 := (x0 * x3)) (h0.mono (by decide)) (h3.mono (by decide)) rfl) rfl ?_
  simp only [fa_agg, fa_one, fa_nil, List.cons_append, List.nil_append, List.append_nil]
  refine primS (rl [r1, r2]) rfl ?_
  refine call_step (n_rat_Product_2 (k0 := (x1 * x2)) (h1.mono (by decide)) (h2.mono (by decide)) rfl) rfl ?_
  simp only [fa_agg, fa_one, fa_nil, List.cons_append, List.nil_append, List.append_nil]
  have m7 : Num 18000000000 (cr (x0 * x3)) (x0 * x3) := Num.of (Sm.mul h0.sm h3.sm)
  have m8 : Num 18000000000 (cr (x1 * x2)) (x1 * x2) := Num.of (Sm.mul h1.sm h2.sm)
  refine call_step (n_rat_Sub (k0 := ((x0 * x3) - (x1 * x2))) (m7.mono (by decide)) (m8.mono (by decide)) rfl) rfl ?_
  simp only [fa_agg, fa_one, fa_nil, List.cons_append, List.nil_append, List.append_nil]
  exact ret_step rfl

theorem n_vec_Cross_0  {r0 r1 r2 r3 r4 r5 : RR} {x0 x1 x2 x3 x4 x5 : Rat} {k0 k1 k2 : Rat} (h0 : Num 9000000000 r0 x0) (h1 : Num 9000000000 r1 x1) (h2 : Num 9000000000 r2 x2) (h3 : Num 9000000000 r3 x3) (h4 : Num 9000000000 r4 x4) (h5 : Num 9000000000 r5 x5) (e0 : k0 = ((x1 * x5) - (x2 * x4))) (e1 : k1 = ((x2 * x3) - (x0 * x5))) (e2 : k2 = ((x0 * x4) - (x1 * x3)))  : PureCalls prog F.vec_Cross [.agg ([.bool r0.neg, nl r0.num, nl r0.den, .bool r1.neg, nl r1.num, nl r1.den, .bool r2.neg, nl r2.num, nl r2.den]), .agg ([.bool r3.neg, nl r3.num, nl r3.den, .bool r4.neg, nl r4.num, nl r4.den, .bool r5.neg, nl r5.num, nl r5.den])] [.agg ([.bool (decide ((k0).num < 0)), nn (k0).num.natAbs, nn (k0).den, .bool (decide ((k1).num < 0)), nn (k1).num.natAbs, nn (k1).den, .bool (decide ((k2).num < 0)), nn (k2).num.natAbs, nn (k2).den])] := by
  subst e0 e1 e2
  refine symFunc_sound hmix tree_vec_Cross (by kernel_rfl) rfl ?_
  unfold ir_vec_Cross
  simp only [fa_agg, fa_one, fa_nil, List.cons_append, List.nil_append, List.append_nil]
  refine call_step (n_vec_minor_0 (k0 := ((x1 * x5) - (x2 * x4))) (h1.mono (by decide)) (h2.mono (by decide)) (h4.mono (by decide)) (h5.mono (by decide)) rfl) rfl ?_
  simp only [fa_agg, fa_one, fa_nil, List.cons_append, List.nil_append, List.append_nil]
  refine call_step (n_vec_minor_0 (k0 := ((x2 * x3) - (x0 * x5))) (h2.mono (by decide)) (h0.mono (by decide)) (h5.mono (by decide)) (h3.mono (by decide)) rfl) rfl ?_
  simp only [fa_agg, fa_one, fa_nil, List.cons_append, List.nil_append, List.append_nil]
  refine call_step (n_vec_minor_0 (k0 := ((x0 * x4) - (x1 * x3))) (h0.mono (by decide)) (h1.mono (by decide)) (h3.mono (by decide)) (h4.mono (by decide)) rfl) rfl ?_
  simp only [fa_agg, fa_one, fa_nil, List.cons_append, List.nil_append, List.append_nil]
  exact ret_step rfl

theorem n_vec_Dot_0  {r0 r1 r2 r3 r4 r5 : RR} {x0 x1 x2 x3 x4 x5 : Rat} {k0 : Rat} (h0 : Num 9000000000 r0 x0) (h1 : Num 9000000000 r1 x1) (h2 : Num 9000000000 r2 x2) (h3 : Num 9000000000 r3 x3) (h4 : Num 9000000000 r4 x4) (h5 : Num 9000000000 r5 x5) (e0 : k0 = (((x0 * x3) + (x1 * x4)) + (x2 * x5)))  : PureCalls prog F.vec_Dot [.agg ([.bool r0.neg, nl r0.num, nl r0.den, .bool r1.neg, nl r1.num, nl r1.den, .bool r2.neg, nl r2.num, nl r2.den]), .agg ([.bool r3.neg, nl r3.num, nl r3.den, .bool r4.neg, nl r4.num, nl r4.den, .bool r5.neg, nl r5.num, nl r5.den])] [.agg ([.bool (decide ((k0).num < 0)), nn (k0).num.natAbs, nn (k0).den])] := by
  subst e0
  refine symFunc_sound hmix tree_vec_Dot (by kernel_rfl) rfl ?_
  unfold ir_vec_Dot
  simp only [fa_agg, fa_one, fa_nil, List.cons_append, List.nil_append, List.append_nil]
  refine primS (rl [r0, r3]) rfl ?_
  refine call_step (n_rat_Product_2 (k0 := (x0 * x3)) (h0.mono (by decide)) (h3.mono (by decide)) rfl) rfl ?_
  simp only [fa_agg, fa_one, fa_nil, List.cons_append, List.nil_append, List.append_nil]
  refine primS (rl [r1, r4]) rfl ?_
  refine call_step (n_rat_Product_2 (k0 := (x1 * x4)) (h1.mono (by decide)) (h4.mono (by decide)) rfl) rfl ?_
  simp only [fa_agg, fa_one, fa_nil, List.cons_append, List.nil_append, List.append_nil]
  refine primS (rl [r2, r5]) rfl ?_
  refine call_step (n_rat_Product_2 (k0 := (x2 * x5)) (h2.mono (by decide)) (h5.mono (by decide)) rfl) rfl ?_
  simp only [fa_agg, fa_one, fa_nil, List.cons_append, List.nil_append, List.append_nil]
  refine primS (rl [(cr (x0 * x3)), (cr (x1 * x4)), (cr (x2 * x5))]) rfl ?_
  have m20 : Num 18000000000 (cr (x0 * x3)) (x0 * x3) := Num.of (Sm.mul h0.sm h3.sm)
  have m21 : Num 18000000000 (cr (x1 * x4)) (x1 * x4) := Num.of (Sm.mul h1.sm h4.sm)
  have m22 : Num 18000000000 (cr (x2 * x5)) (x2 * x5) := Num.of (Sm.mul h2.sm h5.sm)
  refine call_step (n_rat_Sum_3 (k0 := (((x0 * x3) + (x1 * x4)) + (x2 * x5))) (m20.mono (by decide)) (m21.mono (by decide)) (m22.mono (by decide)) rfl) rfl ?_
  simp only [fa_agg, fa_one, fa_nil, List.cons_append, List.nil_append, List.append_nil]
  exact ret_step rfl

theorem n_affine_Det_0  {r0 r1 r2 r3 r4 r5 r6 r7 r8 r9 r10 r11 : RR} {x0 x1 x2 x3 x4 x5 x6 x7 x8 x9 x10 x11 : Rat} {k0 : Rat} (h0 : Num 900000000 r0 x0) (h1 : Num 900000000 r1 x1) (h2 : Num 900000000 r2 x2) (h3 : Num 900000000 r3 x3) (h4 : Num 900000000 r4 x4) (h5 : Num 900000000 r5 x5) (h6 : Num 900000000 r6 x6) (h7 : Num 900000000 r7 x7) (h8 : Num 900000000 r8 x8) (h9 : Num 900000000 r9 x9) (h10 : Num 900000000 r10 x10) (h11 : Num 900000000 r11 x11) (e0 : k0 = (((x0 * ((x4 * x8) - (x5 * x7))) + (x1 * ((x5 * x6) - (x3 * x8)))) + (x2 * ((x3 * x7) - (x4 * x6)))))  : PureCalls prog F.affine_Det [.agg ([.bool r0.neg, nl r0.num, nl r0.den, .bool r1.neg, nl r1.num, nl r1.den, .bool r2.neg, nl r2.num, nl r2.den, .bool r3.neg, nl r3.num, nl r3.den, .bool r4.neg, nl r4.num, nl r4.den, .bool r5.neg, nl r5.num, nl r5.den, .bool r6.neg, nl r6.num, nl r6.den, .bool r7.neg, nl r7.num, nl r7.den, .bool r8.neg, nl r8.num, nl r8.den, .bool r9.neg, nl r9.num, nl r9.den, .bool r10.neg, nl r10.num, nl r10.den, .bool r11.neg, nl r11.num, nl r11.den])] [.agg ([.bool (decide ((k0).num < 0)), nn (k0).num.natAbs, nn (k0).den])] := by
  subst e0
  refine symFunc_sound hmix tree_affine_Det (by kernel_rfl) rfl ?_
  unfold ir_affine_Det
  simp only [fa_agg, fa_one, fa_nil, List.cons_append, List.nil_append, List.append_nil]
  refine call_step (n_vec_Cross_0 (k0 := ((x4 * x8) - (x5 * x7))) (k1 := ((x5 * x6) - (x3 * x8))) (k2 := ((x3 * x7) - (x4 * x6))) (h3.mono (by decide)) (h4.mono (by decide)) (h5.mono (by decide)) (h6.mono (by decide)) (h7.mono (by decide)) (h8.mono (by decide)) rfl rfl rfl) rfl ?_
  simp only [fa_agg, fa_one, fa_nil, List.cons_append, List.nil_append, List.append_nil]
  have m26 : Num 3600000001 (cr ((x4 * x8) - (x5 * x7))) ((x4 * x8) - (x5 * x7)) := Num.of (Sm.sub (Sm.mul h4.sm h8.sm) (Sm.mul h5.sm h7.sm))
  have m27 : Num 3600000001 (cr ((x5 * x6) - (x3 * x8))) ((x5 * x6) - (x3 * x8)) := Num.of (Sm.sub (Sm.mul h5.sm h6.sm) (Sm.mul h3.sm h8.sm))
  have m28 : Num 3600000001 (cr ((x3 * x7) - (x4 * x6))) ((x3 * x7) - (x4 * x6)) := Num.of (Sm.sub (Sm.mul h3.sm h7.sm) (Sm.mul h4.sm h6.sm))
  refine call_step (n_vec_Dot_0 (k0 := (((x0 * ((x4 * x8) - (x5 * x7))) + (x1 * ((x5 * x6) - (x3 * x8)))) + (x2 * ((x3 * x7) - (x4 * x6))))) (h0.mono (by decide)) (h1.mono (by decide)) (h2.mono (by decide)) (m26.mono (by decide)) (m27.mono (by decide)) (m28.mono (by decide)) rfl) rfl ?_
  simp only [fa_agg, fa_one, fa_nil, List.cons_append, List.nil_append, List.append_nil]
  exact ret_step rfl

theorem n_affine_Identity_0 {Z0 Z1 : Rat} (Y0 : Z0 = (0 : Rat)) (Y1 : Z1 = (1 : Rat))    : PureCalls prog F.affine_Identity [] [.agg ([.bool (decide ((Z1).num < 0)), nn (Z1).num.natAbs, nn (Z1).den, .bool (decide ((Z0).num < 0)), nn (Z0).num.natAbs, nn (Z0).den, .bool (decide ((Z0).num < 0)), nn (Z0).num.natAbs, nn (Z0).den, .bool (decide ((Z0).num < 0)), nn (Z0).num.natAbs, nn (Z0).den, .bool (decide ((Z1).num < 0)), nn (Z1).num.natAbs, nn (Z1).den, .bool (decide ((Z0).num < 0)), nn (Z0).num.natAbs, nn (Z0).den, .bool (decide ((Z0).num < 0)), nn (Z0).num.natAbs, nn (Z0).den, .bool (decide ((Z0).num < 0)), nn (Z0).num.natAbs, nn (Z0).den, .bool (decide ((Z1).num < 0)), nn (Z1).num.natAbs, nn (Z1).den, .bool (decide ((Z0).num < 0)), nn (Z0).num.natAbs, nn (Z0).den, .bool (decide ((Z0).num < 0)), nn (Z0).num.natAbs, nn (Z0).den, .bool (decide ((Z0).num < 0)), nn (Z0).num.natAbs, nn (Z0).den])] := by
  refine symFunc_sound hmix tree_affine_Identity (by kernel_rfl) rfl ?_
  unfold ir_affine_Identity
  simp only [fa_agg, fa_one, fa_nil, List.cons_append, List.nil_append, List.append_nil]
  refine call_step (n_vec_Of (1) (0) (0) (by decide) (by decide) (by decide) (by decide) (by decide) (by decide) (Y1.trans (by decide +kernel)) (Y0.trans (by decide +kernel)) (Y0.trans (by decide +kernel))) rfl ?_
  simp only [fa_agg, fa_one, fa_nil, List.cons_append, List.nil_append, List.append_nil]
  refine call_step (n_vec_Of (0) (1) (0) (by decide) (by decide) (by decide) (by decide) (by decide) (by decide) (Y0.trans (by decide +kernel)) (Y1.trans (by decide +kernel)) (Y0.trans (by decide +kernel))) rfl ?_
  simp only [fa_agg, fa_one, fa_nil, List.cons_append, List.nil_append, List.append_nil]
  refine call_step (n_vec_Of (0) (0) (1) (by decide) (by decide) (by decide) (by decide) (by decide) (by decide) (Y0.trans (by decide +kernel)) (Y0.trans (by decide +kernel)) (Y1.trans (by decide +kernel))) rfl ?_
  simp only [fa_agg, fa_one, fa_nil, List.cons_append, List.nil_append, List.append_nil]
  refine call_step (n_vec_Of (0) (0) (0) (by decide) (by decide) (by decide) (by decide) (by decide) (by decide) (Y0.trans (by decide +kernel)) (Y0.trans (by decide +kernel)) (Y0.trans (by decide +kernel))) rfl ?_
  simp only [fa_agg, fa_one, fa_nil, List.cons_append, List.nil_append, List.append_nil]
  exact ret_step rfl

theorem n_affine_cofactors_0  {r0 r1 r2 r3 r4 r5 r6 r7 r8 r9 r10 r11 : RR} {x0 x1 x2 x3 x4 x5 x6 x7 x8 x9 x10 x11 : Rat} {k0 k1 k2 k3 k4 k5 k6 k7 k8 : Rat} (h0 : Num 9000000000 r0 x0) (h1 : Num 9000000000 r1 x1) (h2 : Num 9000000000 r2 x2) (h3 : Num 9000000000 r3 x3) (h4 : Num 9000000000 r4 x4) (h5 : Num 9000000000 r5 x5) (h6 : Num 9000000000 r6 x6) (h7 : Num 9000000000 r7 x7) (h8 : Num 9000000000 r8 x8) (h9 : Num 9000000000 r9 x9) (h10 : Num 9000000000 r10 x10) (h11 : Num 9000000000 r11 x11) (e0 : k0 = ((x4 * x8) - (x5 * x7))) (e1 : k1 = ((x5 * x6) - (x3 * x8))) (e2 : k2 = ((x3 * x7) - (x4 * x6))) (e3 : k3 = ((x7 * x2) - (x8 * x1))) (e4 : k4 = ((x8 * x0) - (x6 * x2))) (e5 : k5 = ((x6 * x1) - (x7 * x0))) (e6 : k6 = ((x1 * x5) - (x2 * x4))) (e7 : k7 = ((x2 * x3) - (x0 * x5))) (e8 : k8 = ((x0 * x4) - (x1 * x3)))  : PureCalls prog F.affine_cofactors [.agg ([.bool r0.neg, nl r0.num, nl r0.den, .bool r1.neg, nl r1.num, nl r1.den, .bool r2.neg, nl r2.num, nl r2.den, .bool r3.neg, nl r3.num, nl r3.den, .bool r4.neg, nl r4.num, nl r4.den, .bool r5.neg, nl r5.num, nl r5.den, .bool r6.neg, nl r6.num, nl r6.den, .bool r7.neg, nl r7.num, nl r7.den, .bool r8.neg, nl r8.num, nl r8.den, .bool r9.neg, nl r9.num, nl r9.den, .bool r10.neg, nl r10.num, nl r10.den, .bool r11.neg, nl r11.num, nl r11.den])] [.agg ([.bool (decide ((k0).num < 0)), nn (k0).num.natAbs, nn (k0).den, .bool (decide ((k1).num < 0)), nn (k1).num.natAbs, nn (k1).den, .bool (decide ((k2).num < 0)), nn (k2).num.natAbs, nn (k2).den, .bool (decide ((k3).num < 0)), nn (k3).num.natAbs, nn (k3).den, .bool (decide ((k4).num < 0)), nn (k4).num.natAbs, nn (k4).den, .bool (decide ((k5).num < 0)), nn (k5).num.natAbs, nn (k5).den, .bool (decide ((k6).num < 0)), nn (k6).num.natAbs, nn (k6).den, .bool (decide ((k7).num < 0)), nn (k7).num.natAbs, nn (k7).den, .bool (decide ((k8).num < 0)), nn (k8).num.natAbs, nn (k8).den])] := by
  subst e0 e1 e2 e3 e4 e5 e6 e7 e8
  refine symFunc_sound hmix tree_affine_cofactors (by kernel_rfl) rfl ?_
  unfold ir_affine_cofactors
  simp only [fa_agg, fa_one, fa_nil, List.cons_append, List.nil_append, List.append_nil]
  refine call_step (n_vec_Cross_0 (k0 := ((x4 * x8) - (x5 * x7))) (k1 := ((x5 * x6) - (x3 * x8))) (k2 := ((x3 * x7) - (x4 * x6))) (h3.mono (by decide)) (h4.mono (by decide)) (h5.mono (by decide)) (h6.mono (by decide)) (h7.mono (by decide)) (h8.mono (by decide)) rfl rfl rfl) rfl ?_
  simp only [fa_agg, fa_one, fa_nil, List.cons_append, List.nil_append, List.append_nil]
  refine call_step (n_vec_Cross_0 (k0 := ((x7 * x2) - (x8 * x1))) (k1 := ((x8 * x0) - (x6 * x2))) (k2 := ((x6 * x1) - (x7 * x0))) (h6.mono (by decide)) (h7.mono (by decide)) (h8.mono (by decide)) (h0.mono (by decide)) (h1.mono (by decide)) (h2.mono (by decide)) rfl rfl rfl) rfl ?_
  simp only [fa_agg, fa_one, fa_nil, List.cons_append, List.nil_append, List.append_nil]
  refine call_step (n_vec_Cross_0 (k0 := ((x1 * x5) - (x2 * x4))) (k1 := ((x2 * x3) - (x0 * x5))) (k2 := ((x0 * x4) - (x1 * x3))) (h0.mono (by decide)) (h1.mono (by decide)) (h2.mono (by decide)) (h3.mono (by decide)) (h4.mono (by decide)) (h5.mono (by decide)) rfl rfl rfl) rfl ?_
  simp only [fa_agg, fa_one, fa_nil, List.cons_append, List.nil_append, List.append_nil]
  exact ret_step rfl

theorem n_vec_Scale_0  {r0 r1 r2 r3 : RR} {x0 x1 x2 x3 : Rat} {k0 k1 k2 : Rat} (h0 : Num 9000000000 r0 x0) (h1 : Num 9000000000 r1 x1) (h2 : Num 9000000000 r2 x2) (h3 : Num 9000000000 r3 x3) (e0 : k0 = (x0 * x1)) (e1 : k1 = (x0 * x2)) (e2 : k2 = (x0 * x3))  : PureCalls prog F.vec_Scale [.agg ([.bool r0.neg, nl r0.num, nl r0.den]), .agg ([.bool r1.neg, nl r1.num, nl r1.den, .bool r2.neg, nl r2.num, nl r2.den, .bool r3.neg, nl r3.num, nl r3.den])] [.agg ([.bool (decide ((k0).num < 0)), nn (k0).num.natAbs, nn (k0).den, .bool (decide ((k1).num < 0)), nn (k1).num.natAbs, nn (k1).den, .bool (decide ((k2).num < 0)), nn (k2).num.natAbs, nn (k2).den])] := by
  subst e0 e1 e2
  refine symFunc_sound hmix tree_vec_Scale (by kernel_rfl) rfl ?_
  unfold ir_vec_Scale
  simp only [fa_agg, fa_one, fa_nil, List.cons_append, List.nil_append, List.append_nil]
  refine primS (rl [r0, r1]) rfl ?_
  refine call_step (n_rat_Product_2 (k0 := (x0 * x1)) (h0.mono (by decide)) (h1.mono (by decide)) rfl) rfl ?_
  simp only [fa_agg, fa_one, fa_nil, List.cons_append, List.nil_append, List.append_nil]
  refine primS (rl [r0, r2]) rfl ?_
  refine call_step (n_rat_Product_2 (k0 := (x0 * x2)) (h0.mono (by decide)) (h2.mono (by decide)) rfl) rfl ?_
  simp only [fa_agg, fa_one, fa_nil, List.cons_append, List.nil_append, List.append_nil]
  refine primS (rl [r0, r3]) rfl ?_
  refine call_step (n_rat_Product_2 (k0 := (x0 * x3)) (h0.mono (by decide)) (h3.mono (by decide)) rfl) rfl ?_
  simp only [fa_agg, fa_one, fa_nil, List.cons_append, List.nil_append, List.append_nil]
  exact ret_step rfl

theorem n_affine_Turn_0  {r0 r1 r2 r3 r4 r5 r6 r7 r8 r9 r10 r11 r12 r13 r14 : RR} {x0 x1 x2 x3 x4 x5 x6 x7 x8 x9 x10 x11 x12 x13 x14 : Rat} {k0 k1 k2 : Rat} (h0 : Num 9000000000 r0 x0) (h1 : Num 9000000000 r1 x1) (h2 : Num 9000000000 r2 x2) (h3 : Num 9000000000 r3 x3) (h4 : Num 9000000000 r4 x4) (h5 : Num 9000000000 r5 x5) (h6 : Num 9000000000 r6 x6) (h7 : Num 9000000000 r7 x7) (h8 : Num 9000000000 r8 x8) (h9 : Num 9000000000 r9 x9) (h10 : Num 9000000000 r10 x10) (h11 : Num 9000000000 r11 x11) (h12 : Num 9000000000 r12 x12) (h13 : Num 9000000000 r13 x13) (h14 : Num 9000000000 r14 x14) (e0 : k0 = (((x0 * x12) + (x1 * x13)) + (x2 * x14))) (e1 : k1 = (((x3 * x12) + (x4 * x13)) + (x5 * x14))) (e2 : k2 = (((x6 * x12) + (x7 * x13)) + (x8 * x14)))  : PureCalls prog F.affine_Turn [.agg ([.bool r0.neg, nl r0.num, nl r0.den, .bool r1.neg, nl r1.num, nl r1.den, .bool r2.neg, nl r2.num, nl r2.den, .bool r3.neg, nl r3.num, nl r3.den, .bool r4.neg, nl r4.num, nl r4.den, .bool r5.neg, nl r5.num, nl r5.den, .bool r6.neg, nl r6.num, nl r6.den, .bool r7.neg, nl r7.num, nl r7.den, .bool r8.neg, nl r8.num, nl r8.den, .bool r9.neg, nl r9.num, nl r9.den, .bool r10.neg, nl r10.num, nl r10.den, .bool r11.neg, nl r11.num, nl r11.den]), .agg ([.bool r12.neg, nl r12.num, nl r12.den, .bool r13.neg, nl r13.num, nl r13.den, .bool r14.neg, nl r14.num, nl r14.den])] [.agg ([.bool (decide ((k0).num < 0)), nn (k0).num.natAbs, nn (k0).den, .bool (decide ((k1).num < 0)), nn (k1).num.natAbs, nn (k1).den, .bool (decide ((k2).num < 0)), nn (k2).num.natAbs, nn (k2).den])] := by
  subst e0 e1 e2
  refine symFunc_sound hmix tree_affine_Turn (by kernel_rfl) rfl ?_
  unfold ir_affine_Turn
  simp only [fa_agg, fa_one, fa_nil, List.cons_append, List.nil_append, List.append_nil]
  refine call_step (n_vec_Dot_0 (k0 := (((x0 * x12) + (x1 * x13)) + (x2 * x14))) (h0.mono (by decide)) (h1.mono (by decide)) (h2.mono (by decide)) (h12.mono (by decide)) (h13.mono (by decide)) (h14.mono (by decide)) rfl) rfl ?_
  simp only [fa_agg, fa_one, fa_nil, List.cons_append, List.nil_append, List.append_nil]
  refine call_step (n_vec_Dot_0 (k0 := (((x3 * x12) + (x4 * x13)) + (x5 * x14))) (h3.mono (by decide)) (h4.mono (by decide)) (h5.mono (by decide)) (h12.mono (by decide)) (h13.mono (by decide)) (h14.mono (by decide)) rfl) rfl ?_
  simp only [fa_agg, fa_one, fa_nil, List.cons_append, List.nil_append, List.append_nil]
  refine call_step (n_vec_Dot_0 (k0 := (((x6 * x12) + (x7 * x13)) + (x8 * x14))) (h6.mono (by decide)) (h7.mono (by decide)) (h8.mono (by decide)) (h12.mono (by decide)) (h13.mono (by decide)) (h14.mono (by decide)) rfl) rfl ?_
  simp only [fa_agg, fa_one, fa_nil, List.cons_append, List.nil_append, List.append_nil]
  exact ret_step rfl

theorem n_affine_Inverse_0 {Z0 Z1 : Rat} (Y0 : Z0 = (0 : Rat)) (Y1 : Z1 = (1 : Rat)) {r0 r1 r2 r3 r4 r5 r6 r7 r8 r9 r10 r11 : RR} {x0 x1 x2 x3 x4 x5 x6 x7 x8 x9 x10 x11 : Rat} {k0 : Rat} (h0 : Num 90000000 r0 x0) (h1 : Num 90000000 r1 x1) (h2 : Num 90000000 r2 x2) (h3 : Num 90000000 r3 x3) (h4 : Num 90000000 r4 x4) (h5 : Num 90000000 r5 x5) (h6 : Num 90000000 r6 x6) (h7 : Num 90000000 r7 x7) (h8 : Num 90000000 r8 x8) (h9 : Num 90000000 r9 x9) (h10 : Num 90000000 r10 x10) (h11 : Num 90000000 r11 x11) (e0 : k0 = (((x0 * ((x4 * x8) - (x5 * x7))) + (x1 * ((x5 * x6) - (x3 * x8)))) + (x2 * ((x3 * x7) - (x4 * x6))))) (c0 : k0 = Z0) : PureCalls prog F.affine_Inverse [.agg ([.bool r0.neg, nl r0.num, nl r0.den, .bool r1.neg, nl r1.num, nl r1.den, .bool r2.neg, nl r2.num, nl r2.den, .bool r3.neg, nl r3.num, nl r3.den, .bool r4.neg, nl r4.num, nl r4.den, .bool r5.neg, nl r5.num, nl r5.den, .bool r6.neg, nl r6.num, nl r6.den, .bool r7.neg, nl r7.num, nl r7.den, .bool r8.neg, nl r8.num, nl r8.den, .bool r9.neg, nl r9.num, nl r9.den, .bool r10.neg, nl r10.num, nl r10.den, .bool r11.neg, nl r11.num, nl r11.den])] [.agg ([.bool (decide ((Z1).num < 0)), nn (Z1).num.natAbs, nn (Z1).den, .bool (decide ((Z0).num < 0)), nn (Z0).num.natAbs, nn (Z0).den, .bool (decide ((Z0).num < 0)), nn (Z0).num.natAbs, nn (Z0).den, .bool (decide ((Z0).num < 0)), nn (Z0).num.natAbs, nn (Z0).den, .bool (decide ((Z1).num < 0)), nn (Z1).num.natAbs, nn (Z1).den, .bool (decide ((Z0).num < 0)), nn (Z0).num.natAbs, nn (Z0).den, .bool (decide ((Z0).num < 0)), nn (Z0).num.natAbs, nn (Z0).den, .bool (decide ((Z0).num < 0)), nn (Z0).num.natAbs, nn (Z0).den, .bool (decide ((Z1).num < 0)), nn (Z1).num.natAbs, nn (Z1).den, .bool (decide ((Z0).num < 0)), nn (Z0).num.natAbs, nn (Z0).den, .bool (decide ((Z0).num < 0)), nn (Z0).num.natAbs, nn (Z0).den, .bool (decide ((Z0).num < 0)), nn (Z0).num.natAbs, nn (Z0).den]), .one (.bool false)] := by
  subst e0
  refine symFunc_sound hmix tree_affine_Inverse (by kernel_rfl) rfl ?_
  unfold ir_affine_Inverse
  simp only [fa_agg, fa_one, fa_nil, List.cons_append, List.nil_append, List.append_nil]
  refine call_step (n_rat_Of (1) (1) (by decide) (by decide) (by decide) (by decide) (Y1.trans (by decide +kernel))) rfl ?_
  simp only [fa_agg, fa_one, fa_nil, List.cons_append, List.nil_append, List.append_nil]
  refine call_step (n_affine_Det_0 (k0 := (((x0 * ((x4 * x8) - (x5 * x7))) + (x1 * ((x5 * x6) - (x3 * x8)))) + (x2 * ((x3 * x7) - (x4 * x6))))) (h0.mono (by decide)) (h1.mono (by decide)) (h2.mono (by decide)) (h3.mono (by decide)) (h4.mono (by decide)) (h5.mono (by decide)) (h6.mono (by decide)) (h7.mono (by decide)) (h8.mono (by decide)) (h9.mono (by decide)) (h10.mono (by decide)) (h11.mono (by decide)) rfl) rfl ?_
  simp only [fa_agg, fa_one, fa_nil, List.cons_append, List.nil_append, List.append_nil]
  have m67 : Num 1 (cr Z1) Z1 := Num.c Y1 (by decide +kernel) (by decide +kernel)
  have m68 : Num 1350000005 (cr (((x0 * ((x4 * x8) - (x5 * x7))) + (x1 * ((x5 * x6) - (x3 * x8)))) + (x2 * ((x3 * x7) - (x4 * x6))))) (((x0 * ((x4 * x8) - (x5 * x7))) + (x1 * ((x5 * x6) - (x3 * x8)))) + (x2 * ((x3 * x7) - (x4 * x6)))) := Num.of (Sm.add (Sm.add (Sm.mul h0.sm (Sm.sub (Sm.mul h4.sm h8.sm) (Sm.mul h5.sm h7.sm))) (Sm.mul h1.sm (Sm.sub (Sm.mul h5.sm h6.sm) (Sm.mul h3.sm h8.sm)))) (Sm.mul h2.sm (Sm.sub (Sm.mul h3.sm h7.sm) (Sm.mul h4.sm h6.sm))))
  refine call_step (n_rat_Div_t Y0 (m67.mono (by decide)) (m68.mono (by decide)) c0) rfl ?_
  simp only [fa_agg, fa_one, fa_nil, List.cons_append, List.nil_append, List.append_nil]
  refine primS (.bool true) rfl ?_
  refine itT rfl ?_
  refine call_step (n_affine_Identity_0 Y0 Y1) rfl ?_
  simp only [fa_agg, fa_one, fa_nil, List.cons_append, List.nil_append, List.append_nil]
  exact ret_step rfl

theorem n_affine_Inverse_1 {Zm1 Z0 Z1 : Rat} (Ym1 : Zm1 = (-1 : Rat)) (Y0 : Z0 = (0 : Rat)) (Y1 : Z1 = (1 : Rat)) {r0 r1 r2 r3 r4 r5 r6 r7 r8 r9 r10 r11 : RR} {x0 x1 x2 x3 x4 x5 x6 x7 x8 x9 x10 x11 : Rat} {k0 k1 k2 k3 k4 k5 k6 k7 k8 k9 k10 k11 k12 k13 : Rat} (h0 : Num 90000000 r0 x0) (h1 : Num 90000000 r1 x1) (h2 : Num 90000000 r2 x2) (h3 : Num 90000000 r3 x3) (h4 : Num 90000000 r4 x4) (h5 : Num 90000000 r5 x5) (h6 : Num 90000000 r6 x6) (h7 : Num 90000000 r7 x7) (h8 : Num 90000000 r8 x8) (h9 : Num 90000000 r9 x9) (h10 : Num 90000000 r10 x10) (h11 : Num 90000000 r11 x11) (e0 : k0 = (((x0 * ((x4 * x8) - (x5 * x7))) + (x1 * ((x5 * x6) - (x3 * x8)))) + (x2 * ((x3 * x7) - (x4 * x6))))) (e1 : k1 = (Z1 / k0)) (e2 : k2 = (k1 * ((x4 * x8) - (x5 * x7)))) (e3 : k3 = (k1 * ((x7 * x2) - (x8 * x1)))) (e4 : k4 = (k1 * ((x1 * x5) - (x2 * x4)))) (e5 : k5 = (k1 * ((x5 * x6) - (x3 * x8)))) (e6 : k6 = (k1 * ((x8 * x0) - (x6 * x2)))) (e7 : k7 = (k1 * ((x2 * x3) - (x0 * x5)))) (e8 : k8 = (k1 * ((x3 * x7) - (x4 * x6)))) (e9 : k9 = (k1 * ((x6 * x1) - (x7 * x0)))) (e10 : k10 = (k1 * ((x0 * x4) - (x1 * x3)))) (e11 : k11 = (Zm1 * (((k2 * x9) + (k3 * x10)) + (k4 * x11)))) (e12 : k12 = (Zm1 * (((k5 * x9) + (k6 * x10)) + (k7 * x11)))) (e13 : k13 = (Zm1 * (((k8 * x9) + (k9 * x10)) + (k10 * x11)))) (c0 : ¬k0 = Z0) : PureCalls prog F.affine_Inverse [.agg ([.bool r0.neg, nl r0.num, nl r0.den, .bool r1.neg, nl r1.num, nl r1.den, .bool r2.neg, nl r2.num, nl r2.den, .bool r3.neg, nl r3.num, nl r3.den, .bool r4.neg, nl r4.num, nl r4.den, .bool r5.neg, nl r5.num, nl r5.den, .bool r6.neg, nl r6.num, nl r6.den, .bool r7.neg, nl r7.num, nl r7.den, .bool r8.neg, nl r8.num, nl r8.den, .bool r9.neg, nl r9.num, nl r9.den, .bool r10.neg, nl r10.num, nl r10.den, .bool r11.neg, nl r11.num, nl r11.den])] [.agg ([.bool (decide ((k2).num < 0)), nn (k2).num.natAbs, nn (k2).den, .bool (decide ((k3).num < 0)), nn (k3).num.natAbs, nn (k3).den, .bool (decide ((k4).num < 0)), nn (k4).num.natAbs, nn (k4).den, .bool (decide ((k5).num < 0)), nn (k5).num.natAbs, nn (k5).den, .bool (decide ((k6).num < 0)), nn (k6).num.natAbs, nn (k6).den, .bool (decide ((k7).num < 0)), nn (k7).num.natAbs, nn (k7).den, .bool (decide ((k8).num < 0)), nn (k8).num.natAbs, nn (k8).den, .bool (decide ((k9).num < 0)), nn (k9).num.natAbs, nn (k9).den, .bool (decide ((k10).num < 0)), nn (k10).num.natAbs, nn (k10).den, .bool (decide ((k11).num < 0)), nn (k11).num.natAbs, nn (k11).den, .bool (decide ((k12).num < 0)), nn (k12).num.natAbs, nn (k12).den, .bool (decide ((k13).num < 0)), nn (k13).num.natAbs, nn (k13).den]), .one (.bool true)] := by
  subst e0 e1 e2 e3 e4 e5 e6 e7 e8 e9 e10 e11 e12 e13
  refine symFunc_sound hmix tree_affine_Inverse (by kernel_rfl) rfl ?_
  unfold ir_affine_Inverse
  simp only [fa_agg, fa_one, fa_nil, List.cons_append, List.nil_append, List.append_nil]
  refine call_step (n_rat_Of (1) (1) (by decide) (by decide) (by decide) (by decide) (Y1.trans (by decide +kernel))) rfl ?_
  simp only [fa_agg, fa_one, fa_nil, List.cons_append, List.nil_append, List.append_nil]
  refine call_step (n_affine_Det_0 (k0 := (((x0 * ((x4 * x8) - (x5 * x7))) + (x1 * ((x5 * x6) - (x3 * x8)))) + (x2 * ((x3 * x7) - (x4 * x6))))) (h0.mono (by decide)) (h1.mono (by decide)) (h2.mono (by decide)) (h3.mono (by decide)) (h4.mono (by decide)) (h5.mono (by decide)) (h6.mono (by decide)) (h7.mono (by decide)) (h8.mono (by decide)) (h9.mono (by decide)) (h10.mono (by decide)) (h11.mono (by decide)) rfl) rfl ?_
  simp only [fa_agg, fa_one, fa_nil, List.cons_append, List.nil_append, List.append_nil]
  have m69 : Num 1 (cr Z1) Z1 := Num.c Y1 (by decide +kernel) (by decide +kernel)
  have m70 : Num 1350000005 (cr (((x0 * ((x4 * x8) - (x5 * x7))) + (x1 * ((x5 * x6) - (x3 * x8)))) + (x2 * ((x3 * x7) - (x4 * x6))))) (((x0 * ((x4 * x8) - (x5 * x7))) + (x1 * ((x5 * x6) - (x3 * x8)))) + (x2 * ((x3 * x7) - (x4 * x6)))) := Num.of (Sm.add (Sm.add (Sm.mul h0.sm (Sm.sub (Sm.mul h4.sm h8.sm) (Sm.mul h5.sm h7.sm))) (Sm.mul h1.sm (Sm.sub (Sm.mul h5.sm h6.sm) (Sm.mul h3.sm h8.sm)))) (Sm.mul h2.sm (Sm.sub (Sm.mul h3.sm h7.sm) (Sm.mul h4.sm h6.sm))))
  refine call_step (n_rat_Div_f (k0 := (Z1 / (((x0 * ((x4 * x8) - (x5 * x7))) + (x1 * ((x5 * x6) - (x3 * x8)))) + (x2 * ((x3 * x7) - (x4 * x6)))))) Y0 (m69.mono (by decide)) (m70.mono (by decide)) rfl c0) rfl ?_
  simp only [fa_agg, fa_one, fa_nil, List.cons_append, List.nil_append, List.append_nil]
  refine primS (.bool false) rfl ?_
  refine itF rfl ?_
  refine call_step (n_affine_cofactors_0 (k0 := ((x4 * x8) - (x5 * x7))) (k1 := ((x5 * x6) - (x3 * x8))) (k2 := ((x3 * x7) - (x4 * x6))) (k3 := ((x7 * x2) - (x8 * x1))) (k4 := ((x8 * x0) - (x6 * x2))) (k5 := ((x6 * x1) - (x7 * x0))) (k6 := ((x1 * x5) - (x2 * x4))) (k7 := ((x2 * x3) - (x0 * x5))) (k8 := ((x0 * x4) - (x1 * x3))) (h0.mono (by decide)) (h1.mono (by decide)) (h2.mono (by decide)) (h3.mono (by decide)) (h4.mono (by decide)) (h5.mono (by decide)) (h6.mono (by decide)) (h7.mono (by decide)) (h8.mono (by decide)) (h9.mono (by decide)) (h10.mono (by decide)) (h11.mono (by decide)) rfl rfl rfl rfl rfl rfl rfl rfl rfl) rfl ?_
  simp only [fa_agg, fa_one, fa_nil, List.cons_append, List.nil_append, List.append_nil]
  have m71 : Num 1350000006 (cr (Z1 / (((x0 * ((x4 * x8) - (x5 * x7))) + (x1 * ((x5 * x6) - (x3 * x8)))) + (x2 * ((x3 * x7) - (x4 * x6)))))) (Z1 / (((x0 * ((x4 * x8) - (x5 * x7))) + (x1 * ((x5 * x6) - (x3 * x8)))) + (x2 * ((x3 * x7) - (x4 * x6))))) := Num.of (Sm.div m69.sm m70.sm)
  have m72 : Num 360000001 (cr ((x4 * x8) - (x5 * x7))) ((x4 * x8) - (x5 * x7)) := Num.of (Sm.sub (Sm.mul h4.sm h8.sm) (Sm.mul h5.sm h7.sm))
  have m73 : Num 360000001 (cr ((x5 * x6) - (x3 * x8))) ((x5 * x6) - (x3 * x8)) := Num.of (Sm.sub (Sm.mul h5.sm h6.sm) (Sm.mul h3.sm h8.sm))
  have m74 : Num 360000001 (cr ((x3 * x7) - (x4 * x6))) ((x3 * x7) - (x4 * x6)) := Num.of (Sm.sub (Sm.mul h3.sm h7.sm) (Sm.mul h4.sm h6.sm))
  refine call_step (n_vec_Scale_0 (k0 := ((Z1 / (((x0 * ((x4 * x8) - (x5 * x7))) + (x1 * ((x5 * x6) - (x3 * x8)))) + (x2 * ((x3 * x7) - (x4 * x6))))) * ((x4 * x8) - (x5 * x7)))) (k1 := ((Z1 / (((x0 * ((x4 * x8) - (x5 * x7))) + (x1 * ((x5 * x6) - (x3 * x8)))) + (x2 * ((x3 * x7) - (x4 * x6))))) * ((x5 * x6) - (x3 * x8)))) (k2 := ((Z1 / (((x0 * ((x4 * x8) - (x5 * x7))) + (x1 * ((x5 * x6) - (x3 * x8)))) + (x2 * ((x3 * x7) - (x4 * x6))))) * ((x3 * x7) - (x4 * x6)))) (m71.mono (by decide)) (m72.mono (by decide)) (m73.mono (by decide)) (m74.mono (by decide)) rfl rfl rfl) rfl ?_
  simp only [fa_agg, fa_one, fa_nil, List.cons_append, List.nil_append, List.append_nil]
  have m75 : Num 360000001 (cr ((x7 * x2) - (x8 * x1))) ((x7 * x2) - (x8 * x1)) := Num.of (Sm.sub (Sm.mul h7.sm h2.sm) (Sm.mul h8.sm h1.sm))
  have m76 : Num 360000001 (cr ((x8 * x0) - (x6 * x2))) ((x8 * x0) - (x6 * x2)) := Num.of (Sm.sub (Sm.mul h8.sm h0.sm) (Sm.mul h6.sm h2.sm))
  have m77 : Num 360000001 (cr ((x6 * x1) - (x7 * x0))) ((x6 * x1) - (x7 * x0)) := Num.of (Sm.sub (Sm.mul h6.sm h1.sm) (Sm.mul h7.sm h0.sm))
  refine call_step (n_vec_Scale_0 (k0 := ((Z1 / (((x0 * ((x4 * x8) - (x5 * x7))) + (x1 * ((x5 * x6) - (x3 * x8)))) + (x2 * ((x3 * x7) - (x4 * x6))))) * ((x7 * x2) - (x8 * x1)))) (k1 := ((Z1 / (((x0 * ((x4 * x8) - (x5 * x7))) + (x1 * ((x5 * x6) - (x3 * x8)))) + (x2 * ((x3 * x7) - (x4 * x6))))) * ((x8 * x0) - (x6 * x2)))) (k2 := ((Z1 / (((x0 * ((x4 * x8) - (x5 * x7))) + (x1 * ((x5 * x6) - (x3 * x8)))) + (x2 * ((x3 * x7) - (x4 * x6))))) * ((x6 * x1) - (x7 * x0)))) (m71.mono (by decide)) (m75.mono (by decide)) (m76.mono (by decide)) (m77.mono (by decide)) rfl rfl rfl) rfl ?_
  simp only [fa_agg, fa_one, fa_nil, List.cons_append, List.nil_append, List.append_nil]
  have m78 : Num 360000001 (cr ((x1 * x5) - (x2 * x4))) ((x1 * x5) - (x2 * x4)) := Num.of (Sm.sub (Sm.mul h1.sm h5.sm) (Sm.mul h2.sm h4.sm))
  have m79 : Num 360000001 (cr ((x2 * x3) - (x0 * x5))) ((x2 * x3) - (x0 * x5)) := Num.of (Sm.sub (Sm.mul h2.sm h3.sm) (Sm.mul h0.sm h5.sm))
  have m80 : Num 360000001 (cr ((x0 * x4) - (x1 * x3))) ((x0 * x4) - (x1 * x3)) := Num.of (Sm.sub (Sm.mul h0.sm h4.sm) (Sm.mul h1.sm h3.sm))
  refine call_step (n_vec_Scale_0 (k0 := ((Z1 / (((x0 * ((x4 * x8) - (x5 * x7))) + (x1 * ((x5 * x6) - (x3 * x8)))) + (x2 * ((x3 * x7) - (x4 * x6))))) * ((x1 * x5) - (x2 * x4)))) (k1 := ((Z1 / (((x0 * ((x4 * x8) - (x5 * x7))) + (x1 * ((x5 * x6) - (x3 * x8)))) + (x2 * ((x3 * x7) - (x4 * x6))))) * ((x2 * x3) - (x0 * x5)))) (k2 := ((Z1 / (((x0 * ((x4 * x8) - (x5 * x7))) + (x1 * ((x5 * x6) - (x3 * x8)))) + (x2 * ((x3 * x7) - (x4 * x6))))) * ((x0 * x4) - (x1 * x3)))) (m71.mono (by decide)) (m78.mono (by decide)) (m79.mono (by decide)) (m80.mono (by decide)) rfl rfl rfl) rfl ?_
  simp only [fa_agg, fa_one, fa_nil, List.cons_append, List.nil_append, List.append_nil]
  refine call_step (n_rat_Of (-1) (1) (by decide) (by decide) (by decide) (by decide) (Ym1.trans (by decide +kernel))) rfl ?_
  simp only [fa_agg, fa_one, fa_nil, List.cons_append, List.nil_append, List.append_nil]
  have m81 : Num 1710000007 (cr ((Z1 / (((x0 * ((x4 * x8) - (x5 * x7))) + (x1 * ((x5 * x6) - (x3 * x8)))) + (x2 * ((x3 * x7) - (x4 * x6))))) * ((x4 * x8) - (x5 * x7)))) ((Z1 / (((x0 * ((x4 * x8) - (x5 * x7))) + (x1 * ((x5 * x6) - (x3 * x8)))) + (x2 * ((x3 * x7) - (x4 * x6))))) * ((x4 * x8) - (x5 * x7))) := Num.of (Sm.mul m71.sm m72.sm)
  have m82 : Num 1710000007 (cr ((Z1 / (((x0 * ((x4 * x8) - (x5 * x7))) + (x1 * ((x5 * x6) - (x3 * x8)))) + (x2 * ((x3 * x7) - (x4 * x6))))) * ((x7 * x2) - (x8 * x1)))) ((Z1 / (((x0 * ((x4 * x8) - (x5 * x7))) + (x1 * ((x5 * x6) - (x3 * x8)))) + (x2 * ((x3 * x7) - (x4 * x6))))) * ((x7 * x2) - (x8 * x1))) := Num.of (Sm.mul m71.sm m75.sm)
  have m83 : Num 1710000007 (cr ((Z1 / (((x0 * ((x4 * x8) - (x5 * x7))) + (x1 * ((x5 * x6) - (x3 * x8)))) + (x2 * ((x3 * x7) - (x4 * x6))))) * ((x1 * x5) - (x2 * x4)))) ((Z1 / (((x0 * ((x4 * x8) - (x5 * x7))) + (x1 * ((x5 * x6) - (x3 * x8)))) + (x2 * ((x3 * x7) - (x4 * x6))))) * ((x1 * x5) - (x2 * x4))) := Num.of (Sm.mul m71.sm m78.sm)
  have m84 : Num 1710000007 (cr ((Z1 / (((x0 * ((x4 * x8) - (x5 * x7))) + (x1 * ((x5 * x6) - (x3 * x8)))) + (x2 * ((x3 * x7) - (x4 * x6))))) * ((x5 * x6) - (x3 * x8)))) ((Z1 / (((x0 * ((x4 * x8) - (x5 * x7))) + (x1 * ((x5 * x6) - (x3 * x8)))) + (x2 * ((x3 * x7) - (x4 * x6))))) * ((x5 * x6) - (x3 * x8))) := Num.of (Sm.mul m71.sm m73.sm)
  have m85 : Num 1710000007 (cr ((Z1 / (((x0 * ((x4 * x8) - (x5 * x7))) + (x1 * ((x5 * x6) - (x3 * x8)))) + (x2 * ((x3 * x7) - (x4 * x6))))) * ((x8 * x0) - (x6 * x2)))) ((Z1 / (((x0 * ((x4 * x8) - (x5 * x7))) + (x1 * ((x5 * x6) - (x3 * x8)))) + (x2 * ((x3 * x7) - (x4 * x6))))) * ((x8 * x0) - (x6 * x2))) := Num.of (Sm.mul m71.sm m76.sm)
  have m86 : Num 1710000007 (cr ((Z1 / (((x0 * ((x4 * x8) - (x5 * x7))) + (x1 * ((x5 * x6) - (x3 * x8)))) + (x2 * ((x3 * x7) - (x4 * x6))))) * ((x2 * x3) - (x0 * x5)))) ((Z1 / (((x0 * ((x4 * x8) - (x5 * x7))) + (x1 * ((x5 * x6) - (x3 * x8)))) + (x2 * ((x3 * x7) - (x4 * x6))))) * ((x2 * x3) - (x0 * x5))) := Num.of (Sm.mul m71.sm m79.sm)
  have m87 : Num 1710000007 (cr ((Z1 / (((x0 * ((x4 * x8) - (x5 * x7))) + (x1 * ((x5 * x6) - (x3 * x8)))) + (x2 * ((x3 * x7) - (x4 * x6))))) * ((x3 * x7) - (x4 * x6)))) ((Z1 / (((x0 * ((x4 * x8) - (x5 * x7))) + (x1 * ((x5 * x6) - (x3 * x8)))) + (x2 * ((x3 * x7) - (x4 * x6))))) * ((x3 * x7) - (x4 * x6))) := Num.of (Sm.mul m71.sm m74.sm)
  have m88 : Num 1710000007 (cr ((Z1 / (((x0 * ((x4 * x8) - (x5 * x7))) + (x1 * ((x5 * x6) - (x3 * x8)))) + (x2 * ((x3 * x7) - (x4 * x6))))) * ((x6 * x1) - (x7 * x0)))) ((Z1 / (((x0 * ((x4 * x8) - (x5 * x7))) + (x1 * ((x5 * x6) - (x3 * x8)))) + (x2 * ((x3 * x7) - (x4 * x6))))) * ((x6 * x1) - (x7 * x0))) := Num.of (Sm.mul m71.sm m77.sm)
  have m89 : Num 1710000007 (cr ((Z1 / (((x0 * ((x4 * x8) - (x5 * x7))) + (x1 * ((x5 * x6) - (x3 * x8)))) + (x2 * ((x3 * x7) - (x4 * x6))))) * ((x0 * x4) - (x1 * x3)))) ((Z1 / (((x0 * ((x4 * x8) - (x5 * x7))) + (x1 * ((x5 * x6) - (x3 * x8)))) + (x2 * ((x3 * x7) - (x4 * x6))))) * ((x0 * x4) - (x1 * x3))) := Num.of (Sm.mul m71.sm m80.sm)
  have m90 : Num 1 rz Z0 := Num.zz Y0
  refine call_step (n_affine_Turn_0 (k0 := (((((Z1 / (((x0 * ((x4 * x8) - (x5 * x7))) + (x1 * ((x5 * x6) - (x3 * x8)))) + (x2 * ((x3 * x7) - (x4 * x6))))) * ((x4 * x8) - (x5 * x7))) * x9) + (((Z1 / (((x0 * ((x4 * x8) - (x5 * x7))) + (x1 * ((x5 * x6) - (x3 * x8)))) + (x2 * ((x3 * x7) - (x4 * x6))))) * ((x7 * x2) - (x8 * x1))) * x10)) + (((Z1 / (((x0 * ((x4 * x8) - (x5 * x7))) + (x1 * ((x5 * x6) - (x3 * x8)))) + (x2 * ((x3 * x7) - (x4 * x6))))) * ((x1 * x5) - (x2 * x4))) * x11))) (k1 := (((((Z1 / (((x0 * ((x4 * x8) - (x5 * x7))) + (x1 * ((x5 * x6) - (x3 * x8)))) + (x2 * ((x3 * x7) - (x4 * x6))))) * ((x5 * x6) - (x3 * x8))) * x9) + (((Z1 / (((x0 * ((x4 * x8) - (x5 * x7))) + (x1 * ((x5 * x6) - (x3 * x8)))) + (x2 * ((x3 * x7) - (x4 * x6))))) * ((x8 * x0) - (x6 * x2))) * x10)) + (((Z1 / (((x0 * ((x4 * x8) - (x5 * x7))) + (x1 * ((x5 * x6) - (x3 * x8)))) + (x2 * ((x3 * x7) - (x4 * x6))))) * ((x2 * x3) - (x0 * x5))) * x11))) (k2 := (((((Z1 / (((x0 * ((x4 * x8) - (x5 * x7))) + (x1 * ((x5 * x6) - (x3 * x8)))) + (x2 * ((x3 * x7) - (x4 * x6))))) * ((x3 * x7) - (x4 * x6))) * x9) + (((Z1 / (((x0 * ((x4 * x8) - (x5 * x7))) + (x1 * ((x5 * x6) - (x3 * x8)))) + (x2 * ((x3 * x7) - (x4 * x6))))) * ((x6 * x1) - (x7 * x0))) * x10)) + (((Z1 / (((x0 * ((x4 * x8) - (x5 * x7))) + (x1 * ((x5 * x6) - (x3 * x8)))) + (x2 * ((x3 * x7) - (x4 * x6))))) * ((x0 * x4) - (x1 * x3))) * x11))) (m81.mono (by decide)) (m82.mono (by decide)) (m83.mono (by decide)) (m84.mono (by decide)) (m85.mono (by decide)) (m86.mono (by decide)) (m87.mono (by decide)) (m88.mono (by decide)) (m89.mono (by decide)) (m90.mono (by decide)) (m90.mono (by decide)) (m90.mono (by decide)) (h9.mono (by decide)) (h10.mono (by decide)) (h11.mono (by decide)) rfl rfl rfl) rfl ?_
  simp only [fa_agg, fa_one, fa_nil, List.cons_append, List.nil_append, List.append_nil]
  have m91 : Num 1 (cr Zm1) Zm1 := Num.c Ym1 (by decide +kernel) (by decide +kernel)
  have m92 : Num 5400000023 (cr (((((Z1 / (((x0 * ((x4 * x8) - (x5 * x7))) + (x1 * ((x5 * x6) - (x3 * x8)))) + (x2 * ((x3 * x7) - (x4 * x6))))) * ((x4 * x8) - (x5 * x7))) * x9) + (((Z1 / (((x0 * ((x4 * x8) - (x5 * x7))) + (x1 * ((x5 * x6) - (x3 * x8)))) + (x2 * ((x3 * x7) - (x4 * x6))))) * ((x7 * x2) - (x8 * x1))) * x10)) + (((Z1 / (((x0 * ((x4 * x8) - (x5 * x7))) + (x1 * ((x5 * x6) - (x3 * x8)))) + (x2 * ((x3 * x7) - (x4 * x6))))) * ((x1 * x5) - (x2 * x4))) * x11))) (((((Z1 / (((x0 * ((x4 * x8) - (x5 * x7))) + (x1 * ((x5 * x6) - (x3 * x8)))) + (x2 * ((x3 * x7) - (x4 * x6))))) * ((x4 * x8) - (x5 * x7))) * x9) + (((Z1 / (((x0 * ((x4 * x8) - (x5 * x7))) + (x1 * ((x5 * x6) - (x3 * x8)))) + (x2 * ((x3 * x7) - (x4 * x6))))) * ((x7 * x2) - (x8 * x1))) * x10)) + (((Z1 / (((x0 * ((x4 * x8) - (x5 * x7))) + (x1 * ((x5 * x6) - (x3 * x8)))) + (x2 * ((x3 * x7) - (x4 * x6))))) * ((x1 * x5) - (x2 * x4))) * x11)) := Num.of (Sm.add (Sm.add (Sm.mul m81.sm h9.sm) (Sm.mul m82.sm h10.sm)) (Sm.mul m83.sm h11.sm))
  have m93 : Num 5400000023 (cr (((((Z1 / (((x0 * ((x4 * x8) - (x5 * x7))) + (x1 * ((x5 * x6) - (x3 * x8)))) + (x2 * ((x3 * x7) - (x4 * x6))))) * ((x5 * x6) - (x3 * x8))) * x9) + (((Z1 / (((x0 * ((x4 * x8) - (x5 * x7))) + (x1 * ((x5 * x6) - (x3 * x8)))) + (x2 * ((x3 * x7) - (x4 * x6))))) * ((x8 * x0) - (x6 * x2))) * x10)) + (((Z1 / (((x0 * ((x4 * x8) - (x5 * x7))) + (x1 * ((x5 * x6) - (x3 * x8)))) + (x2 * ((x3 * x7) - (x4 * x6))))) * ((x2 * x3) - (x0 * x5))) * x11))) (((((Z1 / (((x0 * ((x4 * x8) - (x5 * x7))) + (x1 * ((x5 * x6) - (x3 * x8)))) + (x2 * ((x3 * x7) - (x4 * x6))))) * ((x5 * x6) - (x3 * x8))) * x9) + (((Z1 / (((x0 * ((x4 * x8) - (x5 * x7))) + (x1 * ((x5 * x6) - (x3 * x8)))) + (x2 * ((x3 * x7) - (x4 * x6))))) * ((x8 * x0) - (x6 * x2))) * x10)) + (((Z1 / (((x0 * ((x4 * x8) - (x5 * x7))) + (x1 * ((x5 * x6) - (x3 * x8)))) + (x2 * ((x3 * x7) - (x4 * x6))))) * ((x2 * x3) - (x0 * x5))) * x11)) := Num.of (Sm.add (Sm.add (Sm.mul m84.sm h9.sm) (Sm.mul m85.sm h10.sm)) (Sm.mul m86.sm h11.sm))
  have m94 : Num 5400000023 (cr (((((Z1 / (((x0 * ((x4 * x8) - (x5 * x7))) + (x1 * ((x5 * x6) - (x3 * x8)))) + (x2 * ((x3 * x7) - (x4 * x6))))) * ((x3 * x7) - (x4 * x6))) * x9) + (((Z1 / (((x0 * ((x4 * x8) - (x5 * x7))) + (x1 * ((x5 * x6) - (x3 * x8)))) + (x2 * ((x3 * x7) - (x4 * x6))))) * ((x6 * x1) - (x7 * x0))) * x10)) + (((Z1 / (((x0 * ((x4 * x8) - (x5 * x7))) + (x1 * ((x5 * x6) - (x3 * x8)))) + (x2 * ((x3 * x7) - (x4 * x6))))) * ((x0 * x4) - (x1 * x3))) * x11))) (((((Z1 / (((x0 * ((x4 * x8) - (x5 * x7))) + (x1 * ((x5 * x6) - (x3 * x8)))) + (x2 * ((x3 * x7) - (x4 * x6))))) * ((x3 * x7) - (x4 * x6))) * x9) + (((Z1 / (((x0 * ((x4 * x8) - (x5 * x7))) + (x1 * ((x5 * x6) - (x3 * x8)))) + (x2 * ((x3 * x7) - (x4 * x6))))) * ((x6 * x1) - (x7 * x0))) * x10)) + (((Z1 / (((x0 * ((x4 * x8) - (x5 * x7))) + (x1 * ((x5 * x6) - (x3 * x8)))) + (x2 * ((x3 * x7) - (x4 * x6))))) * ((x0 * x4) - (x1 * x3))) * x11)) := Num.of (Sm.add (Sm.add (Sm.mul m87.sm h9.sm) (Sm.mul m88.sm h10.sm)) (Sm.mul m89.sm h11.sm))
  refine call_step (n_vec_Scale_0 (k0 := (Zm1 * (((((Z1 / (((x0 * ((x4 * x8) - (x5 * x7))) + (x1 * ((x5 * x6) - (x3 * x8)))) + (x2 * ((x3 * x7) - (x4 * x6))))) * ((x4 * x8) - (x5 * x7))) * x9) + (((Z1 / (((x0 * ((x4 * x8) - (x5 * x7))) + (x1 * ((x5 * x6) - (x3 * x8)))) + (x2 * ((x3 * x7) - (x4 * x6))))) * ((x7 * x2) - (x8 * x1))) * x10)) + (((Z1 / (((x0 * ((x4 * x8) - (x5 * x7))) + (x1 * ((x5 * x6) - (x3 * x8)))) + (x2 * ((x3 * x7) - (x4 * x6))))) * ((x1 * x5) - (x2 * x4))) * x11)))) (k1 := (Zm1 * (((((Z1 / (((x0 * ((x4 * x8) - (x5 * x7))) + (x1 * ((x5 * x6) - (x3 * x8)))) + (x2 * ((x3 * x7) - (x4 * x6))))) * ((x5 * x6) - (x3 * x8))) * x9) + (((Z1 / (((x0 * ((x4 * x8) - (x5 * x7))) + (x1 * ((x5 * x6) - (x3 * x8)))) + (x2 * ((x3 * x7) - (x4 * x6))))) * ((x8 * x0) - (x6 * x2))) * x10)) + (((Z1 / (((x0 * ((x4 * x8) - (x5 * x7))) + (x1 * ((x5 * x6) - (x3 * x8)))) + (x2 * ((x3 * x7) - (x4 * x6))))) * ((x2 * x3) - (x0 * x5))) * x11)))) (k2 := (Zm1 * (((((Z1 / (((x0 * ((x4 * x8) - (x5 * x7))) + (x1 * ((x5 * x6) - (x3 * x8)))) + (x2 * ((x3 * x7) - (x4 * x6))))) * ((x3 * x7) - (x4 * x6))) * x9) + (((Z1 / (((x0 * ((x4 * x8) - (x5 * x7))) + (x1 * ((x5 * x6) - (x3 * x8)))) + (x2 * ((x3 * x7) - (x4 * x6))))) * ((x6 * x1) - (x7 * x0))) * x10)) + (((Z1 / (((x0 * ((x4 * x8) - (x5 * x7))) + (x1 * ((x5 * x6) - (x3 * x8)))) + (x2 * ((x3 * x7) - (x4 * x6))))) * ((x0 * x4) - (x1 * x3))) * x11)))) (m91.mono (by decide)) (m92.mono (by decide)) (m93.mono (by decide)) (m94.mono (by decide)) rfl rfl rfl) rfl ?_
  simp only [fa_agg, fa_one, fa_nil, List.cons_append, List.nil_append, List.append_nil]
  exact ret_step rfl

theorem n_penumbraref05_Cross_0  {r0 r1 r2 r3 r4 r5 : RR} {x0 x1 x2 x3 x4 x5 : Rat} {k0 k1 k2 : Rat} (h0 : Num 9000000000 r0 x0) (h1 : Num 9000000000 r1 x1) (h2 : Num 9000000000 r2 x2) (h3 : Num 9000000000 r3 x3) (h4 : Num 9000000000 r4 x4) (h5 : Num 9000000000 r5 x5) (e0 : k0 = ((x1 * x5) - (x2 * x4))) (e1 : k1 = ((x2 * x3) - (x0 * x5))) (e2 : k2 = ((x0 * x4) - (x1 * x3)))  : PureCalls prog F.penumbraref05_Cross [.agg ([.bool r0.neg, nl r0.num, nl r0.den, .bool r1.neg, nl r1.num, nl r1.den, .bool r2.neg, nl r2.num, nl r2.den]), .agg ([.bool r3.neg, nl r3.num, nl r3.den, .bool r4.neg, nl r4.num, nl r4.den, .bool r5.neg, nl r5.num, nl r5.den])] [.agg ([.bool (decide ((k0).num < 0)), nn (k0).num.natAbs, nn (k0).den, .bool (decide ((k1).num < 0)), nn (k1).num.natAbs, nn (k1).den, .bool (decide ((k2).num < 0)), nn (k2).num.natAbs, nn (k2).den])] := by
  subst e0 e1 e2
  refine symFunc_sound hmix tree_penumbraref05_Cross (by kernel_rfl) rfl ?_
  unfold ir_penumbraref05_Cross
  simp only [fa_agg, fa_one, fa_nil, List.cons_append, List.nil_append, List.append_nil]
  refine call_step (n_penumbraref03_Mul (k0 := (x1 * x5)) (h1.mono (by decide)) (h5.mono (by decide)) rfl) rfl ?_
  simp only [fa_agg, fa_one, fa_nil, List.cons_append, List.nil_append, List.append_nil]
  refine call_step (n_penumbraref03_Mul (k0 := (x2 * x4)) (h2.mono (by decide)) (h4.mono (by decide)) rfl) rfl ?_
  simp only [fa_agg, fa_one, fa_nil, List.cons_append, List.nil_append, List.append_nil]
  have m101 : Num 18000000000 (cr (x1 * x5)) (x1 * x5) := Num.of (Sm.mul h1.sm h5.sm)
  have m102 : Num 18000000000 (cr (x2 * x4)) (x2 * x4) := Num.of (Sm.mul h2.sm h4.sm)
  refine call_step (n_penumbraref03_Sub (k0 := ((x1 * x5) - (x2 * x4))) (m101.mono (by decide)) (m102.mono (by decide)) rfl) rfl ?_
  simp only [fa_agg, fa_one, fa_nil, List.cons_append, List.nil_append, List.append_nil]
  refine call_step (n_penumbraref03_Mul (k0 := (x2 * x3)) (h2.mono (by decide)) (h3.mono (by decide)) rfl) rfl ?_
  simp only [fa_agg, fa_one, fa_nil, List.cons_append, List.nil_append, List.append_nil]
  refine call_step (n_penumbraref03_Mul (k0 := (x0 * x5)) (h0.mono (by decide)) (h5.mono (by decide)) rfl) rfl ?_
  simp only [fa_agg, fa_one, fa_nil, List.cons_append, List.nil_append, List.append_nil]
  have m103 : Num 18000000000 (cr (x2 * x3)) (x2 * x3) := Num.of (Sm.mul h2.sm h3.sm)
  have m104 : Num 18000000000 (cr (x0 * x5)) (x0 * x5) := Num.of (Sm.mul h0.sm h5.sm)
  refine call_step (n_penumbraref03_Sub (k0 := ((x2 * x3) - (x0 * x5))) (m103.mono (by decide)) (m104.mono (by decide)) rfl) rfl ?_
  simp only [fa_agg, fa_one, fa_nil, List.cons_append, List.nil_append, List.append_nil]
  refine call_step (n_penumbraref03_Mul (k0 := (x0 * x4)) (h0.mono (by decide)) (h4.mono (by decide)) rfl) rfl ?_
  simp only [fa_agg, fa_one, fa_nil, List.cons_append, List.nil_append, List.append_nil]
  refine call_step (n_penumbraref03_Mul (k0 := (x1 * x3)) (h1.mono (by decide)) (h3.mono (by decide)) rfl) rfl ?_
  simp only [fa_agg, fa_one, fa_nil, List.cons_append, List.nil_append, List.append_nil]
  have m105 : Num 18000000000 (cr (x0 * x4)) (x0 * x4) := Num.of (Sm.mul h0.sm h4.sm)
  have m106 : Num 18000000000 (cr (x1 * x3)) (x1 * x3) := Num.of (Sm.mul h1.sm h3.sm)
  refine call_step (n_penumbraref03_Sub (k0 := ((x0 * x4) - (x1 * x3))) (m105.mono (by decide)) (m106.mono (by decide)) rfl) rfl ?_
  simp only [fa_agg, fa_one, fa_nil, List.cons_append, List.nil_append, List.append_nil]
  exact ret_step rfl

theorem n_penumbraref05_Dot_0  {r0 r1 r2 r3 r4 r5 : RR} {x0 x1 x2 x3 x4 x5 : Rat} {k0 : Rat} (h0 : Num 9000000000 r0 x0) (h1 : Num 9000000000 r1 x1) (h2 : Num 9000000000 r2 x2) (h3 : Num 9000000000 r3 x3) (h4 : Num 9000000000 r4 x4) (h5 : Num 9000000000 r5 x5) (e0 : k0 = (((x0 * x3) + (x1 * x4)) + (x2 * x5)))  : PureCalls prog F.penumbraref05_Dot [.agg ([.bool r0.neg, nl r0.num, nl r0.den, .bool r1.neg, nl r1.num, nl r1.den, .bool r2.neg, nl r2.num, nl r2.den]), .agg ([.bool r3.neg, nl r3.num, nl r3.den, .bool r4.neg, nl r4.num, nl r4.den, .bool r5.neg, nl r5.num, nl r5.den])] [.agg ([.bool (decide ((k0).num < 0)), nn (k0).num.natAbs, nn (k0).den])] := by
  subst e0
  refine symFunc_sound hmix tree_penumbraref05_Dot (by kernel_rfl) rfl ?_
  unfold ir_penumbraref05_Dot
  simp only [fa_agg, fa_one, fa_nil, List.cons_append, List.nil_append, List.append_nil]
  refine call_step (n_penumbraref03_Mul (k0 := (x0 * x3)) (h0.mono (by decide)) (h3.mono (by decide)) rfl) rfl ?_
  simp only [fa_agg, fa_one, fa_nil, List.cons_append, List.nil_append, List.append_nil]
  refine call_step (n_penumbraref03_Mul (k0 := (x1 * x4)) (h1.mono (by decide)) (h4.mono (by decide)) rfl) rfl ?_
  simp only [fa_agg, fa_one, fa_nil, List.cons_append, List.nil_append, List.append_nil]
  have m111 : Num 18000000000 (cr (x0 * x3)) (x0 * x3) := Num.of (Sm.mul h0.sm h3.sm)
  have m112 : Num 18000000000 (cr (x1 * x4)) (x1 * x4) := Num.of (Sm.mul h1.sm h4.sm)
  refine call_step (n_penumbraref03_Add (k0 := ((x0 * x3) + (x1 * x4))) (m111.mono (by decide)) (m112.mono (by decide)) rfl) rfl ?_
  simp only [fa_agg, fa_one, fa_nil, List.cons_append, List.nil_append, List.append_nil]
  refine call_step (n_penumbraref03_Mul (k0 := (x2 * x5)) (h2.mono (by decide)) (h5.mono (by decide)) rfl) rfl ?_
  simp only [fa_agg, fa_one, fa_nil, List.cons_append, List.nil_append, List.append_nil]
  have m113 : Num 36000000001 (cr ((x0 * x3) + (x1 * x4))) ((x0 * x3) + (x1 * x4)) := Num.of (Sm.add m111.sm m112.sm)
  have m114 : Num 18000000000 (cr (x2 * x5)) (x2 * x5) := Num.of (Sm.mul h2.sm h5.sm)
  refine call_step (n_penumbraref03_Add (k0 := (((x0 * x3) + (x1 * x4)) + (x2 * x5))) (m113.mono (by decide)) (m114.mono (by decide)) rfl) rfl ?_
  simp only [fa_agg, fa_one, fa_nil, List.cons_append, List.nil_append, List.append_nil]
  exact ret_step rfl

theorem n_penumbraref07_Det_0  {r0 r1 r2 r3 r4 r5 r6 r7 r8 r9 r10 r11 : RR} {x0 x1 x2 x3 x4 x5 x6 x7 x8 x9 x10 x11 : Rat} {k0 : Rat} (h0 : Num 900000000 r0 x0) (h1 : Num 900000000 r1 x1) (h2 : Num 900000000 r2 x2) (h3 : Num 900000000 r3 x3) (h4 : Num 900000000 r4 x4) (h5 : Num 900000000 r5 x5) (h6 : Num 900000000 r6 x6) (h7 : Num 900000000 r7 x7) (h8 : Num 900000000 r8 x8) (h9 : Num 900000000 r9 x9) (h10 : Num 900000000 r10 x10) (h11 : Num 900000000 r11 x11) (e0 : k0 = (((x0 * ((x4 * x8) - (x5 * x7))) + (x1 * ((x5 * x6) - (x3 * x8)))) + (x2 * ((x3 * x7) - (x4 * x6)))))  : PureCalls prog F.penumbraref07_Det [.agg ([.bool r0.neg, nl r0.num, nl r0.den, .bool r1.neg, nl r1.num, nl r1.den, .bool r2.neg, nl r2.num, nl r2.den, .bool r3.neg, nl r3.num, nl r3.den, .bool r4.neg, nl r4.num, nl r4.den, .bool r5.neg, nl r5.num, nl r5.den, .bool r6.neg, nl r6.num, nl r6.den, .bool r7.neg, nl r7.num, nl r7.den, .bool r8.neg, nl r8.num, nl r8.den, .bool r9.neg, nl r9.num, nl r9.den, .bool r10.neg, nl r10.num, nl r10.den, .bool r11.neg, nl r11.num, nl r11.den])] [.agg ([.bool (decide ((k0).num < 0)), nn (k0).num.natAbs, nn (k0).den])] := by
  subst e0
  refine symFunc_sound hmix tree_penumbraref07_Det (by kernel_rfl) rfl ?_
  unfold ir_penumbraref07_Det
  simp only [fa_agg, fa_one, fa_nil, List.cons_append, List.nil_append, List.append_nil]
  refine call_step (n_penumbraref05_Cross_0 (k0 := ((x4 * x8) - (x5 * x7))) (k1 := ((x5 * x6) - (x3 * x8))) (k2 := ((x3 * x7) - (x4 * x6))) (h3.mono (by decide)) (h4.mono (by decide)) (h5.mono (by decide)) (h6.mono (by decide)) (h7.mono (by decide)) (h8.mono (by decide)) rfl rfl rfl) rfl ?_
  simp only [fa_agg, fa_one, fa_nil, List.cons_append, List.nil_append, List.append_nil]
  have m118 : Num 3600000001 (cr ((x4 * x8) - (x5 * x7))) ((x4 * x8) - (x5 * x7)) := Num.of (Sm.sub (Sm.mul h4.sm h8.sm) (Sm.mul h5.sm h7.sm))
  have m119 : Num 3600000001 (cr ((x5 * x6) - (x3 * x8))) ((x5 * x6) - (x3 * x8)) := Num.of (Sm.sub (Sm.mul h5.sm h6.sm) (Sm.mul h3.sm h8.sm))
  have m120 : Num 3600000001 (cr ((x3 * x7) - (x4 * x6))) ((x3 * x7) - (x4 * x6)) := Num.of (Sm.sub (Sm.mul h3.sm h7.sm) (Sm.mul h4.sm h6.sm))
  refine call_step (n_penumbraref05_Dot_0 (k0 := (((x0 * ((x4 * x8) - (x5 * x7))) + (x1 * ((x5 * x6) - (x3 * x8)))) + (x2 * ((x3 * x7) - (x4 * x6))))) (h0.mono (by decide)) (h1.mono (by decide)) (h2.mono (by decide)) (m118.mono (by decide)) (m119.mono (by decide)) (m120.mono (by decide)) rfl) rfl ?_
  simp only [fa_agg, fa_one, fa_nil, List.cons_append, List.nil_append, List.append_nil]
  exact ret_step rfl

theorem n_penumbraref05_Zero_0 {Z0 : Rat} (Y0 : Z0 = (0 : Rat))    : PureCalls prog F.penumbraref05_Zero [] [.agg ([.bool (decide ((Z0).num < 0)), nn (Z0).num.natAbs, nn (Z0).den, .bool (decide ((Z0).num < 0)), nn (Z0).num.natAbs, nn (Z0).den, .bool (decide ((Z0).num < 0)), nn (Z0).num.natAbs, nn (Z0).den])] := by
  refine symFunc_sound hmix tree_penumbraref05_Zero (by kernel_rfl) rfl ?_
  unfold ir_penumbraref05_Zero
  simp only [fa_agg, fa_one, fa_nil, List.cons_append, List.nil_append, List.append_nil]
  refine call_step (n_penumbraref03_Zero Y0) rfl ?_
  simp only [fa_agg, fa_one, fa_nil, List.cons_append, List.nil_append, List.append_nil]
  refine call_step (n_penumbraref03_Zero Y0) rfl ?_
  simp only [fa_agg, fa_one, fa_nil, List.cons_append, List.nil_append, List.append_nil]
  refine call_step (n_penumbraref03_Zero Y0) rfl ?_
  simp only [fa_agg, fa_one, fa_nil, List.cons_append, List.nil_append, List.append_nil]
  exact ret_step rfl

theorem n_penumbraref07_Identity_0 {Z0 Z1 : Rat} (Y0 : Z0 = (0 : Rat)) (Y1 : Z1 = (1 : Rat))    : PureCalls prog F.penumbraref07_Identity [] [.agg ([.bool (decide ((Z1).num < 0)), nn (Z1).num.natAbs, nn (Z1).den, .bool (decide ((Z0).num < 0)), nn (Z0).num.natAbs, nn (Z0).den, .bool (decide ((Z0).num < 0)), nn (Z0).num.natAbs, nn (Z0).den, .bool (decide ((Z0).num < 0)), nn (Z0).num.natAbs, nn (Z0).den, .bool (decide ((Z1).num < 0)), nn (Z1).num.natAbs, nn (Z1).den, .bool (decide ((Z0).num < 0)), nn (Z0).num.natAbs, nn (Z0).den, .bool (decide ((Z0).num < 0)), nn (Z0).num.natAbs, nn (Z0).den, .bool (decide ((Z0).num < 0)), nn (Z0).num.natAbs, nn (Z0).den, .bool (decide ((Z1).num < 0)), nn (Z1).num.natAbs, nn (Z1).den, .bool (decide ((Z0).num < 0)), nn (Z0).num.natAbs, nn (Z0).den, .bool (decide ((Z0).num < 0)), nn (Z0).num.natAbs, nn (Z0).den, .bool (decide ((Z0).num < 0)), nn (Z0).num.natAbs, nn (Z0).den])] := by
  refine symFunc_sound hmix tree_penumbraref07_Identity (by kernel_rfl) rfl ?_
  unfold ir_penumbraref07_Identity
  simp only [fa_agg, fa_one, fa_nil, List.cons_append, List.nil_append, List.append_nil]
  refine call_step (n_penumbraref05_Of (1) (0) (0) (by decide) (by decide) (by decide) (by decide) (by decide) (by decide) (Y1.trans (by decide +kernel)) (Y0.trans (by decide +kernel)) (Y0.trans (by decide +kernel))) rfl ?_
  simp only [fa_agg, fa_one, fa_nil, List.cons_append, List.nil_append, List.append_nil]
  refine call_step (n_penumbraref05_Of (0) (1) (0) (by decide) (by decide) (by decide) (by decide) (by decide) (by decide) (Y0.trans (by decide +kernel)) (Y1.trans (by decide +kernel)) (Y0.trans (by decide +kernel))) rfl ?_
  simp only [fa_agg, fa_one, fa_nil, List.cons_append, List.nil_append, List.append_nil]
  refine call_step (n_penumbraref05_Of (0) (0) (1) (by decide) (by decide) (by decide) (by decide) (by decide) (by decide) (Y0.trans (by decide +kernel)) (Y0.trans (by decide +kernel)) (Y1.trans (by decide +kernel))) rfl ?_
  simp only [fa_agg, fa_one, fa_nil, List.cons_append, List.nil_append, List.append_nil]
  refine call_step (n_penumbraref05_Zero_0 Y0) rfl ?_
  simp only [fa_agg, fa_one, fa_nil, List.cons_append, List.nil_append, List.append_nil]
  exact ret_step rfl

theorem n_penumbraref05_Sub_0  {r0 r1 r2 r3 r4 r5 : RR} {x0 x1 x2 x3 x4 x5 : Rat} {k0 k1 k2 : Rat} (h0 : Num 9000000000 r0 x0) (h1 : Num 9000000000 r1 x1) (h2 : Num 9000000000 r2 x2) (h3 : Num 9000000000 r3 x3) (h4 : Num 9000000000 r4 x4) (h5 : Num 9000000000 r5 x5) (e0 : k0 = (x0 - x3)) (e1 : k1 = (x1 - x4)) (e2 : k2 = (x2 - x5))  : PureCalls prog F.penumbraref05_Sub [.agg ([.bool r0.neg, nl r0.num, nl r0.den, .bool r1.neg, nl r1.num, nl r1.den, .bool r2.neg, nl r2.num, nl r2.den]), .agg ([.bool r3.neg, nl r3.num, nl r3.den, .bool r4.neg, nl r4.num, nl r4.den, .bool r5.neg, nl r5.num, nl r5.den])] [.agg ([.bool (decide ((k0).num < 0)), nn (k0).num.natAbs, nn (k0).den, .bool (decide ((k1).num < 0)), nn (k1).num.natAbs, nn (k1).den, .bool (decide ((k2).num < 0)), nn (k2).num.natAbs, nn (k2).den])] := by
  subst e0 e1 e2
  refine symFunc_sound hmix tree_penumbraref05_Sub (by kernel_rfl) rfl ?_
  unfold ir_penumbraref05_Sub
  simp only [fa_agg, fa_one, fa_nil, List.cons_append, List.nil_append, List.append_nil]
  refine call_step (n_penumbraref03_Sub (k0 := (x0 - x3)) (h0.mono (by decide)) (h3.mono (by decide)) rfl) rfl ?_
  simp only [fa_agg, fa_one, fa_nil, List.cons_append, List.nil_append, List.append_nil]
  refine call_step (n_penumbraref03_Sub (k0 := (x1 - x4)) (h1.mono (by decide)) (h4.mono (by decide)) rfl) rfl ?_
  simp only [fa_agg, fa_one, fa_nil, List.cons_append, List.nil_append, List.append_nil]
  refine call_step (n_penumbraref03_Sub (k0 := (x2 - x5)) (h2.mono (by decide)) (h5.mono (by decide)) rfl) rfl ?_
  simp only [fa_agg, fa_one, fa_nil, List.cons_append, List.nil_append, List.append_nil]
  exact ret_step rfl

theorem n_penumbraref05_Scale_0  {r0 r1 r2 r3 : RR} {x0 x1 x2 x3 : Rat} {k0 k1 k2 : Rat} (h0 : Num 9000000000 r0 x0) (h1 : Num 9000000000 r1 x1) (h2 : Num 9000000000 r2 x2) (h3 : Num 9000000000 r3 x3) (e0 : k0 = (x0 * x1)) (e1 : k1 = (x0 * x2)) (e2 : k2 = (x0 * x3))  : PureCalls prog F.penumbraref05_Scale [.agg ([.bool r0.neg, nl r0.num, nl r0.den]), .agg ([.bool r1.neg, nl r1.num, nl r1.den, .bool r2.neg, nl r2.num, nl r2.den, .bool r3.neg, nl r3.num, nl r3.den])] [.agg ([.bool (decide ((k0).num < 0)), nn (k0).num.natAbs, nn (k0).den, .bool (decide ((k1).num < 0)), nn (k1).num.natAbs, nn (k1).den, .bool (decide ((k2).num < 0)), nn (k2).num.natAbs, nn (k2).den])] := by
  subst e0 e1 e2
  refine symFunc_sound hmix tree_penumbraref05_Scale (by kernel_rfl) rfl ?_
  unfold ir_penumbraref05_Scale
  simp only [fa_agg, fa_one, fa_nil, List.cons_append, List.nil_append, List.append_nil]
  refine call_step (n_penumbraref03_Mul (k0 := (x0 * x1)) (h0.mono (by decide)) (h1.mono (by decide)) rfl) rfl ?_
  simp only [fa_agg, fa_one, fa_nil, List.cons_append, List.nil_append, List.append_nil]
  refine call_step (n_penumbraref03_Mul (k0 := (x0 * x2)) (h0.mono (by decide)) (h2.mono (by decide)) rfl) rfl ?_
  simp only [fa_agg, fa_one, fa_nil, List.cons_append, List.nil_append, List.append_nil]
  refine call_step (n_penumbraref03_Mul (k0 := (x0 * x3)) (h0.mono (by decide)) (h3.mono (by decide)) rfl) rfl ?_
  simp only [fa_agg, fa_one, fa_nil, List.cons_append, List.nil_append, List.append_nil]
  exact ret_step rfl

theorem n_penumbraref07_solve_0  {r0 r1 r2 r3 r4 r5 r6 r7 r8 r9 r10 r11 r12 r13 r14 r15 r16 : RR} {x0 x1 x2 x3 x4 x5 x6 x7 x8 x9 x10 x11 x12 x13 x14 x15 x16 : Rat} {k0 k1 k2 k3 : Rat} (h0 : Num 90000000 r0 x0) (h1 : Num 90000000 r1 x1) (h2 : Num 90000000 r2 x2) (h3 : Num 90000000 r3 x3) (h4 : Num 90000000 r4 x4) (h5 : Num 90000000 r5 x5) (h6 : Num 90000000 r6 x6) (h7 : Num 90000000 r7 x7) (h8 : Num 90000000 r8 x8) (h9 : Num 90000000 r9 x9) (h10 : Num 90000000 r10 x10) (h11 : Num 90000000 r11 x11) (h12 : Num 90000000 r12 x12) (h13 : Num 90000000 r13 x13) (h14 : Num 90000000 r14 x14) (h15 : Num 90000000 r15 x15) (h16 : Num 90000000 r16 x16) (e0 : k0 = (x12 / x13)) (e1 : k1 = (k0 * (((x14 * ((x4 * x8) - (x7 * x5))) + (x15 * ((x7 * x2) - (x1 * x8)))) + (x16 * ((x1 * x5) - (x4 * x2)))))) (e2 : k2 = (k0 * (((x0 * ((x15 * x8) - (x16 * x5))) + (x3 * ((x16 * x2) - (x14 * x8)))) + (x6 * ((x14 * x5) - (x15 * x2)))))) (e3 : k3 = (k0 * (((x0 * ((x4 * x16) - (x7 * x15))) + (x3 * ((x7 * x14) - (x1 * x16)))) + (x6 * ((x1 * x15) - (x4 * x14))))))  : PureCalls prog F.penumbraref07_solve [.agg ([.bool r0.neg, nl r0.num, nl r0.den, .bool r1.neg, nl r1.num, nl r1.den, .bool r2.neg, nl r2.num, nl r2.den, .bool r3.neg, nl r3.num, nl r3.den, .bool r4.neg, nl r4.num, nl r4.den, .bool r5.neg, nl r5.num, nl r5.den, .bool r6.neg, nl r6.num, nl r6.den, .bool r7.neg, nl r7.num, nl r7.den, .bool r8.neg, nl r8.num, nl r8.den, .bool r9.neg, nl r9.num, nl r9.den, .bool r10.neg, nl r10.num, nl r10.den, .bool r11.neg, nl r11.num, nl r11.den]), .agg ([.bool r12.neg, nl r12.num, nl r12.den]), .agg ([.bool r13.neg, nl r13.num, nl r13.den]), .agg ([.bool r14.neg, nl r14.num, nl r14.den, .bool r15.neg, nl r15.num, nl r15.den, .bool r16.neg, nl r16.num, nl r16.den])] [.agg ([.bool (decide ((k1).num < 0)), nn (k1).num.natAbs, nn (k1).den, .bool (decide ((k2).num < 0)), nn (k2).num.natAbs, nn (k2).den, .bool (decide ((k3).num < 0)), nn (k3).num.natAbs, nn (k3).den])] := by
  subst e0 e1 e2 e3
  refine symFunc_sound hmix tree_penumbraref07_solve (by kernel_rfl) rfl ?_
  unfold ir_penumbraref07_solve
  simp only [fa_agg, fa_one, fa_nil, List.cons_append, List.nil_append, List.append_nil]
  refine call_step (n_penumbraref05_Cross_0 (k0 := ((x4 * x8) - (x7 * x5))) (k1 := ((x7 * x2) - (x1 * x8))) (k2 := ((x1 * x5) - (x4 * x2))) (h1.mono (by decide)) (h4.mono (by decide)) (h7.mono (by decide)) (h2.mono (by decide)) (h5.mono (by decide)) (h8.mono (by decide)) rfl rfl rfl) rfl ?_
  simp only [fa_agg, fa_one, fa_nil, List.cons_append, List.nil_append, List.append_nil]
  have m144 : Num 360000001 (cr ((x4 * x8) - (x7 * x5))) ((x4 * x8) - (x7 * x5)) := Num.of (Sm.sub (Sm.mul h4.sm h8.sm) (Sm.mul h7.sm h5.sm))
  have m145 : Num 360000001 (cr ((x7 * x2) - (x1 * x8))) ((x7 * x2) - (x1 * x8)) := Num.of (Sm.sub (Sm.mul h7.sm h2.sm) (Sm.mul h1.sm h8.sm))
  have m146 : Num 360000001 (cr ((x1 * x5) - (x4 * x2))) ((x1 * x5) - (x4 * x2)) := Num.of (Sm.sub (Sm.mul h1.sm h5.sm) (Sm.mul h4.sm h2.sm))
  refine call_step (n_penumbraref05_Dot_0 (k0 := (((x14 * ((x4 * x8) - (x7 * x5))) + (x15 * ((x7 * x2) - (x1 * x8)))) + (x16 * ((x1 * x5) - (x4 * x2))))) (h14.mono (by decide)) (h15.mono (by decide)) (h16.mono (by decide)) (m144.mono (by decide)) (m145.mono (by decide)) (m146.mono (by decide)) rfl) rfl ?_
  simp only [fa_agg, fa_one, fa_nil, List.cons_append, List.nil_append, List.append_nil]
  refine call_step (n_penumbraref05_Cross_0 (k0 := ((x15 * x8) - (x16 * x5))) (k1 := ((x16 * x2) - (x14 * x8))) (k2 := ((x14 * x5) - (x15 * x2))) (h14.mono (by decide)) (h15.mono (by decide)) (h16.mono (by decide)) (h2.mono (by decide)) (h5.mono (by decide)) (h8.mono (by decide)) rfl rfl rfl) rfl ?_
  simp only [fa_agg, fa_one, fa_nil, List.cons_append, List.nil_append, List.append_nil]
  have m147 : Num 360000001 (cr ((x15 * x8) - (x16 * x5))) ((x15 * x8) - (x16 * x5)) := Num.of (Sm.sub (Sm.mul h15.sm h8.sm) (Sm.mul h16.sm h5.sm))
  have m148 : Num 360000001 (cr ((x16 * x2) - (x14 * x8))) ((x16 * x2) - (x14 * x8)) := Num.of (Sm.sub (Sm.mul h16.sm h2.sm) (Sm.mul h14.sm h8.sm))
  have m149 : Num 360000001 (cr ((x14 * x5) - (x15 * x2))) ((x14 * x5) - (x15 * x2)) := Num.of (Sm.sub (Sm.mul h14.sm h5.sm) (Sm.mul h15.sm h2.sm))
  refine call_step (n_penumbraref05_Dot_0 (k0 := (((x0 * ((x15 * x8) - (x16 * x5))) + (x3 * ((x16 * x2) - (x14 * x8)))) + (x6 * ((x14 * x5) - (x15 * x2))))) (h0.mono (by decide)) (h3.mono (by decide)) (h6.mono (by decide)) (m147.mono (by decide)) (m148.mono (by decide)) (m149.mono (by decide)) rfl) rfl ?_
  simp only [fa_agg, fa_one, fa_nil, List.cons_append, List.nil_append, List.append_nil]
  refine call_step (n_penumbraref05_Cross_0 (k0 := ((x4 * x16) - (x7 * x15))) (k1 := ((x7 * x14) - (x1 * x16))) (k2 := ((x1 * x15) - (x4 * x14))) (h1.mono (by decide)) (h4.mono (by decide)) (h7.mono (by decide)) (h14.mono (by decide)) (h15.mono (by decide)) (h16.mono (by decide)) rfl rfl rfl) rfl ?_
  simp only [fa_agg, fa_one, fa_nil, List.cons_append, List.nil_append, List.append_nil]
  have m150 : Num 360000001 (cr ((x4 * x16) - (x7 * x15))) ((x4 * x16) - (x7 * x15)) := Num.of (Sm.sub (Sm.mul h4.sm h16.sm) (Sm.mul h7.sm h15.sm))
  have m151 : Num 360000001 (cr ((x7 * x14) - (x1 * x16))) ((x7 * x14) - (x1 * x16)) := Num.of (Sm.sub (Sm.mul h7.sm h14.sm) (Sm.mul h1.sm h16.sm))
  have m152 : Num 360000001 (cr ((x1 * x15) - (x4 * x14))) ((x1 * x15) - (x4 * x14)) := Num.of (Sm.sub (Sm.mul h1.sm h15.sm) (Sm.mul h4.sm h14.sm))
  refine call_step (n_penumbraref05_Dot_0 (k0 := (((x0 * ((x4 * x16) - (x7 * x15))) + (x3 * ((x7 * x14) - (x1 * x16)))) + (x6 * ((x1 * x15) - (x4 * x14))))) (h0.mono (by decide)) (h3.mono (by decide)) (h6.mono (by decide)) (m150.mono (by decide)) (m151.mono (by decide)) (m152.mono (by decide)) rfl) rfl ?_
  simp only [fa_agg, fa_one, fa_nil, List.cons_append, List.nil_append, List.append_nil]
  refine call_step (n_penumbraref03_Over (k0 := (x12 / x13)) (h12.mono (by decide)) (h13.mono (by decide)) rfl) rfl ?_
  simp only [fa_agg, fa_one, fa_nil, List.cons_append, List.nil_append, List.append_nil]
  have m153 : Num 180000000 (cr (x12 / x13)) (x12 / x13) := Num.of (Sm.div h12.sm h13.sm)
  have m154 : Num 1350000005 (cr (((x14 * ((x4 * x8) - (x7 * x5))) + (x15 * ((x7 * x2) - (x1 * x8)))) + (x16 * ((x1 * x5) - (x4 * x2))))) (((x14 * ((x4 * x8) - (x7 * x5))) + (x15 * ((x7 * x2) - (x1 * x8)))) + (x16 * ((x1 * x5) - (x4 * x2)))) := Num.of (Sm.add (Sm.add (Sm.mul h14.sm m144.sm) (Sm.mul h15.sm m145.sm)) (Sm.mul h16.sm m146.sm))
  have m155 : Num 1350000005 (cr (((x0 * ((x15 * x8) - (x16 * x5))) + (x3 * ((x16 * x2) - (x14 * x8)))) + (x6 * ((x14 * x5) - (x15 * x2))))) (((x0 * ((x15 * x8) - (x16 * x5))) + (x3 * ((x16 * x2) - (x14 * x8)))) + (x6 * ((x14 * x5) - (x15 * x2)))) := Num.of (Sm.add (Sm.add (Sm.mul h0.sm m147.sm) (Sm.mul h3.sm m148.sm)) (Sm.mul h6.sm m149.sm))
  have m156 : Num 1350000005 (cr (((x0 * ((x4 * x16) - (x7 * x15))) + (x3 * ((x7 * x14) - (x1 * x16)))) + (x6 * ((x1 * x15) - (x4 * x14))))) (((x0 * ((x4 * x16) - (x7 * x15))) + (x3 * ((x7 * x14) - (x1 * x16)))) + (x6 * ((x1 * x15) - (x4 * x14)))) := Num.of (Sm.add (Sm.add (Sm.mul h0.sm m150.sm) (Sm.mul h3.sm m151.sm)) (Sm.mul h6.sm m152.sm))
  refine call_step (n_penumbraref05_Scale_0 (k0 := ((x12 / x13) * (((x14 * ((x4 * x8) - (x7 * x5))) + (x15 * ((x7 * x2) - (x1 * x8)))) + (x16 * ((x1 * x5) - (x4 * x2)))))) (k1 := ((x12 / x13) * (((x0 * ((x15 * x8) - (x16 * x5))) + (x3 * ((x16 * x2) - (x14 * x8)))) + (x6 * ((x14 * x5) - (x15 * x2)))))) (k2 := ((x12 / x13) * (((x0 * ((x4 * x16) - (x7 * x15))) + (x3 * ((x7 * x14) - (x1 * x16)))) + (x6 * ((x1 * x15) - (x4 * x14)))))) (m153.mono (by decide)) (m154.mono (by decide)) (m155.mono (by decide)) (m156.mono (by decide)) rfl rfl rfl) rfl ?_
  simp only [fa_agg, fa_one, fa_nil, List.cons_append, List.nil_append, List.append_nil]
  exact ret_step rfl

theorem n_penumbraref05_Add_0  {r0 r1 r2 r3 r4 r5 : RR} {x0 x1 x2 x3 x4 x5 : Rat} {k0 k1 k2 : Rat} (h0 : Num 9000000000 r0 x0) (h1 : Num 9000000000 r1 x1) (h2 : Num 9000000000 r2 x2) (h3 : Num 9000000000 r3 x3) (h4 : Num 9000000000 r4 x4) (h5 : Num 9000000000 r5 x5) (e0 : k0 = (x0 + x3)) (e1 : k1 = (x1 + x4)) (e2 : k2 = (x2 + x5))  : PureCalls prog F.penumbraref05_Add [.agg ([.bool r0.neg, nl r0.num, nl r0.den, .bool r1.neg, nl r1.num, nl r1.den, .bool r2.neg, nl r2.num, nl r2.den]), .agg ([.bool r3.neg, nl r3.num, nl r3.den, .bool r4.neg, nl r4.num, nl r4.den, .bool r5.neg, nl r5.num, nl r5.den])] [.agg ([.bool (decide ((k0).num < 0)), nn (k0).num.natAbs, nn (k0).den, .bool (decide ((k1).num < 0)), nn (k1).num.natAbs, nn (k1).den, .bool (decide ((k2).num < 0)), nn (k2).num.natAbs, nn (k2).den])] := by
  subst e0 e1 e2
  refine symFunc_sound hmix tree_penumbraref05_Add (by kernel_rfl) rfl ?_
  unfold ir_penumbraref05_Add
  simp only [fa_agg, fa_one, fa_nil, List.cons_append, List.nil_append, List.append_nil]
  refine call_step (n_penumbraref03_Add (k0 := (x0 + x3)) (h0.mono (by decide)) (h3.mono (by decide)) rfl) rfl ?_
  simp only [fa_agg, fa_one, fa_nil, List.cons_append, List.nil_append, List.append_nil]
  refine call_step (n_penumbraref03_Add (k0 := (x1 + x4)) (h1.mono (by decide)) (h4.mono (by decide)) rfl) rfl ?_
  simp only [fa_agg, fa_one, fa_nil, List.cons_append, List.nil_append, List.append_nil]
  refine call_step (n_penumbraref03_Add (k0 := (x2 + x5)) (h2.mono (by decide)) (h5.mono (by decide)) rfl) rfl ?_
  simp only [fa_agg, fa_one, fa_nil, List.cons_append, List.nil_append, List.append_nil]
  exact ret_step rfl

theorem n_penumbraref07_Told_0  {r0 r1 r2 r3 r4 r5 r6 r7 r8 r9 r10 r11 : RR} {x0 x1 x2 x3 x4 x5 x6 x7 x8 x9 x10 x11 : Rat} {k0 k1 k2 k3 k4 k5 k6 k7 k8 : Rat} (h0 : Num 9000000000 r0 x0) (h1 : Num 9000000000 r1 x1) (h2 : Num 9000000000 r2 x2) (h3 : Num 9000000000 r3 x3) (h4 : Num 9000000000 r4 x4) (h5 : Num 9000000000 r5 x5) (h6 : Num 9000000000 r6 x6) (h7 : Num 9000000000 r7 x7) (h8 : Num 9000000000 r8 x8) (h9 : Num 9000000000 r9 x9) (h10 : Num 9000000000 r10 x10) (h11 : Num 9000000000 r11 x11) (e0 : k0 = (x3 - x0)) (e1 : k1 = (x6 - x0)) (e2 : k2 = (x9 - x0)) (e3 : k3 = (x4 - x1)) (e4 : k4 = (x7 - x1)) (e5 : k5 = (x10 - x1)) (e6 : k6 = (x5 - x2)) (e7 : k7 = (x8 - x2)) (e8 : k8 = (x11 - x2))  : PureCalls prog F.penumbraref07_Told [.agg ([.bool r0.neg, nl r0.num, nl r0.den, .bool r1.neg, nl r1.num, nl r1.den, .bool r2.neg, nl r2.num, nl r2.den]), .agg ([.bool r3.neg, nl r3.num, nl r3.den, .bool r4.neg, nl r4.num, nl r4.den, .bool r5.neg, nl r5.num, nl r5.den]), .agg ([.bool r6.neg, nl r6.num, nl r6.den, .bool r7.neg, nl r7.num, nl r7.den, .bool r8.neg, nl r8.num, nl r8.den]), .agg ([.bool r9.neg, nl r9.num, nl r9.den, .bool r10.neg, nl r10.num, nl r10.den, .bool r11.neg, nl r11.num, nl r11.den])] [.agg ([.bool (cr k0).neg, nl (cr k0).num, nl (cr k0).den, .bool (cr k1).neg, nl (cr k1).num, nl (cr k1).den, .bool (cr k2).neg, nl (cr k2).num, nl (cr k2).den, .bool (cr k3).neg, nl (cr k3).num, nl (cr k3).den, .bool (cr k4).neg, nl (cr k4).num, nl (cr k4).den, .bool (cr k5).neg, nl (cr k5).num, nl (cr k5).den, .bool (cr k6).neg, nl (cr k6).num, nl (cr k6).den, .bool (cr k7).neg, nl (cr k7).num, nl (cr k7).den, .bool (cr k8).neg, nl (cr k8).num, nl (cr k8).den, .bool r0.neg, nl r0.num, nl r0.den, .bool r1.neg, nl r1.num, nl r1.den, .bool r2.neg, nl r2.num, nl r2.den])] := by
  subst e0 e1 e2 e3 e4 e5 e6 e7 e8
  refine symFunc_sound hmix tree_penumbraref07_Told (by kernel_rfl) rfl ?_
  unfold ir_penumbraref07_Told
  simp only [fa_agg, fa_one, fa_nil, List.cons_append, List.nil_append, List.append_nil]
  refine call_step (n_penumbraref05_Sub_0 (k0 := (x3 - x0)) (k1 := (x4 - x1)) (k2 := (x5 - x2)) (h3.mono (by decide)) (h4.mono (by decide)) (h5.mono (by decide)) (h0.mono (by decide)) (h1.mono (by decide)) (h2.mono (by decide)) rfl rfl rfl) rfl ?_
  simp only [fa_agg, fa_one, fa_nil, List.cons_append, List.nil_append, List.append_nil]
  refine call_step (n_penumbraref05_Sub_0 (k0 := (x6 - x0)) (k1 := (x7 - x1)) (k2 := (x8 - x2)) (h6.mono (by decide)) (h7.mono (by decide)) (h8.mono (by decide)) (h0.mono (by decide)) (h1.mono (by decide)) (h2.mono (by decide)) rfl rfl rfl) rfl ?_
  simp only [fa_agg, fa_one, fa_nil, List.cons_append, List.nil_append, List.append_nil]
  refine call_step (n_penumbraref05_Sub_0 (k0 := (x9 - x0)) (k1 := (x10 - x1)) (k2 := (x11 - x2)) (h9.mono (by decide)) (h10.mono (by decide)) (h11.mono (by decide)) (h0.mono (by decide)) (h1.mono (by decide)) (h2.mono (by decide)) rfl rfl rfl) rfl ?_
  simp only [fa_agg, fa_one, fa_nil, List.cons_append, List.nil_append, List.append_nil]
  exact ret_step rfl

theorem n_penumbraref07_Inverse_0 {Z0 Z1 : Rat} (Y0 : Z0 = (0 : Rat)) (Y1 : Z1 = (1 : Rat)) {r0 r1 r2 r3 r4 r5 r6 r7 r8 r9 r10 r11 : RR} {x0 x1 x2 x3 x4 x5 x6 x7 x8 x9 x10 x11 : Rat} {k0 : Rat} (h0 : Num 1100000 r0 x0) (h1 : Num 1100000 r1 x1) (h2 : Num 1100000 r2 x2) (h3 : Num 1100000 r3 x3) (h4 : Num 1100000 r4 x4) (h5 : Num 1100000 r5 x5) (h6 : Num 1100000 r6 x6) (h7 : Num 1100000 r7 x7) (h8 : Num 1100000 r8 x8) (h9 : Num 1100000 r9 x9) (h10 : Num 1100000 r10 x10) (h11 : Num 1100000 r11 x11) (e0 : k0 = (((x0 * ((x4 * x8) - (x5 * x7))) + (x1 * ((x5 * x6) - (x3 * x8)))) + (x2 * ((x3 * x7) - (x4 * x6))))) (c0 : k0 = Z0) : PureCalls prog F.penumbraref07_Inverse [.agg ([.bool r0.neg, nl r0.num, nl r0.den, .bool r1.neg, nl r1.num, nl r1.den, .bool r2.neg, nl r2.num, nl r2.den, .bool r3.neg, nl r3.num, nl r3.den, .bool r4.neg, nl r4.num, nl r4.den, .bool r5.neg, nl r5.num, nl r5.den, .bool r6.neg, nl r6.num, nl r6.den, .bool r7.neg, nl r7.num, nl r7.den, .bool r8.neg, nl r8.num, nl r8.den, .bool r9.neg, nl r9.num, nl r9.den, .bool r10.neg, nl r10.num, nl r10.den, .bool r11.neg, nl r11.num, nl r11.den])] [.agg ([.bool (decide ((Z1).num < 0)), nn (Z1).num.natAbs, nn (Z1).den, .bool (decide ((Z0).num < 0)), nn (Z0).num.natAbs, nn (Z0).den, .bool (decide ((Z0).num < 0)), nn (Z0).num.natAbs, nn (Z0).den, .bool (decide ((Z0).num < 0)), nn (Z0).num.natAbs, nn (Z0).den, .bool (decide ((Z1).num < 0)), nn (Z1).num.natAbs, nn (Z1).den, .bool (decide ((Z0).num < 0)), nn (Z0).num.natAbs, nn (Z0).den, .bool (decide ((Z0).num < 0)), nn (Z0).num.natAbs, nn (Z0).den, .bool (decide ((Z0).num < 0)), nn (Z0).num.natAbs, nn (Z0).den, .bool (decide ((Z1).num < 0)), nn (Z1).num.natAbs, nn (Z1).den, .bool (decide ((Z0).num < 0)), nn (Z0).num.natAbs, nn (Z0).den, .bool (decide ((Z0).num < 0)), nn (Z0).num.natAbs, nn (Z0).den, .bool (decide ((Z0).num < 0)), nn (Z0).num.natAbs, nn (Z0).den]), .one (.bool false)] := by
  subst e0
  refine symFunc_sound hmix tree_penumbraref07_Inverse (by kernel_rfl) rfl ?_
  unfold ir_penumbraref07_Inverse
  simp only [fa_agg, fa_one, fa_nil, List.cons_append, List.nil_append, List.append_nil]
  refine call_step (n_penumbraref07_Det_0 (k0 := (((x0 * ((x4 * x8) - (x5 * x7))) + (x1 * ((x5 * x6) - (x3 * x8)))) + (x2 * ((x3 * x7) - (x4 * x6))))) (h0.mono (by decide)) (h1.mono (by decide)) (h2.mono (by decide)) (h3.mono (by decide)) (h4.mono (by decide)) (h5.mono (by decide)) (h6.mono (by decide)) (h7.mono (by decide)) (h8.mono (by decide)) (h9.mono (by decide)) (h10.mono (by decide)) (h11.mono (by decide)) rfl) rfl ?_
  simp only [fa_agg, fa_one, fa_nil, List.cons_append, List.nil_append, List.append_nil]
  have m196 : Num 16500005 (cr (((x0 * ((x4 * x8) - (x5 * x7))) + (x1 * ((x5 * x6) - (x3 * x8)))) + (x2 * ((x3 * x7) - (x4 * x6))))) (((x0 * ((x4 * x8) - (x5 * x7))) + (x1 * ((x5 * x6) - (x3 * x8)))) + (x2 * ((x3 * x7) - (x4 * x6)))) := Num.of (Sm.add (Sm.add (Sm.mul h0.sm (Sm.sub (Sm.mul h4.sm h8.sm) (Sm.mul h5.sm h7.sm))) (Sm.mul h1.sm (Sm.sub (Sm.mul h5.sm h6.sm) (Sm.mul h3.sm h8.sm)))) (Sm.mul h2.sm (Sm.sub (Sm.mul h3.sm h7.sm) (Sm.mul h4.sm h6.sm))))
  refine call_step (n_penumbraref03_Sign (m196.mono (by decide))) rfl ?_
  simp only [fa_agg, fa_one, fa_nil, List.cons_append, List.nil_append, List.append_nil]
  refine primS (.bool true) (cs_eql_t ((sg_eq Y0).2 c0)) ?_
  refine itT rfl ?_
  refine call_step (n_penumbraref07_Identity_0 Y0 Y1) rfl ?_
  simp only [fa_agg, fa_one, fa_nil, List.cons_append, List.nil_append, List.append_nil]
  exact ret_step rfl

theorem n_penumbraref07_Inverse_1 {Z0 Z1 : Rat} (Y0 : Z0 = (0 : Rat)) (Y1 : Z1 = (1 : Rat)) {r0 r1 r2 r3 r4 r5 r6 r7 r8 r9 r10 r11 : RR} {x0 x1 x2 x3 x4 x5 x6 x7 x8 x9 x10 x11 : Rat} {k0 k1 k2 k3 k4 k5 k6 k7 k8 k9 k10 k11 k12 k13 : Rat} (h0 : Num 1100000 r0 x0) (h1 : Num 1100000 r1 x1) (h2 : Num 1100000 r2 x2) (h3 : Num 1100000 r3 x3) (h4 : Num 1100000 r4 x4) (h5 : Num 1100000 r5 x5) (h6 : Num 1100000 r6 x6) (h7 : Num 1100000 r7 x7) (h8 : Num 1100000 r8 x8) (h9 : Num 1100000 r9 x9) (h10 : Num 1100000 r10 x10) (h11 : Num 1100000 r11 x11) (e0 : k0 = (((x0 * ((x4 * x8) - (x5 * x7))) + (x1 * ((x5 * x6) - (x3 * x8)))) + (x2 * ((x3 * x7) - (x4 * x6))))) (e1 : k1 = (Z1 / k0)) (e2 : k2 = (k1 * ((((Z0 - x9) * ((x4 * x8) - (x7 * x5))) + ((Z0 - x10) * ((x7 * x2) - (x1 * x8)))) + ((Z0 - x11) * ((x1 * x5) - (x4 * x2)))))) (e3 : k3 = ((k2 + (k1 * (((Z1 * ((x4 * x8) - (x7 * x5))) + (Z0 * ((x7 * x2) - (x1 * x8)))) + (Z0 * ((x1 * x5) - (x4 * x2)))))) - k2)) (e4 : k4 = ((k2 + (k1 * (((Z0 * ((x4 * x8) - (x7 * x5))) + (Z1 * ((x7 * x2) - (x1 * x8)))) + (Z0 * ((x1 * x5) - (x4 * x2)))))) - k2)) (e5 : k5 = ((k2 + (k1 * (((Z0 * ((x4 * x8) - (x7 * x5))) + (Z0 * ((x7 * x2) - (x1 * x8)))) + (Z1 * ((x1 * x5) - (x4 * x2)))))) - k2)) (e6 : k6 = (k1 * (((x0 * (((Z0 - x10) * x8) - ((Z0 - x11) * x5))) + (x3 * (((Z0 - x11) * x2) - ((Z0 - x9) * x8)))) + (x6 * (((Z0 - x9) * x5) - ((Z0 - x10) * x2)))))) (e7 : k7 = ((k6 + (k1 * (((x0 * ((Z0 * x8) - (Z0 * x5))) + (x3 * ((Z0 * x2) - (Z1 * x8)))) + (x6 * ((Z1 * x5) - (Z0 * x2)))))) - k6)) (e8 : k8 = ((k6 + (k1 * (((x0 * ((Z1 * x8) - (Z0 * x5))) + (x3 * ((Z0 * x2) - (Z0 * x8)))) + (x6 * ((Z0 * x5) - (Z1 * x2)))))) - k6)) (e9 : k9 = ((k6 + (k1 * (((x0 * ((Z0 * x8) - (Z1 * x5))) + (x3 * ((Z1 * x2) - (Z0 * x8)))) + (x6 * ((Z0 * x5) - (Z0 * x2)))))) - k6)) (e10 : k10 = (k1 * (((x0 * ((x4 * (Z0 - x11)) - (x7 * (Z0 - x10)))) + (x3 * ((x7 * (Z0 - x9)) - (x1 * (Z0 - x11))))) + (x6 * ((x1 * (Z0 - x10)) - (x4 * (Z0 - x9))))))) (e11 : k11 = ((k10 + (k1 * (((x0 * ((x4 * Z0) - (x7 * Z0))) + (x3 * ((x7 * Z1) - (x1 * Z0)))) + (x6 * ((x1 * Z0) - (x4 * Z1)))))) - k10)) (e12 : k12 = ((k10 + (k1 * (((x0 * ((x4 * Z0) - (x7 * Z1))) + (x3 * ((x7 * Z0) - (x1 * Z0)))) + (x6 * ((x1 * Z1) - (x4 * Z0)))))) - k10)) (e13 : k13 = ((k10 + (k1 * (((x0 * ((x4 * Z1) - (x7 * Z0))) + (x3 * ((x7 * Z0) - (x1 * Z1)))) + (x6 * ((x1 * Z0) - (x4 * Z0)))))) - k10)) (c0 : ¬k0 = Z0) : PureCalls prog F.penumbraref07_Inverse [.agg ([.bool r0.neg, nl r0.num, nl r0.den, .bool r1.neg, nl r1.num, nl r1.den, .bool r2.neg, nl r2.num, nl r2.den, .bool r3.neg, nl r3.num, nl r3.den, .bool r4.neg, nl r4.num, nl r4.den, .bool r5.neg, nl r5.num, nl r5.den, .bool r6.neg, nl r6.num, nl r6.den, .bool r7.neg, nl r7.num, nl r7.den, .bool r8.neg, nl r8.num, nl r8.den, .bool r9.neg, nl r9.num, nl r9.den, .bool r10.neg, nl r10.num, nl r10.den, .bool r11.neg, nl r11.num, nl r11.den])] [.agg ([.bool (decide ((k3).num < 0)), nn (k3).num.natAbs, nn (k3).den, .bool (decide ((k4).num < 0)), nn (k4).num.natAbs, nn (k4).den, .bool (decide ((k5).num < 0)), nn (k5).num.natAbs, nn (k5).den, .bool (decide ((k7).num < 0)), nn (k7).num.natAbs, nn (k7).den, .bool (decide ((k8).num < 0)), nn (k8).num.natAbs, nn (k8).den, .bool (decide ((k9).num < 0)), nn (k9).num.natAbs, nn (k9).den, .bool (decide ((k11).num < 0)), nn (k11).num.natAbs, nn (k11).den, .bool (decide ((k12).num < 0)), nn (k12).num.natAbs, nn (k12).den, .bool (decide ((k13).num < 0)), nn (k13).num.natAbs, nn (k13).den, .bool (decide ((k2).num < 0)), nn (k2).num.natAbs, nn (k2).den, .bool (decide ((k6).num < 0)), nn (k6).num.natAbs, nn (k6).den, .bool (decide ((k10).num < 0)), nn (k10).num.natAbs, nn (k10).den]), .one (.bool true)] := by
  subst e0 e1 e2 e3 e4 e5 e6 e7 e8 e9 e10 e11 e12 e13
  refine symFunc_sound hmix tree_penumbraref07_Inverse (by kernel_rfl) rfl ?_
  unfold ir_penumbraref07_Inverse
  simp only [fa_agg, fa_one, fa_nil, List.cons_append, List.nil_append, List.append_nil]
  refine call_step (n_penumbraref07_Det_0 (k0 := (((x0 * ((x4 * x8) - (x5 * x7))) + (x1 * ((x5 * x6) - (x3 * x8)))) + (x2 * ((x3 * x7) - (x4 * x6))))) (h0.mono (by decide)) (h1.mono (by decide)) (h2.mono (by decide)) (h3.mono (by decide)) (h4.mono (by decide)) (h5.mono (by decide)) (h6.mono (by decide)) (h7.mono (by decide)) (h8.mono (by decide)) (h9.mono (by decide)) (h10.mono (by decide)) (h11.mono (by decide)) rfl) rfl ?_
  simp only [fa_agg, fa_one, fa_nil, List.cons_append, List.nil_append, List.append_nil]
  have m197 : Num 16500005 (cr (((x0 * ((x4 * x8) - (x5 * x7))) + (x1 * ((x5 * x6) - (x3 * x8)))) + (x2 * ((x3 * x7) - (x4 * x6))))) (((x0 * ((x4 * x8) - (x5 * x7))) + (x1 * ((x5 * x6) - (x3 * x8)))) + (x2 * ((x3 * x7) - (x4 * x6)))) := Num.of (Sm.add (Sm.add (Sm.mul h0.sm (Sm.sub (Sm.mul h4.sm h8.sm) (Sm.mul h5.sm h7.sm))) (Sm.mul h1.sm (Sm.sub (Sm.mul h5.sm h6.sm) (Sm.mul h3.sm h8.sm)))) (Sm.mul h2.sm (Sm.sub (Sm.mul h3.sm h7.sm) (Sm.mul h4.sm h6.sm))))
  refine call_step (n_penumbraref03_Sign (m197.mono (by decide))) rfl ?_
  simp only [fa_agg, fa_one, fa_nil, List.cons_append, List.nil_append, List.append_nil]
  refine primS (.bool false) (cs_eql_f (fun z => c0 ((sg_eq Y0).1 z))) ?_
  refine itF rfl ?_
  refine call_step (n_penumbraref03_One Y1) rfl ?_
  simp only [fa_agg, fa_one, fa_nil, List.cons_append, List.nil_append, List.append_nil]
  refine call_step (n_penumbraref05_Zero_0 Y0) rfl ?_
  simp only [fa_agg, fa_one, fa_nil, List.cons_append, List.nil_append, List.append_nil]
  have m198 : Num 1 (cr Z0) Z0 := Num.c Y0 (by decide +kernel) (by decide +kernel)
  refine call_step (n_penumbraref05_Sub_0 (k0 := (Z0 - x9)) (k1 := (Z0 - x10)) (k2 := (Z0 - x11)) (m198.mono (by decide)) (m198.mono (by decide)) (m198.mono (by decide)) (h9.mono (by decide)) (h10.mono (by decide)) (h11.mono (by decide)) rfl rfl rfl) rfl ?_
  simp only [fa_agg, fa_one, fa_nil, List.cons_append, List.nil_append, List.append_nil]
  have m199 : Num 1 (cr Z1) Z1 := Num.c Y1 (by decide +kernel) (by decide +kernel)
  have m200 : Num 1100002 (cr (Z0 - x9)) (Z0 - x9) := Num.of (Sm.sub m198.sm h9.sm)
  have m201 : Num 1100002 (cr (Z0 - x10)) (Z0 - x10) := Num.of (Sm.sub m198.sm h10.sm)
  have m202 : Num 1100002 (cr (Z0 - x11)) (Z0 - x11) := Num.of (Sm.sub m198.sm h11.sm)
  refine call_step (n_penumbraref07_solve_0 (k0 := (Z1 / (((x0 * ((x4 * x8) - (x5 * x7))) + (x1 * ((x5 * x6) - (x3 * x8)))) + (x2 * ((x3 * x7) - (x4 * x6)))))) (k1 := ((Z1 / (((x0 * ((x4 * x8) - (x5 * x7))) + (x1 * ((x5 * x6) - (x3 * x8)))) + (x2 * ((x3 * x7) - (x4 * x6))))) * ((((Z0 - x9) * ((x4 * x8) - (x7 * x5))) + ((Z0 - x10) * ((x7 * x2) - (x1 * x8)))) + ((Z0 - x11) * ((x1 * x5) - (x4 * x2)))))) (k2 := ((Z1 / (((x0 * ((x4 * x8) - (x5 * x7))) + (x1 * ((x5 * x6) - (x3 * x8)))) + (x2 * ((x3 * x7) - (x4 * x6))))) * (((x0 * (((Z0 - x10) * x8) - ((Z0 - x11) * x5))) + (x3 * (((Z0 - x11) * x2) - ((Z0 - x9) * x8)))) + (x6 * (((Z0 - x9) * x5) - ((Z0 - x10) * x2)))))) (k3 := ((Z1 / (((x0 * ((x4 * x8) - (x5 * x7))) + (x1 * ((x5 * x6) - (x3 * x8)))) + (x2 * ((x3 * x7) - (x4 * x6))))) * (((x0 * ((x4 * (Z0 - x11)) - (x7 * (Z0 - x10)))) + (x3 * ((x7 * (Z0 - x9)) - (x1 * (Z0 - x11))))) + (x6 * ((x1 * (Z0 - x10)) - (x4 * (Z0 - x9))))))) (h0.mono (by decide)) (h1.mono (by decide)) (h2.mono (by decide)) (h3.mono (by decide)) (h4.mono (by decide)) (h5.mono (by decide)) (h6.mono (by decide)) (h7.mono (by decide)) (h8.mono (by decide)) (h9.mono (by decide)) (h10.mono (by decide)) (h11.mono (by decide)) (m199.mono (by decide)) (m197.mono (by decide)) (m200.mono (by decide)) (m201.mono (by decide)) (m202.mono (by decide)) rfl rfl rfl rfl) rfl ?_
  simp only [fa_agg, fa_one, fa_nil, List.cons_append, List.nil_append, List.append_nil]
  refine call_step (n_penumbraref05_Of (1) (0) (0) (by decide) (by decide) (by decide) (by decide) (by decide) (by decide) (Y1.trans (by decide +kernel)) (Y0.trans (by decide +kernel)) (Y0.trans (by decide +kernel))) rfl ?_
  simp only [fa_agg, fa_one, fa_nil, List.cons_append, List.nil_append, List.append_nil]
  refine call_step (n_penumbraref07_solve_0 (k0 := (Z1 / (((x0 * ((x4 * x8) - (x5 * x7))) + (x1 * ((x5 * x6) - (x3 * x8)))) + (x2 * ((x3 * x7) - (x4 * x6)))))) (k1 := ((Z1 / (((x0 * ((x4 * x8) - (x5 * x7))) + (x1 * ((x5 * x6) - (x3 * x8)))) + (x2 * ((x3 * x7) - (x4 * x6))))) * (((Z1 * ((x4 * x8) - (x7 * x5))) + (Z0 * ((x7 * x2) - (x1 * x8)))) + (Z0 * ((x1 * x5) - (x4 * x2)))))) (k2 := ((Z1 / (((x0 * ((x4 * x8) - (x5 * x7))) + (x1 * ((x5 * x6) - (x3 * x8)))) + (x2 * ((x3 * x7) - (x4 * x6))))) * (((x0 * ((Z0 * x8) - (Z0 * x5))) + (x3 * ((Z0 * x2) - (Z1 * x8)))) + (x6 * ((Z1 * x5) - (Z0 * x2)))))) (k3 := ((Z1 / (((x0 * ((x4 * x8) - (x5 * x7))) + (x1 * ((x5 * x6) - (x3 * x8)))) + (x2 * ((x3 * x7) - (x4 * x6))))) * (((x0 * ((x4 * Z0) - (x7 * Z0))) + (x3 * ((x7 * Z1) - (x1 * Z0)))) + (x6 * ((x1 * Z0) - (x4 * Z1)))))) (h0.mono (by decide)) (h1.mono (by decide)) (h2.mono (by decide)) (h3.mono (by decide)) (h4.mono (by decide)) (h5.mono (by decide)) (h6.mono (by decide)) (h7.mono (by decide)) (h8.mono (by decide)) (h9.mono (by decide)) (h10.mono (by decide)) (h11.mono (by decide)) (m199.mono (by decide)) (m197.mono (by decide)) (m199.mono (by decide)) (m198.mono (by decide)) (m198.mono (by decide)) rfl rfl rfl rfl) rfl ?_
  simp only [fa_agg, fa_one, fa_nil, List.cons_append, List.nil_append, List.append_nil]
  have m203 : Num 33000017 (cr ((Z1 / (((x0 * ((x4 * x8) - (x5 * x7))) + (x1 * ((x5 * x6) - (x3 * x8)))) + (x2 * ((x3 * x7) - (x4 * x6))))) * ((((Z0 - x9) * ((x4 * x8) - (x7 * x5))) + ((Z0 - x10) * ((x7 * x2) - (x1 * x8)))) + ((Z0 - x11) * ((x1 * x5) - (x4 * x2)))))) ((Z1 / (((x0 * ((x4 * x8) - (x5 * x7))) + (x1 * ((x5 * x6) - (x3 * x8)))) + (x2 * ((x3 * x7) - (x4 * x6))))) * ((((Z0 - x9) * ((x4 * x8) - (x7 * x5))) + ((Z0 - x10) * ((x7 * x2) - (x1 * x8)))) + ((Z0 - x11) * ((x1 * x5) - (x4 * x2))))) := Num.of (Sm.mul (Sm.div m199.sm m197.sm) (Sm.add (Sm.add (Sm.mul m200.sm (Sm.sub (Sm.mul h4.sm h8.sm) (Sm.mul h7.sm h5.sm))) (Sm.mul m201.sm (Sm.sub (Sm.mul h7.sm h2.sm) (Sm.mul h1.sm h8.sm)))) (Sm.mul m202.sm (Sm.sub (Sm.mul h1.sm h5.sm) (Sm.mul h4.sm h2.sm)))))
  have m204 : Num 33000023 (cr ((Z1 / (((x0 * ((x4 * x8) - (x5 * x7))) + (x1 * ((x5 * x6) - (x3 * x8)))) + (x2 * ((x3 * x7) - (x4 * x6))))) * (((x0 * (((Z0 - x10) * x8) - ((Z0 - x11) * x5))) + (x3 * (((Z0 - x11) * x2) - ((Z0 - x9) * x8)))) + (x6 * (((Z0 - x9) * x5) - ((Z0 - x10) * x2)))))) ((Z1 / (((x0 * ((x4 * x8) - (x5 * x7))) + (x1 * ((x5 * x6) - (x3 * x8)))) + (x2 * ((x3 * x7) - (x4 * x6))))) * (((x0 * (((Z0 - x10) * x8) - ((Z0 - x11) * x5))) + (x3 * (((Z0 - x11) * x2) - ((Z0 - x9) * x8)))) + (x6 * (((Z0 - x9) * x5) - ((Z0 - x10) * x2))))) := Num.of (Sm.mul (Sm.div m199.sm m197.sm) (Sm.add (Sm.add (Sm.mul h0.sm (Sm.sub (Sm.mul m201.sm h8.sm) (Sm.mul m202.sm h5.sm))) (Sm.mul h3.sm (Sm.sub (Sm.mul m202.sm h2.sm) (Sm.mul m200.sm h8.sm)))) (Sm.mul h6.sm (Sm.sub (Sm.mul m200.sm h5.sm) (Sm.mul m201.sm h2.sm)))))
  have m205 : Num 33000023 (cr ((Z1 / (((x0 * ((x4 * x8) - (x5 * x7))) + (x1 * ((x5 * x6) - (x3 * x8)))) + (x2 * ((x3 * x7) - (x4 * x6))))) * (((x0 * ((x4 * (Z0 - x11)) - (x7 * (Z0 - x10)))) + (x3 * ((x7 * (Z0 - x9)) - (x1 * (Z0 - x11))))) + (x6 * ((x1 * (Z0 - x10)) - (x4 * (Z0 - x9))))))) ((Z1 / (((x0 * ((x4 * x8) - (x5 * x7))) + (x1 * ((x5 * x6) - (x3 * x8)))) + (x2 * ((x3 * x7) - (x4 * x6))))) * (((x0 * ((x4 * (Z0 - x11)) - (x7 * (Z0 - x10)))) + (x3 * ((x7 * (Z0 - x9)) - (x1 * (Z0 - x11))))) + (x6 * ((x1 * (Z0 - x10)) - (x4 * (Z0 - x9)))))) := Num.of (Sm.mul (Sm.div m199.sm m197.sm) (Sm.add (Sm.add (Sm.mul h0.sm (Sm.sub (Sm.mul h4.sm m202.sm) (Sm.mul h7.sm m201.sm))) (Sm.mul h3.sm (Sm.sub (Sm.mul h7.sm m200.sm) (Sm.mul h1.sm m202.sm)))) (Sm.mul h6.sm (Sm.sub (Sm.mul h1.sm m201.sm) (Sm.mul h4.sm m200.sm)))))
  have m206 : Num 29700014 (cr ((Z1 / (((x0 * ((x4 * x8) - (x5 * x7))) + (x1 * ((x5 * x6) - (x3 * x8)))) + (x2 * ((x3 * x7) - (x4 * x6))))) * (((Z1 * ((x4 * x8) - (x7 * x5))) + (Z0 * ((x7 * x2) - (x1 * x8)))) + (Z0 * ((x1 * x5) - (x4 * x2)))))) ((Z1 / (((x0 * ((x4 * x8) - (x5 * x7))) + (x1 * ((x5 * x6) - (x3 * x8)))) + (x2 * ((x3 * x7) - (x4 * x6))))) * (((Z1 * ((x4 * x8) - (x7 * x5))) + (Z0 * ((x7 * x2) - (x1 * x8)))) + (Z0 * ((x1 * x5) - (x4 * x2))))) := Num.of (Sm.mul (Sm.div m199.sm m197.sm) (Sm.add (Sm.add (Sm.mul m199.sm (Sm.sub (Sm.mul h4.sm h8.sm) (Sm.mul h7.sm h5.sm))) (Sm.mul m198.sm (Sm.sub (Sm.mul h7.sm h2.sm) (Sm.mul h1.sm h8.sm)))) (Sm.mul m198.sm (Sm.sub (Sm.mul h1.sm h5.sm) (Sm.mul h4.sm h2.sm)))))
  have m207 : Num 26400017 (cr ((Z1 / (((x0 * ((x4 * x8) - (x5 * x7))) + (x1 * ((x5 * x6) - (x3 * x8)))) + (x2 * ((x3 * x7) - (x4 * x6))))) * (((x0 * ((Z0 * x8) - (Z0 * x5))) + (x3 * ((Z0 * x2) - (Z1 * x8)))) + (x6 * ((Z1 * x5) - (Z0 * x2)))))) ((Z1 / (((x0 * ((x4 * x8) - (x5 * x7))) + (x1 * ((x5 * x6) - (x3 * x8)))) + (x2 * ((x3 * x7) - (x4 * x6))))) * (((x0 * ((Z0 * x8) - (Z0 * x5))) + (x3 * ((Z0 * x2) - (Z1 * x8)))) + (x6 * ((Z1 * x5) - (Z0 * x2))))) := Num.of (Sm.mul (Sm.div m199.sm m197.sm) (Sm.add (Sm.add (Sm.mul h0.sm (Sm.sub (Sm.mul m198.sm h8.sm) (Sm.mul m198.sm h5.sm))) (Sm.mul h3.sm (Sm.sub (Sm.mul m198.sm h2.sm) (Sm.mul m199.sm h8.sm)))) (Sm.mul h6.sm (Sm.sub (Sm.mul m199.sm h5.sm) (Sm.mul m198.sm h2.sm)))))
  have m208 : Num 26400017 (cr ((Z1 / (((x0 * ((x4 * x8) - (x5 * x7))) + (x1 * ((x5 * x6) - (x3 * x8)))) + (x2 * ((x3 * x7) - (x4 * x6))))) * (((x0 * ((x4 * Z0) - (x7 * Z0))) + (x3 * ((x7 * Z1) - (x1 * Z0)))) + (x6 * ((x1 * Z0) - (x4 * Z1)))))) ((Z1 / (((x0 * ((x4 * x8) - (x5 * x7))) + (x1 * ((x5 * x6) - (x3 * x8)))) + (x2 * ((x3 * x7) - (x4 * x6))))) * (((x0 * ((x4 * Z0) - (x7 * Z0))) + (x3 * ((x7 * Z1) - (x1 * Z0)))) + (x6 * ((x1 * Z0) - (x4 * Z1))))) := Num.of (Sm.mul (Sm.div m199.sm m197.sm) (Sm.add (Sm.add (Sm.mul h0.sm (Sm.sub (Sm.mul h4.sm m198.sm) (Sm.mul h7.sm m198.sm))) (Sm.mul h3.sm (Sm.sub (Sm.mul h7.sm m199.sm) (Sm.mul h1.sm m198.sm)))) (Sm.mul h6.sm (Sm.sub (Sm.mul h1.sm m198.sm) (Sm.mul h4.sm m199.sm)))))
  refine call_step (n_penumbraref05_Add_0 (k0 := (((Z1 / (((x0 * ((x4 * x8) - (x5 * x7))) + (x1 * ((x5 * x6) - (x3 * x8)))) + (x2 * ((x3 * x7) - (x4 * x6))))) * ((((Z0 - x9) * ((x4 * x8) - (x7 * x5))) + ((Z0 - x10) * ((x7 * x2) - (x1 * x8)))) + ((Z0 - x11) * ((x1 * x5) - (x4 * x2))))) + ((Z1 / (((x0 * ((x4 * x8) - (x5 * x7))) + (x1 * ((x5 * x6) - (x3 * x8)))) + (x2 * ((x3 * x7) - (x4 * x6))))) * (((Z1 * ((x4 * x8) - (x7 * x5))) + (Z0 * ((x7 * x2) - (x1 * x8)))) + (Z0 * ((x1 * x5) - (x4 * x2))))))) (k1 := (((Z1 / (((x0 * ((x4 * x8) - (x5 * x7))) + (x1 * ((x5 * x6) - (x3 * x8)))) + (x2 * ((x3 * x7) - (x4 * x6))))) * (((x0 * (((Z0 - x10) * x8) - ((Z0 - x11) * x5))) + (x3 * (((Z0 - x11) * x2) - ((Z0 - x9) * x8)))) + (x6 * (((Z0 - x9) * x5) - ((Z0 - x10) * x2))))) + ((Z1 / (((x0 * ((x4 * x8) - (x5 * x7))) + (x1 * ((x5 * x6) - (x3 * x8)))) + (x2 * ((x3 * x7) - (x4 * x6))))) * (((x0 * ((Z0 * x8) - (Z0 * x5))) + (x3 * ((Z0 * x2) - (Z1 * x8)))) + (x6 * ((Z1 * x5) - (Z0 * x2))))))) (k2 := (((Z1 / (((x0 * ((x4 * x8) - (x5 * x7))) + (x1 * ((x5 * x6) - (x3 * x8)))) + (x2 * ((x3 * x7) - (x4 * x6))))) * (((x0 * ((x4 * (Z0 - x11)) - (x7 * (Z0 - x10)))) + (x3 * ((x7 * (Z0 - x9)) - (x1 * (Z0 - x11))))) + (x6 * ((x1 * (Z0 - x10)) - (x4 * (Z0 - x9)))))) + ((Z1 / (((x0 * ((x4 * x8) - (x5 * x7))) + (x1 * ((x5 * x6) - (x3 * x8)))) + (x2 * ((x3 * x7) - (x4 * x6))))) * (((x0 * ((x4 * Z0) - (x7 * Z0))) + (x3 * ((x7 * Z1) - (x1 * Z0)))) + (x6 * ((x1 * Z0) - (x4 * Z1))))))) (m203.mono (by decide)) (m204.mono (by decide)) (m205.mono (by decide)) (m206.mono (by decide)) (m207.mono (by decide)) (m208.mono (by decide)) rfl rfl rfl) rfl ?_
  simp only [fa_agg, fa_one, fa_nil, List.cons_append, List.nil_append, List.append_nil]
  refine call_step (n_penumbraref05_Of (0) (1) (0) (by decide) (by decide) (by decide) (by decide) (by decide) (by decide) (Y0.trans (by decide +kernel)) (Y1.trans (by decide +kernel)) (Y0.trans (by decide +kernel))) rfl ?_
  simp only [fa_agg, fa_one, fa_nil, List.cons_append, List.nil_append, List.append_nil]
  refine call_step (n_penumbraref07_solve_0 (k0 := (Z1 / (((x0 * ((x4 * x8) - (x5 * x7))) + (x1 * ((x5 * x6) - (x3 * x8)))) + (x2 * ((x3 * x7) - (x4 * x6)))))) (k1 := ((Z1 / (((x0 * ((x4 * x8) - (x5 * x7))) + (x1 * ((x5 * x6) - (x3 * x8)))) + (x2 * ((x3 * x7) - (x4 * x6))))) * (((Z0 * ((x4 * x8) - (x7 * x5))) + (Z1 * ((x7 * x2) - (x1 * x8)))) + (Z0 * ((x1 * x5) - (x4 * x2)))))) (k2 := ((Z1 / (((x0 * ((x4 * x8) - (x5 * x7))) + (x1 * ((x5 * x6) - (x3 * x8)))) + (x2 * ((x3 * x7) - (x4 * x6))))) * (((x0 * ((Z1 * x8) - (Z0 * x5))) + (x3 * ((Z0 * x2) - (Z0 * x8)))) + (x6 * ((Z0 * x5) - (Z1 * x2)))))) (k3 := ((Z1 / (((x0 * ((x4 * x8) - (x5 * x7))) + (x1 * ((x5 * x6) - (x3 * x8)))) + (x2 * ((x3 * x7) - (x4 * x6))))) * (((x0 * ((x4 * Z0) - (x7 * Z1))) + (x3 * ((x7 * Z0) - (x1 * Z0)))) + (x6 * ((x1 * Z1) - (x4 * Z0)))))) (h0.mono (by decide)) (h1.mono (by decide)) (h2.mono (by decide)) (h3.mono (by decide)) (h4.mono (by decide)) (h5.mono (by decide)) (h6.mono (by decide)) (h7.mono (by decide)) (h8.mono (by decide)) (h9.mono (by decide)) (h10.mono (by decide)) (h11.mono (by decide)) (m199.mono (by decide)) (m197.mono (by decide)) (m198.mono (by decide)) (m199.mono (by decide)) (m198.mono (by decide)) rfl rfl rfl rfl) rfl ?_
  simp only [fa_agg, fa_one, fa_nil, List.cons_append, List.nil_append, List.append_nil]
  have m209 : Num 29700014 (cr ((Z1 / (((x0 * ((x4 * x8) - (x5 * x7))) + (x1 * ((x5 * x6) - (x3 * x8)))) + (x2 * ((x3 * x7) - (x4 * x6))))) * (((Z0 * ((x4 * x8) - (x7 * x5))) + (Z1 * ((x7 * x2) - (x1 * x8)))) + (Z0 * ((x1 * x5) - (x4 * x2)))))) ((Z1 / (((x0 * ((x4 * x8) - (x5 * x7))) + (x1 * ((x5 * x6) - (x3 * x8)))) + (x2 * ((x3 * x7) - (x4 * x6))))) * (((Z0 * ((x4 * x8) - (x7 * x5))) + (Z1 * ((x7 * x2) - (x1 * x8)))) + (Z0 * ((x1 * x5) - (x4 * x2))))) := Num.of (Sm.mul (Sm.div m199.sm m197.sm) (Sm.add (Sm.add (Sm.mul m198.sm (Sm.sub (Sm.mul h4.sm h8.sm) (Sm.mul h7.sm h5.sm))) (Sm.mul m199.sm (Sm.sub (Sm.mul h7.sm h2.sm) (Sm.mul h1.sm h8.sm)))) (Sm.mul m198.sm (Sm.sub (Sm.mul h1.sm h5.sm) (Sm.mul h4.sm h2.sm)))))
  have m210 : Num 26400017 (cr ((Z1 / (((x0 * ((x4 * x8) - (x5 * x7))) + (x1 * ((x5 * x6) - (x3 * x8)))) + (x2 * ((x3 * x7) - (x4 * x6))))) * (((x0 * ((Z1 * x8) - (Z0 * x5))) + (x3 * ((Z0 * x2) - (Z0 * x8)))) + (x6 * ((Z0 * x5) - (Z1 * x2)))))) ((Z1 / (((x0 * ((x4 * x8) - (x5 * x7))) + (x1 * ((x5 * x6) - (x3 * x8)))) + (x2 * ((x3 * x7) - (x4 * x6))))) * (((x0 * ((Z1 * x8) - (Z0 * x5))) + (x3 * ((Z0 * x2) - (Z0 * x8)))) + (x6 * ((Z0 * x5) - (Z1 * x2))))) := Num.of (Sm.mul (Sm.div m199.sm m197.sm) (Sm.add (Sm.add (Sm.mul h0.sm (Sm.sub (Sm.mul m199.sm h8.sm) (Sm.mul m198.sm h5.sm))) (Sm.mul h3.sm (Sm.sub (Sm.mul m198.sm h2.sm) (Sm.mul m198.sm h8.sm)))) (Sm.mul h6.sm (Sm.sub (Sm.mul m198.sm h5.sm) (Sm.mul m199.sm h2.sm)))))
  have m211 : Num 26400017 (cr ((Z1 / (((x0 * ((x4 * x8) - (x5 * x7))) + (x1 * ((x5 * x6) - (x3 * x8)))) + (x2 * ((x3 * x7) - (x4 * x6))))) * (((x0 * ((x4 * Z0) - (x7 * Z1))) + (x3 * ((x7 * Z0) - (x1 * Z0)))) + (x6 * ((x1 * Z1) - (x4 * Z0)))))) ((Z1 / (((x0 * ((x4 * x8) - (x5 * x7))) + (x1 * ((x5 * x6) - (x3 * x8)))) + (x2 * ((x3 * x7) - (x4 * x6))))) * (((x0 * ((x4 * Z0) - (x7 * Z1))) + (x3 * ((x7 * Z0) - (x1 * Z0)))) + (x6 * ((x1 * Z1) - (x4 * Z0))))) := Num.of (Sm.mul (Sm.div m199.sm m197.sm) (Sm.add (Sm.add (Sm.mul h0.sm (Sm.sub (Sm.mul h4.sm m198.sm) (Sm.mul h7.sm m199.sm))) (Sm.mul h3.sm (Sm.sub (Sm.mul h7.sm m198.sm) (Sm.mul h1.sm m198.sm)))) (Sm.mul h6.sm (Sm.sub (Sm.mul h1.sm m199.sm) (Sm.mul h4.sm m198.sm)))))
  refine call_step (n_penumbraref05_Add_0 (k0 := (((Z1 / (((x0 * ((x4 * x8) - (x5 * x7))) + (x1 * ((x5 * x6) - (x3 * x8)))) + (x2 * ((x3 * x7) - (x4 * x6))))) * ((((Z0 - x9) * ((x4 * x8) - (x7 * x5))) + ((Z0 - x10) * ((x7 * x2) - (x1 * x8)))) + ((Z0 - x11) * ((x1 * x5) - (x4 * x2))))) + ((Z1 / (((x0 * ((x4 * x8) - (x5 * x7))) + (x1 * ((x5 * x6) - (x3 * x8)))) + (x2 * ((x3 * x7) - (x4 * x6))))) * (((Z0 * ((x4 * x8) - (x7 * x5))) + (Z1 * ((x7 * x2) - (x1 * x8)))) + (Z0 * ((x1 * x5) - (x4 * x2))))))) (k1 := (((Z1 / (((x0 * ((x4 * x8) - (x5 * x7))) + (x1 * ((x5 * x6) - (x3 * x8)))) + (x2 * ((x3 * x7) - (x4 * x6))))) * (((x0 * (((Z0 - x10) * x8) - ((Z0 - x11) * x5))) + (x3 * (((Z0 - x11) * x2) - ((Z0 - x9) * x8)))) + (x6 * (((Z0 - x9) * x5) - ((Z0 - x10) * x2))))) + ((Z1 / (((x0 * ((x4 * x8) - (x5 * x7))) + (x1 * ((x5 * x6) - (x3 * x8)))) + (x2 * ((x3 * x7) - (x4 * x6))))) * (((x0 * ((Z1 * x8) - (Z0 * x5))) + (x3 * ((Z0 * x2) - (Z0 * x8)))) + (x6 * ((Z0 * x5) - (Z1 * x2))))))) (k2 := (((Z1 / (((x0 * ((x4 * x8) - (x5 * x7))) + (x1 * ((x5 * x6) - (x3 * x8)))) + (x2 * ((x3 * x7) - (x4 * x6))))) * (((x0 * ((x4 * (Z0 - x11)) - (x7 * (Z0 - x10)))) + (x3 * ((x7 * (Z0 - x9)) - (x1 * (Z0 - x11))))) + (x6 * ((x1 * (Z0 - x10)) - (x4 * (Z0 - x9)))))) + ((Z1 / (((x0 * ((x4 * x8) - (x5 * x7))) + (x1 * ((x5 * x6) - (x3 * x8)))) + (x2 * ((x3 * x7) - (x4 * x6))))) * (((x0 * ((x4 * Z0) - (x7 * Z1))) + (x3 * ((x7 * Z0) - (x1 * Z0)))) + (x6 * ((x1 * Z1) - (x4 * Z0))))))) (m203.mono (by decide)) (m204.mono (by decide)) (m205.mono (by decide)) (m209.mono (by decide)) (m210.mono (by decide)) (m211.mono (by decide)) rfl rfl rfl) rfl ?_
  simp only [fa_agg, fa_one, fa_nil, List.cons_append, List.nil_append, List.append_nil]
  refine call_step (n_penumbraref05_Of (0) (0) (1) (by decide) (by decide) (by decide) (by decide) (by decide) (by decide) (Y0.trans (by decide +kernel)) (Y0.trans (by decide +kernel)) (Y1.trans (by decide +kernel))) rfl ?_
  simp only [fa_agg, fa_one, fa_nil, List.cons_append, List.nil_append, List.append_nil]
  refine call_step (n_penumbraref07_solve_0 (k0 := (Z1 / (((x0 * ((x4 * x8) - (x5 * x7))) + (x1 * ((x5 * x6) - (x3 * x8)))) + (x2 * ((x3 * x7) - (x4 * x6)))))) (k1 := ((Z1 / (((x0 * ((x4 * x8) - (x5 * x7))) + (x1 * ((x5 * x6) - (x3 * x8)))) + (x2 * ((x3 * x7) - (x4 * x6))))) * (((Z0 * ((x4 * x8) - (x7 * x5))) + (Z0 * ((x7 * x2) - (x1 * x8)))) + (Z1 * ((x1 * x5) - (x4 * x2)))))) (k2 := ((Z1 / (((x0 * ((x4 * x8) - (x5 * x7))) + (x1 * ((x5 * x6) - (x3 * x8)))) + (x2 * ((x3 * x7) - (x4 * x6))))) * (((x0 * ((Z0 * x8) - (Z1 * x5))) + (x3 * ((Z1 * x2) - (Z0 * x8)))) + (x6 * ((Z0 * x5) - (Z0 * x2)))))) (k3 := ((Z1 / (((x0 * ((x4 * x8) - (x5 * x7))) + (x1 * ((x5 * x6) - (x3 * x8)))) + (x2 * ((x3 * x7) - (x4 * x6))))) * (((x0 * ((x4 * Z1) - (x7 * Z0))) + (x3 * ((x7 * Z0) - (x1 * Z1)))) + (x6 * ((x1 * Z0) - (x4 * Z0)))))) (h0.mono (by decide)) (h1.mono (by decide)) (h2.mono (by decide)) (h3.mono (by decide)) (h4.mono (by decide)) (h5.mono (by decide)) (h6.mono (by decide)) (h7.mono (by decide)) (h8.mono (by decide)) (h9.mono (by decide)) (h10.mono (by decide)) (h11.mono (by decide)) (m199.mono (by decide)) (m197.mono (by decide)) (m198.mono (by decide)) (m198.mono (by decide)) (m199.mono (by decide)) rfl rfl rfl rfl) rfl ?_
  simp only [fa_agg, fa_one, fa_nil, List.cons_append, List.nil_append, List.append_nil]
  have m212 : Num 29700014 (cr ((Z1 / (((x0 * ((x4 * x8) - (x5 * x7))) + (x1 * ((x5 * x6) - (x3 * x8)))) + (x2 * ((x3 * x7) - (x4 * x6))))) * (((Z0 * ((x4 * x8) - (x7 * x5))) + (Z0 * ((x7 * x2) - (x1 * x8)))) + (Z1 * ((x1 * x5) - (x4 * x2)))))) ((Z1 / (((x0 * ((x4 * x8) - (x5 * x7))) + (x1 * ((x5 * x6) - (x3 * x8)))) + (x2 * ((x3 * x7) - (x4 * x6))))) * (((Z0 * ((x4 * x8) - (x7 * x5))) + (Z0 * ((x7 * x2) - (x1 * x8)))) + (Z1 * ((x1 * x5) - (x4 * x2))))) := Num.of (Sm.mul (Sm.div m199.sm m197.sm) (Sm.add (Sm.add (Sm.mul m198.sm (Sm.sub (Sm.mul h4.sm h8.sm) (Sm.mul h7.sm h5.sm))) (Sm.mul m198.sm (Sm.sub (Sm.mul h7.sm h2.sm) (Sm.mul h1.sm h8.sm)))) (Sm.mul m199.sm (Sm.sub (Sm.mul h1.sm h5.sm) (Sm.mul h4.sm h2.sm)))))
  have m213 : Num 26400017 (cr ((Z1 / (((x0 * ((x4 * x8) - (x5 * x7))) + (x1 * ((x5 * x6) - (x3 * x8)))) + (x2 * ((x3 * x7) - (x4 * x6))))) * (((x0 * ((Z0 * x8) - (Z1 * x5))) + (x3 * ((Z1 * x2) - (Z0 * x8)))) + (x6 * ((Z0 * x5) - (Z0 * x2)))))) ((Z1 / (((x0 * ((x4 * x8) - (x5 * x7))) + (x1 * ((x5 * x6) - (x3 * x8)))) + (x2 * ((x3 * x7) - (x4 * x6))))) * (((x0 * ((Z0 * x8) - (Z1 * x5))) + (x3 * ((Z1 * x2) - (Z0 * x8)))) + (x6 * ((Z0 * x5) - (Z0 * x2))))) := Num.of (Sm.mul (Sm.div m199.sm m197.sm) (Sm.add (Sm.add (Sm.mul h0.sm (Sm.sub (Sm.mul m198.sm h8.sm) (Sm.mul m199.sm h5.sm))) (Sm.mul h3.sm (Sm.sub (Sm.mul m199.sm h2.sm) (Sm.mul m198.sm h8.sm)))) (Sm.mul h6.sm (Sm.sub (Sm.mul m198.sm h5.sm) (Sm.mul m198.sm h2.sm)))))
  have m214 : Num 26400017 (cr ((Z1 / (((x0 * ((x4 * x8) - (x5 * x7))) + (x1 * ((x5 * x6) - (x3 * x8)))) + (x2 * ((x3 * x7) - (x4 * x6))))) * (((x0 * ((x4 * Z1) - (x7 * Z0))) + (x3 * ((x7 * Z0) - (x1 * Z1)))) + (x6 * ((x1 * Z0) - (x4 * Z0)))))) ((Z1 / (((x0 * ((x4 * x8) - (x5 * x7))) + (x1 * ((x5 * x6) - (x3 * x8)))) + (x2 * ((x3 * x7) - (x4 * x6))))) * (((x0 * ((x4 * Z1) - (x7 * Z0))) + (x3 * ((x7 * Z0) - (x1 * Z1)))) + (x6 * ((x1 * Z0) - (x4 * Z0))))) := Num.of (Sm.mul (Sm.div m199.sm m197.sm) (Sm.add (Sm.add (Sm.mul h0.sm (Sm.sub (Sm.mul h4.sm m199.sm) (Sm.mul h7.sm m198.sm))) (Sm.mul h3.sm (Sm.sub (Sm.mul h7.sm m198.sm) (Sm.mul h1.sm m199.sm)))) (Sm.mul h6.sm (Sm.sub (Sm.mul h1.sm m198.sm) (Sm.mul h4.sm m198.sm)))))
  refine call_step (n_penumbraref05_Add_0 (k0 := (((Z1 / (((x0 * ((x4 * x8) - (x5 * x7))) + (x1 * ((x5 * x6) - (x3 * x8)))) + (x2 * ((x3 * x7) - (x4 * x6))))) * ((((Z0 - x9) * ((x4 * x8) - (x7 * x5))) + ((Z0 - x10) * ((x7 * x2) - (x1 * x8)))) + ((Z0 - x11) * ((x1 * x5) - (x4 * x2))))) + ((Z1 / (((x0 * ((x4 * x8) - (x5 * x7))) + (x1 * ((x5 * x6) - (x3 * x8)))) + (x2 * ((x3 * x7) - (x4 * x6))))) * (((Z0 * ((x4 * x8) - (x7 * x5))) + (Z0 * ((x7 * x2) - (x1 * x8)))) + (Z1 * ((x1 * x5) - (x4 * x2))))))) (k1 := (((Z1 / (((x0 * ((x4 * x8) - (x5 * x7))) + (x1 * ((x5 * x6) - (x3 * x8)))) + (x2 * ((x3 * x7) - (x4 * x6))))) * (((x0 * (((Z0 - x10) * x8) - ((Z0 - x11) * x5))) + (x3 * (((Z0 - x11) * x2) - ((Z0 - x9) * x8)))) + (x6 * (((Z0 - x9) * x5) - ((Z0 - x10) * x2))))) + ((Z1 / (((x0 * ((x4 * x8) - (x5 * x7))) + (x1 * ((x5 * x6) - (x3 * x8)))) + (x2 * ((x3 * x7) - (x4 * x6))))) * (((x0 * ((Z0 * x8) - (Z1 * x5))) + (x3 * ((Z1 * x2) - (Z0 * x8)))) + (x6 * ((Z0 * x5) - (Z0 * x2))))))) (k2 := (((Z1 / (((x0 * ((x4 * x8) - (x5 * x7))) + (x1 * ((x5 * x6) - (x3 * x8)))) + (x2 * ((x3 * x7) - (x4 * x6))))) * (((x0 * ((x4 * (Z0 - x11)) - (x7 * (Z0 - x10)))) + (x3 * ((x7 * (Z0 - x9)) - (x1 * (Z0 - x11))))) + (x6 * ((x1 * (Z0 - x10)) - (x4 * (Z0 - x9)))))) + ((Z1 / (((x0 * ((x4 * x8) - (x5 * x7))) + (x1 * ((x5 * x6) - (x3 * x8)))) + (x2 * ((x3 * x7) - (x4 * x6))))) * (((x0 * ((x4 * Z1) - (x7 * Z0))) + (x3 * ((x7 * Z0) - (x1 * Z1)))) + (x6 * ((x1 * Z0) - (x4 * Z0))))))) (m203.mono (by decide)) (m204.mono (by decide)) (m205.mono (by decide)) (m212.mono (by decide)) (m213.mono (by decide)) (m214.mono (by decide)) rfl rfl rfl) rfl ?_
  simp only [fa_agg, fa_one, fa_nil, List.cons_append, List.nil_append, List.append_nil]
  have m215 : Num 62700032 (cr (((Z1 / (((x0 * ((x4 * x8) - (x5 * x7))) + (x1 * ((x5 * x6) - (x3 * x8)))) + (x2 * ((x3 * x7) - (x4 * x6))))) * ((((Z0 - x9) * ((x4 * x8) - (x7 * x5))) + ((Z0 - x10) * ((x7 * x2) - (x1 * x8)))) + ((Z0 - x11) * ((x1 * x5) - (x4 * x2))))) + ((Z1 / (((x0 * ((x4 * x8) - (x5 * x7))) + (x1 * ((x5 * x6) - (x3 * x8)))) + (x2 * ((x3 * x7) - (x4 * x6))))) * (((Z1 * ((x4 * x8) - (x7 * x5))) + (Z0 * ((x7 * x2) - (x1 * x8)))) + (Z0 * ((x1 * x5) - (x4 * x2))))))) (((Z1 / (((x0 * ((x4 * x8) - (x5 * x7))) + (x1 * ((x5 * x6) - (x3 * x8)))) + (x2 * ((x3 * x7) - (x4 * x6))))) * ((((Z0 - x9) * ((x4 * x8) - (x7 * x5))) + ((Z0 - x10) * ((x7 * x2) - (x1 * x8)))) + ((Z0 - x11) * ((x1 * x5) - (x4 * x2))))) + ((Z1 / (((x0 * ((x4 * x8) - (x5 * x7))) + (x1 * ((x5 * x6) - (x3 * x8)))) + (x2 * ((x3 * x7) - (x4 * x6))))) * (((Z1 * ((x4 * x8) - (x7 * x5))) + (Z0 * ((x7 * x2) - (x1 * x8)))) + (Z0 * ((x1 * x5) - (x4 * x2)))))) := Num.of (Sm.add m203.sm m206.sm)
  have m216 : Num 59400041 (cr (((Z1 / (((x0 * ((x4 * x8) - (x5 * x7))) + (x1 * ((x5 * x6) - (x3 * x8)))) + (x2 * ((x3 * x7) - (x4 * x6))))) * (((x0 * (((Z0 - x10) * x8) - ((Z0 - x11) * x5))) + (x3 * (((Z0 - x11) * x2) - ((Z0 - x9) * x8)))) + (x6 * (((Z0 - x9) * x5) - ((Z0 - x10) * x2))))) + ((Z1 / (((x0 * ((x4 * x8) - (x5 * x7))) + (x1 * ((x5 * x6) - (x3 * x8)))) + (x2 * ((x3 * x7) - (x4 * x6))))) * (((x0 * ((Z0 * x8) - (Z0 * x5))) + (x3 * ((Z0 * x2) - (Z1 * x8)))) + (x6 * ((Z1 * x5) - (Z0 * x2))))))) (((Z1 / (((x0 * ((x4 * x8) - (x5 * x7))) + (x1 * ((x5 * x6) - (x3 * x8)))) + (x2 * ((x3 * x7) - (x4 * x6))))) * (((x0 * (((Z0 - x10) * x8) - ((Z0 - x11) * x5))) + (x3 * (((Z0 - x11) * x2) - ((Z0 - x9) * x8)))) + (x6 * (((Z0 - x9) * x5) - ((Z0 - x10) * x2))))) + ((Z1 / (((x0 * ((x4 * x8) - (x5 * x7))) + (x1 * ((x5 * x6) - (x3 * x8)))) + (x2 * ((x3 * x7) - (x4 * x6))))) * (((x0 * ((Z0 * x8) - (Z0 * x5))) + (x3 * ((Z0 * x2) - (Z1 * x8)))) + (x6 * ((Z1 * x5) - (Z0 * x2)))))) := Num.of (Sm.add m204.sm m207.sm)
  have m217 : Num 59400041 (cr (((Z1 / (((x0 * ((x4 * x8) - (x5 * x7))) + (x1 * ((x5 * x6) - (x3 * x8)))) + (x2 * ((x3 * x7) - (x4 * x6))))) * (((x0 * ((x4 * (Z0 - x11)) - (x7 * (Z0 - x10)))) + (x3 * ((x7 * (Z0 - x9)) - (x1 * (Z0 - x11))))) + (x6 * ((x1 * (Z0 - x10)) - (x4 * (Z0 - x9)))))) + ((Z1 / (((x0 * ((x4 * x8) - (x5 * x7))) + (x1 * ((x5 * x6) - (x3 * x8)))) + (x2 * ((x3 * x7) - (x4 * x6))))) * (((x0 * ((x4 * Z0) - (x7 * Z0))) + (x3 * ((x7 * Z1) - (x1 * Z0)))) + (x6 * ((x1 * Z0) - (x4 * Z1))))))) (((Z1 / (((x0 * ((x4 * x8) - (x5 * x7))) + (x1 * ((x5 * x6) - (x3 * x8)))) + (x2 * ((x3 * x7) - (x4 * x6))))) * (((x0 * ((x4 * (Z0 - x11)) - (x7 * (Z0 - x10)))) + (x3 * ((x7 * (Z0 - x9)) - (x1 * (Z0 - x11))))) + (x6 * ((x1 * (Z0 - x10)) - (x4 * (Z0 - x9)))))) + ((Z1 / (((x0 * ((x4 * x8) - (x5 * x7))) + (x1 * ((x5 * x6) - (x3 * x8)))) + (x2 * ((x3 * x7) - (x4 * x6))))) * (((x0 * ((x4 * Z0) - (x7 * Z0))) + (x3 * ((x7 * Z1) - (x1 * Z0)))) + (x6 * ((x1 * Z0) - (x4 * Z1)))))) := Num.of (Sm.add m205.sm m208.sm)
  have m218 : Num 62700032 (cr (((Z1 / (((x0 * ((x4 * x8) - (x5 * x7))) + (x1 * ((x5 * x6) - (x3 * x8)))) + (x2 * ((x3 * x7) - (x4 * x6))))) * ((((Z0 - x9) * ((x4 * x8) - (x7 * x5))) + ((Z0 - x10) * ((x7 * x2) - (x1 * x8)))) + ((Z0 - x11) * ((x1 * x5) - (x4 * x2))))) + ((Z1 / (((x0 * ((x4 * x8) - (x5 * x7))) + (x1 * ((x5 * x6) - (x3 * x8)))) + (x2 * ((x3 * x7) - (x4 * x6))))) * (((Z0 * ((x4 * x8) - (x7 * x5))) + (Z1 * ((x7 * x2) - (x1 * x8)))) + (Z0 * ((x1 * x5) - (x4 * x2))))))) (((Z1 / (((x0 * ((x4 * x8) - (x5 * x7))) + (x1 * ((x5 * x6) - (x3 * x8)))) + (x2 * ((x3 * x7) - (x4 * x6))))) * ((((Z0 - x9) * ((x4 * x8) - (x7 * x5))) + ((Z0 - x10) * ((x7 * x2) - (x1 * x8)))) + ((Z0 - x11) * ((x1 * x5) - (x4 * x2))))) + ((Z1 / (((x0 * ((x4 * x8) - (x5 * x7))) + (x1 * ((x5 * x6) - (x3 * x8)))) + (x2 * ((x3 * x7) - (x4 * x6))))) * (((Z0 * ((x4 * x8) - (x7 * x5))) + (Z1 * ((x7 * x2) - (x1 * x8)))) + (Z0 * ((x1 * x5) - (x4 * x2)))))) := Num.of (Sm.add m203.sm m209.sm)
  have m219 : Num 59400041 (cr (((Z1 / (((x0 * ((x4 * x8) - (x5 * x7))) + (x1 * ((x5 * x6) - (x3 * x8)))) + (x2 * ((x3 * x7) - (x4 * x6))))) * (((x0 * (((Z0 - x10) * x8) - ((Z0 - x11) * x5))) + (x3 * (((Z0 - x11) * x2) - ((Z0 - x9) * x8)))) + (x6 * (((Z0 - x9) * x5) - ((Z0 - x10) * x2))))) + ((Z1 / (((x0 * ((x4 * x8) - (x5 * x7))) + (x1 * ((x5 * x6) - (x3 * x8)))) + (x2 * ((x3 * x7) - (x4 * x6))))) * (((x0 * ((Z1 * x8) - (Z0 * x5))) + (x3 * ((Z0 * x2) - (Z0 * x8)))) + (x6 * ((Z0 * x5) - (Z1 * x2))))))) (((Z1 / (((x0 * ((x4 * x8) - (x5 * x7))) + (x1 * ((x5 * x6) - (x3 * x8)))) + (x2 * ((x3 * x7) - (x4 * x6))))) * (((x0 * (((Z0 - x10) * x8) - ((Z0 - x11) * x5))) + (x3 * (((Z0 - x11) * x2) - ((Z0 - x9) * x8)))) + (x6 * (((Z0 - x9) * x5) - ((Z0 - x10) * x2))))) + ((Z1 / (((x0 * ((x4 * x8) - (x5 * x7))) + (x1 * ((x5 * x6) - (x3 * x8)))) + (x2 * ((x3 * x7) - (x4 * x6))))) * (((x0 * ((Z1 * x8) - (Z0 * x5))) + (x3 * ((Z0 * x2) - (Z0 * x8)))) + (x6 * ((Z0 * x5) - (Z1 * x2)))))) := Num.of (Sm.add m204.sm m210.sm)
  have m220 : Num 59400041 (cr (((Z1 / (((x0 * ((x4 * x8) - (x5 * x7))) + (x1 * ((x5 * x6) - (x3 * x8)))) + (x2 * ((x3 * x7) - (x4 * x6))))) * (((x0 * ((x4 * (Z0 - x11)) - (x7 * (Z0 - x10)))) + (x3 * ((x7 * (Z0 - x9)) - (x1 * (Z0 - x11))))) + (x6 * ((x1 * (Z0 - x10)) - (x4 * (Z0 - x9)))))) + ((Z1 / (((x0 * ((x4 * x8) - (x5 * x7))) + (x1 * ((x5 * x6) - (x3 * x8)))) + (x2 * ((x3 * x7) - (x4 * x6))))) * (((x0 * ((x4 * Z0) - (x7 * Z1))) + (x3 * ((x7 * Z0) - (x1 * Z0)))) + (x6 * ((x1 * Z1) - (x4 * Z0))))))) (((Z1 / (((x0 * ((x4 * x8) - (x5 * x7))) + (x1 * ((x5 * x6) - (x3 * x8)))) + (x2 * ((x3 * x7) - (x4 * x6))))) * (((x0 * ((x4 * (Z0 - x11)) - (x7 * (Z0 - x10)))) + (x3 * ((x7 * (Z0 - x9)) - (x1 * (Z0 - x11))))) + (x6 * ((x1 * (Z0 - x10)) - (x4 * (Z0 - x9)))))) + ((Z1 / (((x0 * ((x4 * x8) - (x5 * x7))) + (x1 * ((x5 * x6) - (x3 * x8)))) + (x2 * ((x3 * x7) - (x4 * x6))))) * (((x0 * ((x4 * Z0) - (x7 * Z1))) + (x3 * ((x7 * Z0) - (x1 * Z0)))) + (x6 * ((x1 * Z1) - (x4 * Z0)))))) := Num.of (Sm.add m205.sm m211.sm)
  have m221 : Num 62700032 (cr (((Z1 / (((x0 * ((x4 * x8) - (x5 * x7))) + (x1 * ((x5 * x6) - (x3 * x8)))) + (x2 * ((x3 * x7) - (x4 * x6))))) * ((((Z0 - x9) * ((x4 * x8) - (x7 * x5))) + ((Z0 - x10) * ((x7 * x2) - (x1 * x8)))) + ((Z0 - x11) * ((x1 * x5) - (x4 * x2))))) + ((Z1 / (((x0 * ((x4 * x8) - (x5 * x7))) + (x1 * ((x5 * x6) - (x3 * x8)))) + (x2 * ((x3 * x7) - (x4 * x6))))) * (((Z0 * ((x4 * x8) - (x7 * x5))) + (Z0 * ((x7 * x2) - (x1 * x8)))) + (Z1 * ((x1 * x5) - (x4 * x2))))))) (((Z1 / (((x0 * ((x4 * x8) - (x5 * x7))) + (x1 * ((x5 * x6) - (x3 * x8)))) + (x2 * ((x3 * x7) - (x4 * x6))))) * ((((Z0 - x9) * ((x4 * x8) - (x7 * x5))) + ((Z0 - x10) * ((x7 * x2) - (x1 * x8)))) + ((Z0 - x11) * ((x1 * x5) - (x4 * x2))))) + ((Z1 / (((x0 * ((x4 * x8) - (x5 * x7))) + (x1 * ((x5 * x6) - (x3 * x8)))) + (x2 * ((x3 * x7) - (x4 * x6))))) * (((Z0 * ((x4 * x8) - (x7 * x5))) + (Z0 * ((x7 * x2) - (x1 * x8)))) + (Z1 * ((x1 * x5) - (x4 * x2)))))) := Num.of (Sm.add m203.sm m212.sm)
  have m222 : Num 59400041 (cr (((Z1 / (((x0 * ((x4 * x8) - (x5 * x7))) + (x1 * ((x5 * x6) - (x3 * x8)))) + (x2 * ((x3 * x7) - (x4 * x6))))) * (((x0 * (((Z0 - x10) * x8) - ((Z0 - x11) * x5))) + (x3 * (((Z0 - x11) * x2) - ((Z0 - x9) * x8)))) + (x6 * (((Z0 - x9) * x5) - ((Z0 - x10) * x2))))) + ((Z1 / (((x0 * ((x4 * x8) - (x5 * x7))) + (x1 * ((x5 * x6) - (x3 * x8)))) + (x2 * ((x3 * x7) - (x4 * x6))))) * (((x0 * ((Z0 * x8) - (Z1 * x5))) + (x3 * ((Z1 * x2) - (Z0 * x8)))) + (x6 * ((Z0 * x5) - (Z0 * x2))))))) (((Z1 / (((x0 * ((x4 * x8) - (x5 * x7))) + (x1 * ((x5 * x6) - (x3 * x8)))) + (x2 * ((x3 * x7) - (x4 * x6))))) * (((x0 * (((Z0 - x10) * x8) - ((Z0 - x11) * x5))) + (x3 * (((Z0 - x11) * x2) - ((Z0 - x9) * x8)))) + (x6 * (((Z0 - x9) * x5) - ((Z0 - x10) * x2))))) + ((Z1 / (((x0 * ((x4 * x8) - (x5 * x7))) + (x1 * ((x5 * x6) - (x3 * x8)))) + (x2 * ((x3 * x7) - (x4 * x6))))) * (((x0 * ((Z0 * x8) - (Z1 * x5))) + (x3 * ((Z1 * x2) - (Z0 * x8)))) + (x6 * ((Z0 * x5) - (Z0 * x2)))))) := Num.of (Sm.add m204.sm m213.sm)
  have m223 : Num 59400041 (cr (((Z1 / (((x0 * ((x4 * x8) - (x5 * x7))) + (x1 * ((x5 * x6) - (x3 * x8)))) + (x2 * ((x3 * x7) - (x4 * x6))))) * (((x0 * ((x4 * (Z0 - x11)) - (x7 * (Z0 - x10)))) + (x3 * ((x7 * (Z0 - x9)) - (x1 * (Z0 - x11))))) + (x6 * ((x1 * (Z0 - x10)) - (x4 * (Z0 - x9)))))) + ((Z1 / (((x0 * ((x4 * x8) - (x5 * x7))) + (x1 * ((x5 * x6) - (x3 * x8)))) + (x2 * ((x3 * x7) - (x4 * x6))))) * (((x0 * ((x4 * Z1) - (x7 * Z0))) + (x3 * ((x7 * Z0) - (x1 * Z1)))) + (x6 * ((x1 * Z0) - (x4 * Z0))))))) (((Z1 / (((x0 * ((x4 * x8) - (x5 * x7))) + (x1 * ((x5 * x6) - (x3 * x8)))) + (x2 * ((x3 * x7) - (x4 * x6))))) * (((x0 * ((x4 * (Z0 - x11)) - (x7 * (Z0 - x10)))) + (x3 * ((x7 * (Z0 - x9)) - (x1 * (Z0 - x11))))) + (x6 * ((x1 * (Z0 - x10)) - (x4 * (Z0 - x9)))))) + ((Z1 / (((x0 * ((x4 * x8) - (x5 * x7))) + (x1 * ((x5 * x6) - (x3 * x8)))) + (x2 * ((x3 * x7) - (x4 * x6))))) * (((x0 * ((x4 * Z1) - (x7 * Z0))) + (x3 * ((x7 * Z0) - (x1 * Z1)))) + (x6 * ((x1 * Z0) - (x4 * Z0)))))) := Num.of (Sm.add m205.sm m214.sm)
  refine call_step (n_penumbraref07_Told_0 (k0 := ((((Z1 / (((x0 * ((x4 * x8) - (x5 * x7))) + (x1 * ((x5 * x6) - (x3 * x8)))) + (x2 * ((x3 * x7) - (x4 * x6))))) * ((((Z0 - x9) * ((x4 * x8) - (x7 * x5))) + ((Z0 - x10) * ((x7 * x2) - (x1 * x8)))) + ((Z0 - x11) * ((x1 * x5) - (x4 * x2))))) + ((Z1 / (((x0 * ((x4 * x8) - (x5 * x7))) + (x1 * ((x5 * x6) - (x3 * x8)))) + (x2 * ((x3 * x7) - (x4 * x6))))) * (((Z1 * ((x4 * x8) - (x7 * x5))) + (Z0 * ((x7 * x2) - (x1 * x8)))) + (Z0 * ((x1 * x5) - (x4 * x2)))))) - ((Z1 / (((x0 * ((x4 * x8) - (x5 * x7))) + (x1 * ((x5 * x6) - (x3 * x8)))) + (x2 * ((x3 * x7) - (x4 * x6))))) * ((((Z0 - x9) * ((x4 * x8) - (x7 * x5))) + ((Z0 - x10) * ((x7 * x2) - (x1 * x8)))) + ((Z0 - x11) * ((x1 * x5) - (x4 * x2))))))) (k1 := ((((Z1 / (((x0 * ((x4 * x8) - (x5 * x7))) + (x1 * ((x5 * x6) - (x3 * x8)))) + (x2 * ((x3 * x7) - (x4 * x6))))) * ((((Z0 - x9) * ((x4 * x8) - (x7 * x5))) + ((Z0 - x10) * ((x7 * x2) - (x1 * x8)))) + ((Z0 - x11) * ((x1 * x5) - (x4 * x2))))) + ((Z1 / (((x0 * ((x4 * x8) - (x5 * x7))) + (x1 * ((x5 * x6) - (x3 * x8)))) + (x2 * ((x3 * x7) - (x4 * x6))))) * (((Z0 * ((x4 * x8) - (x7 * x5))) + (Z1 * ((x7 * x2) - (x1 * x8)))) + (Z0 * ((x1 * x5) - (x4 * x2)))))) - ((Z1 / (((x0 * ((x4 * x8) - (x5 * x7))) + (x1 * ((x5 * x6) - (x3 * x8)))) + (x2 * ((x3 * x7) - (x4 * x6))))) * ((((Z0 - x9) * ((x4 * x8) - (x7 * x5))) + ((Z0 - x10) * ((x7 * x2) - (x1 * x8)))) + ((Z0 - x11) * ((x1 * x5) - (x4 * x2))))))) (k2 := ((((Z1 / (((x0 * ((x4 * x8) - (x5 * x7))) + (x1 * ((x5 * x6) - (x3 * x8)))) + (x2 * ((x3 * x7) - (x4 * x6))))) * ((((Z0 - x9) * ((x4 * x8) - (x7 * x5))) + ((Z0 - x10) * ((x7 * x2) - (x1 * x8)))) + ((Z0 - x11) * ((x1 * x5) - (x4 * x2))))) + ((Z1 / (((x0 * ((x4 * x8) - (x5 * x7))) + (x1 * ((x5 * x6) - (x3 * x8)))) + (x2 * ((x3 * x7) - (x4 * x6))))) * (((Z0 * ((x4 * x8) - (x7 * x5))) + (Z0 * ((x7 * x2) - (x1 * x8)))) + (Z1 * ((x1 * x5) - (x4 * x2)))))) - ((Z1 / (((x0 * ((x4 * x8) - (x5 * x7))) + (x1 * ((x5 * x6) - (x3 * x8)))) + (x2 * ((x3 * x7) - (x4 * x6))))) * ((((Z0 - x9) * ((x4 * x8) - (x7 * x5))) + ((Z0 - x10) * ((x7 * x2) - (x1 * x8)))) + ((Z0 - x11) * ((x1 * x5) - (x4 * x2))))))) (k3 := ((((Z1 / (((x0 * ((x4 * x8) - (x5 * x7))) + (x1 * ((x5 * x6) - (x3 * x8)))) + (x2 * ((x3 * x7) - (x4 * x6))))) * (((x0 * (((Z0 - x10) * x8) - ((Z0 - x11) * x5))) + (x3 * (((Z0 - x11) * x2) - ((Z0 - x9) * x8)))) + (x6 * (((Z0 - x9) * x5) - ((Z0 - x10) * x2))))) + ((Z1 / (((x0 * ((x4 * x8) - (x5 * x7))) + (x1 * ((x5 * x6) - (x3 * x8)))) + (x2 * ((x3 * x7) - (x4 * x6))))) * (((x0 * ((Z0 * x8) - (Z0 * x5))) + (x3 * ((Z0 * x2) - (Z1 * x8)))) + (x6 * ((Z1 * x5) - (Z0 * x2)))))) - ((Z1 / (((x0 * ((x4 * x8) - (x5 * x7))) + (x1 * ((x5 * x6) - (x3 * x8)))) + (x2 * ((x3 * x7) - (x4 * x6))))) * (((x0 * (((Z0 - x10) * x8) - ((Z0 - x11) * x5))) + (x3 * (((Z0 - x11) * x2) - ((Z0 - x9) * x8)))) + (x6 * (((Z0 - x9) * x5) - ((Z0 - x10) * x2))))))) (k4 := ((((Z1 / (((x0 * ((x4 * x8) - (x5 * x7))) + (x1 * ((x5 * x6) - (x3 * x8)))) + (x2 * ((x3 * x7) - (x4 * x6))))) * (((x0 * (((Z0 - x10) * x8) - ((Z0 - x11) * x5))) + (x3 * (((Z0 - x11) * x2) - ((Z0 - x9) * x8)))) + (x6 * (((Z0 - x9) * x5) - ((Z0 - x10) * x2))))) + ((Z1 / (((x0 * ((x4 * x8) - (x5 * x7))) + (x1 * ((x5 * x6) - (x3 * x8)))) + (x2 * ((x3 * x7) - (x4 * x6))))) * (((x0 * ((Z1 * x8) - (Z0 * x5))) + (x3 * ((Z0 * x2) - (Z0 * x8)))) + (x6 * ((Z0 * x5) - (Z1 * x2)))))) - ((Z1 / (((x0 * ((x4 * x8) - (x5 * x7))) + (x1 * ((x5 * x6) - (x3 * x8)))) + (x2 * ((x3 * x7) - (x4 * x6))))) * (((x0 * (((Z0 - x10) * x8) - ((Z0 - x11) * x5))) + (x3 * (((Z0 - x11) * x2) - ((Z0 - x9) * x8)))) + (x6 * (((Z0 - x9) * x5) - ((Z0 - x10) * x2))))))) (k5 := ((((Z1 / (((x0 * ((x4 * x8) - (x5 * x7))) + (x1 * ((x5 * x6) - (x3 * x8)))) + (x2 * ((x3 * x7) - (x4 * x6))))) * (((x0 * (((Z0 - x10) * x8) - ((Z0 - x11) * x5))) + (x3 * (((Z0 - x11) * x2) - ((Z0 - x9) * x8)))) + (x6 * (((Z0 - x9) * x5) - ((Z0 - x10) * x2))))) + ((Z1 / (((x0 * ((x4 * x8) - (x5 * x7))) + (x1 * ((x5 * x6) - (x3 * x8)))) + (x2 * ((x3 * x7) - (x4 * x6))))) * (((x0 * ((Z0 * x8) - (Z1 * x5))) + (x3 * ((Z1 * x2) - (Z0 * x8)))) + (x6 * ((Z0 * x5) - (Z0 * x2)))))) - ((Z1 / (((x0 * ((x4 * x8) - (x5 * x7))) + (x1 * ((x5 * x6) - (x3 * x8)))) + (x2 * ((x3 * x7) - (x4 * x6))))) * (((x0 * (((Z0 - x10) * x8) - ((Z0 - x11) * x5))) + (x3 * (((Z0 - x11) * x2) - ((Z0 - x9) * x8)))) + (x6 * (((Z0 - x9) * x5) - ((Z0 - x10) * x2))))))) (k6 := ((((Z1 / (((x0 * ((x4 * x8) - (x5 * x7))) + (x1 * ((x5 * x6) - (x3 * x8)))) + (x2 * ((x3 * x7) - (x4 * x6))))) * (((x0 * ((x4 * (Z0 - x11)) - (x7 * (Z0 - x10)))) + (x3 * ((x7 * (Z0 - x9)) - (x1 * (Z0 - x11))))) + (x6 * ((x1 * (Z0 - x10)) - (x4 * (Z0 - x9)))))) + ((Z1 / (((x0 * ((x4 * x8) - (x5 * x7))) + (x1 * ((x5 * x6) - (x3 * x8)))) + (x2 * ((x3 * x7) - (x4 * x6))))) * (((x0 * ((x4 * Z0) - (x7 * Z0))) + (x3 * ((x7 * Z1) - (x1 * Z0)))) + (x6 * ((x1 * Z0) - (x4 * Z1)))))) - ((Z1 / (((x0 * ((x4 * x8) - (x5 * x7))) + (x1 * ((x5 * x6) - (x3 * x8)))) + (x2 * ((x3 * x7) - (x4 * x6))))) * (((x0 * ((x4 * (Z0 - x11)) - (x7 * (Z0 - x10)))) + (x3 * ((x7 * (Z0 - x9)) - (x1 * (Z0 - x11))))) + (x6 * ((x1 * (Z0 - x10)) - (x4 * (Z0 - x9)))))))) (k7 := ((((Z1 / (((x0 * ((x4 * x8) - (x5 * x7))) + (x1 * ((x5 * x6) - (x3 * x8)))) + (x2 * ((x3 * x7) - (x4 * x6))))) * (((x0 * ((x4 * (Z0 - x11)) - (x7 * (Z0 - x10)))) + (x3 * ((x7 * (Z0 - x9)) - (x1 * (Z0 - x11))))) + (x6 * ((x1 * (Z0 - x10)) - (x4 * (Z0 - x9)))))) + ((Z1 / (((x0 * ((x4 * x8) - (x5 * x7))) + (x1 * ((x5 * x6) - (x3 * x8)))) + (x2 * ((x3 * x7) - (x4 * x6))))) * (((x0 * ((x4 * Z0) - (x7 * Z1))) + (x3 * ((x7 * Z0) - (x1 * Z0)))) + (x6 * ((x1 * Z1) - (x4 * Z0)))))) - ((Z1 / (((x0 * ((x4 * x8) - (x5 * x7))) + (x1 * ((x5 * x6) - (x3 * x8)))) + (x2 * ((x3 * x7) - (x4 * x6))))) * (((x0 * ((x4 * (Z0 - x11)) - (x7 * (Z0 - x10)))) + (x3 * ((x7 * (Z0 - x9)) - (x1 * (Z0 - x11))))) + (x6 * ((x1 * (Z0 - x10)) - (x4 * (Z0 - x9)))))))) (k8 := ((((Z1 / (((x0 * ((x4 * x8) - (x5 * x7))) + (x1 * ((x5 * x6) - (x3 * x8)))) + (x2 * ((x3 * x7) - (x4 * x6))))) * (((x0 * ((x4 * (Z0 - x11)) - (x7 * (Z0 - x10)))) + (x3 * ((x7 * (Z0 - x9)) - (x1 * (Z0 - x11))))) + (x6 * ((x1 * (Z0 - x10)) - (x4 * (Z0 - x9)))))) + ((Z1 / (((x0 * ((x4 * x8) - (x5 * x7))) + (x1 * ((x5 * x6) - (x3 * x8)))) + (x2 * ((x3 * x7) - (x4 * x6))))) * (((x0 * ((x4 * Z1) - (x7 * Z0))) + (x3 * ((x7 * Z0) - (x1 * Z1)))) + (x6 * ((x1 * Z0) - (x4 * Z0)))))) - ((Z1 / (((x0 * ((x4 * x8) - (x5 * x7))) + (x1 * ((x5 * x6) - (x3 * x8)))) + (x2 * ((x3 * x7) - (x4 * x6))))) * (((x0 * ((x4 * (Z0 - x11)) - (x7 * (Z0 - x10)))) + (x3 * ((x7 * (Z0 - x9)) - (x1 * (Z0 - x11))))) + (x6 * ((x1 * (Z0 - x10)) - (x4 * (Z0 - x9)))))))) (m203.mono (by decide)) (m204.mono (by decide)) (m205.mono (by decide)) (m215.mono (by decide)) (m216.mono (by decide)) (m217.mono (by decide)) (m218.mono (by decide)) (m219.mono (by decide)) (m220.mono (by decide)) (m221.mono (by decide)) (m222.mono (by decide)) (m223.mono (by decide)) rfl rfl rfl rfl rfl rfl rfl rfl rfl) rfl ?_
  simp only [fa_agg, fa_one, fa_nil, List.cons_append, List.nil_append, List.append_nil]
  exact ret_step rfl

theorem n_affine_Stretch_0 {Z0 Z1 : Rat} (Y0 : Z0 = (0 : Rat)) (Y1 : Z1 = (1 : Rat)) {r0 r1 r2 r3 r4 r5 r6 : RR} {x0 x1 x2 x3 x4 x5 x6 : Rat} {k0 k1 k2 k3 k4 k5 k6 k7 k8 k9 k10 k11 : Rat} (h0 : Num 900000000 r0 x0) (h1 : Num 900000000 r1 x1) (h2 : Num 900000000 r2 x2) (h3 : Num 900000000 r3 x3) (h4 : Num 900000000 r4 x4) (h5 : Num 900000000 r5 x5) (h6 : Num 900000000 r6 x6) (e0 : k0 = (Z1 + (((x6 - Z1) * x3) * x3))) (e1 : k1 = (Z0 + (((x6 - Z1) * x3) * x4))) (e2 : k2 = (Z0 + (((x6 - Z1) * x3) * x5))) (e3 : k3 = (Z0 + (((x6 - Z1) * x4) * x3))) (e4 : k4 = (Z1 + (((x6 - Z1) * x4) * x4))) (e5 : k5 = (Z0 + (((x6 - Z1) * x4) * x5))) (e6 : k6 = (Z0 + (((x6 - Z1) * x5) * x3))) (e7 : k7 = (Z0 + (((x6 - Z1) * x5) * x4))) (e8 : k8 = (Z1 + (((x6 - Z1) * x5) * x5))) (e9 : k9 = ((-((x6 - Z1) * (((x0 * x3) + (x1 * x4)) + (x2 * x5)))) * x3)) (e10 : k10 = ((-((x6 - Z1) * (((x0 * x3) + (x1 * x4)) + (x2 * x5)))) * x4)) (e11 : k11 = ((-((x6 - Z1) * (((x0 * x3) + (x1 * x4)) + (x2 * x5)))) * x5))  : PureCalls prog F.affine_Stretch [.agg ([.bool r0.neg, nl r0.num, nl r0.den, .bool r1.neg, nl r1.num, nl r1.den, .bool r2.neg, nl r2.num, nl r2.den]), .agg ([.bool r3.neg, nl r3.num, nl r3.den, .bool r4.neg, nl r4.num, nl r4.den, .bool r5.neg, nl r5.num, nl r5.den]), .agg ([.bool r6.neg, nl r6.num, nl r6.den])] [.agg ([.bool (decide ((k0).num < 0)), nn (k0).num.natAbs, nn (k0).den, .bool (decide ((k1).num < 0)), nn (k1).num.natAbs, nn (k1).den, .bool (decide ((k2).num < 0)), nn (k2).num.natAbs, nn (k2).den, .bool (decide ((k3).num < 0)), nn (k3).num.natAbs, nn (k3).den, .bool (decide ((k4).num < 0)), nn (k4).num.natAbs, nn (k4).den, .bool (decide ((k5).num < 0)), nn (k5).num.natAbs, nn (k5).den, .bool (decide ((k6).num < 0)), nn (k6).num.natAbs, nn (k6).den, .bool (decide ((k7).num < 0)), nn (k7).num.natAbs, nn (k7).den, .bool (decide ((k8).num < 0)), nn (k8).num.natAbs, nn (k8).den, .bool (decide ((k9).num < 0)), nn (k9).num.natAbs, nn (k9).den, .bool (decide ((k10).num < 0)), nn (k10).num.natAbs, nn (k10).den, .bool (decide ((k11).num < 0)), nn (k11).num.natAbs, nn (k11).den])] := by
  subst e0 e1 e2 e3 e4 e5 e6 e7 e8 e9 e10 e11
  refine symFunc_sound hmix tree_affine_Stretch (by kernel_rfl) rfl ?_
  unfold ir_affine_Stretch
  simp only [fa_agg, fa_one, fa_nil, List.cons_append, List.nil_append, List.append_nil]
  refine call_step (n_rat_Of (1) (1) (by decide) (by decide) (by decide) (by decide) (Y1.trans (by decide +kernel))) rfl ?_
  simp only [fa_agg, fa_one, fa_nil, List.cons_append, List.nil_append, List.append_nil]
  have m252 : Num 1 (cr Z1) Z1 := Num.c Y1 (by decide +kernel) (by decide +kernel)
  refine call_step (n_rat_Sub (k0 := (x6 - Z1)) (h6.mono (by decide)) (m252.mono (by decide)) rfl) rfl ?_
  simp only [fa_agg, fa_one, fa_nil, List.cons_append, List.nil_append, List.append_nil]
  refine call_step (n_affine_Identity_0 Y0 Y1) rfl ?_
  simp only [fa_agg, fa_one, fa_nil, List.cons_append, List.nil_append, List.append_nil]
  refine primS (rl [(cr (x6 - Z1)), r3]) rfl ?_
  have m254 : Num 900000002 (cr (x6 - Z1)) (x6 - Z1) := Num.of (Sm.sub h6.sm m252.sm)
  refine call_step (n_rat_Product_2 (k0 := ((x6 - Z1) * x3)) (m254.mono (by decide)) (h3.mono (by decide)) rfl) rfl ?_
  simp only [fa_agg, fa_one, fa_nil, List.cons_append, List.nil_append, List.append_nil]
  have m255 : Num 1800000002 (cr ((x6 - Z1) * x3)) ((x6 - Z1) * x3) := Num.of (Sm.mul m254.sm h3.sm)
  refine call_step (n_vec_Scale_0 (k0 := (((x6 - Z1) * x3) * x3)) (k1 := (((x6 - Z1) * x3) * x4)) (k2 := (((x6 - Z1) * x3) * x5)) (m255.mono (by decide)) (h3.mono (by decide)) (h4.mono (by decide)) (h5.mono (by decide)) rfl rfl rfl) rfl ?_
  simp only [fa_agg, fa_one, fa_nil, List.cons_append, List.nil_append, List.append_nil]
  refine primS (rl3 [((cr Z1), (cr Z0), (cr Z0)), ((cr (((x6 - Z1) * x3) * x3)), (cr (((x6 - Z1) * x3) * x4)), (cr (((x6 - Z1) * x3) * x5)))]) rfl ?_
  have m257 : Num 1 (cr Z0) Z0 := Num.c Y0 (by decide +kernel) (by decide +kernel)
  have m258 : Num 2700000002 (cr (((x6 - Z1) * x3) * x3)) (((x6 - Z1) * x3) * x3) := Num.of (Sm.mul m255.sm h3.sm)
  have m259 : Num 2700000002 (cr (((x6 - Z1) * x3) * x4)) (((x6 - Z1) * x3) * x4) := Num.of (Sm.mul m255.sm h4.sm)
  have m260 : Num 2700000002 (cr (((x6 - Z1) * x3) * x5)) (((x6 - Z1) * x3) * x5) := Num.of (Sm.mul m255.sm h5.sm)
  refine call_step (n_vec_Sum_2 (o0 := (Z1 + (((x6 - Z1) * x3) * x3))) (o1 := (Z0 + (((x6 - Z1) * x3) * x4))) (o2 := (Z0 + (((x6 - Z1) * x3) * x5))) (m252.mono (by decide)) (m257.mono (by decide)) (m257.mono (by decide)) (m258.mono (by decide)) (m259.mono (by decide)) (m260.mono (by decide)) rfl rfl rfl) rfl ?_
  simp only [fa_agg, fa_one, fa_nil, List.cons_append, List.nil_append, List.append_nil]
  refine primS (rl [(cr (x6 - Z1)), r4]) rfl ?_
  refine call_step (n_rat_Product_2 (k0 := ((x6 - Z1) * x4)) (m254.mono (by decide)) (h4.mono (by decide)) rfl) rfl ?_
  simp only [fa_agg, fa_one, fa_nil, List.cons_append, List.nil_append, List.append_nil]
  have m262 : Num 1800000002 (cr ((x6 - Z1) * x4)) ((x6 - Z1) * x4) := Num.of (Sm.mul m254.sm h4.sm)
  refine call_step (n_vec_Scale_0 (k0 := (((x6 - Z1) * x4) * x3)) (k1 := (((x6 - Z1) * x4) * x4)) (k2 := (((x6 - Z1) * x4) * x5)) (m262.mono (by decide)) (h3.mono (by decide)) (h4.mono (by decide)) (h5.mono (by decide)) rfl rfl rfl) rfl ?_
  simp only [fa_agg, fa_one, fa_nil, List.cons_append, List.nil_append, List.append_nil]
  refine primS (rl3 [((cr Z0), (cr Z1), (cr Z0)), ((cr (((x6 - Z1) * x4) * x3)), (cr (((x6 - Z1) * x4) * x4)), (cr (((x6 - Z1) * x4) * x5)))]) rfl ?_
  have m264 : Num 2700000002 (cr (((x6 - Z1) * x4) * x3)) (((x6 - Z1) * x4) * x3) := Num.of (Sm.mul m262.sm h3.sm)
  have m265 : Num 2700000002 (cr (((x6 - Z1) * x4) * x4)) (((x6 - Z1) * x4) * x4) := Num.of (Sm.mul m262.sm h4.sm)
  have m266 : Num 2700000002 (cr (((x6 - Z1) * x4) * x5)) (((x6 - Z1) * x4) * x5) := Num.of (Sm.mul m262.sm h5.sm)
  refine call_step (n_vec_Sum_2 (o0 := (Z0 + (((x6 - Z1) * x4) * x3))) (o1 := (Z1 + (((x6 - Z1) * x4) * x4))) (o2 := (Z0 + (((x6 - Z1) * x4) * x5))) (m257.mono (by decide)) (m252.mono (by decide)) (m257.mono (by decide)) (m264.mono (by decide)) (m265.mono (by decide)) (m266.mono (by decide)) rfl rfl rfl) rfl ?_
  simp only [fa_agg, fa_one, fa_nil, List.cons_append, List.nil_append, List.append_nil]
  refine primS (rl [(cr (x6 - Z1)), r5]) rfl ?_
  refine call_step (n_rat_Product_2 (k0 := ((x6 - Z1) * x5)) (m254.mono (by decide)) (h5.mono (by decide)) rfl) rfl ?_
  simp only [fa_agg, fa_one, fa_nil, List.cons_append, List.nil_append, List.append_nil]
  have m268 : Num 1800000002 (cr ((x6 - Z1) * x5)) ((x6 - Z1) * x5) := Num.of (Sm.mul m254.sm h5.sm)
  refine call_step (n_vec_Scale_0 (k0 := (((x6 - Z1) * x5) * x3)) (k1 := (((x6 - Z1) * x5) * x4)) (k2 := (((x6 - Z1) * x5) * x5)) (m268.mono (by decide)) (h3.mono (by decide)) (h4.mono (by decide)) (h5.mono (by decide)) rfl rfl rfl) rfl ?_
  simp only [fa_agg, fa_one, fa_nil, List.cons_append, List.nil_append, List.append_nil]
  refine primS (rl3 [((cr Z0), (cr Z0), (cr Z1)), ((cr (((x6 - Z1) * x5) * x3)), (cr (((x6 - Z1) * x5) * x4)), (cr (((x6 - Z1) * x5) * x5)))]) rfl ?_
  have m270 : Num 2700000002 (cr (((x6 - Z1) * x5) * x3)) (((x6 - Z1) * x5) * x3) := Num.of (Sm.mul m268.sm h3.sm)
  have m271 : Num 2700000002 (cr (((x6 - Z1) * x5) * x4)) (((x6 - Z1) * x5) * x4) := Num.of (Sm.mul m268.sm h4.sm)
  have m272 : Num 2700000002 (cr (((x6 - Z1) * x5) * x5)) (((x6 - Z1) * x5) * x5) := Num.of (Sm.mul m268.sm h5.sm)
  refine call_step (n_vec_Sum_2 (o0 := (Z0 + (((x6 - Z1) * x5) * x3))) (o1 := (Z0 + (((x6 - Z1) * x5) * x4))) (o2 := (Z1 + (((x6 - Z1) * x5) * x5))) (m257.mono (by decide)) (m257.mono (by decide)) (m252.mono (by decide)) (m270.mono (by decide)) (m271.mono (by decide)) (m272.mono (by decide)) rfl rfl rfl) rfl ?_
  simp only [fa_agg, fa_one, fa_nil, List.cons_append, List.nil_append, List.append_nil]
  refine call_step (n_vec_Dot_0 (k0 := (((x0 * x3) + (x1 * x4)) + (x2 * x5))) (h0.mono (by decide)) (h1.mono (by decide)) (h2.mono (by decide)) (h3.mono (by decide)) (h4.mono (by decide)) (h5.mono (by decide)) rfl) rfl ?_
  simp only [fa_agg, fa_one, fa_nil, List.cons_append, List.nil_append, List.append_nil]
  refine primS (rl [(cr (x6 - Z1)), (cr (((x0 * x3) + (x1 * x4)) + (x2 * x5)))]) rfl ?_
  have m274 : Num 5400000002 (cr (((x0 * x3) + (x1 * x4)) + (x2 * x5))) (((x0 * x3) + (x1 * x4)) + (x2 * x5)) := Num.of (Sm.add (Sm.add (Sm.mul h0.sm h3.sm) (Sm.mul h1.sm h4.sm)) (Sm.mul h2.sm h5.sm))
  refine call_step (n_rat_Product_2 (k0 := ((x6 - Z1) * (((x0 * x3) + (x1 * x4)) + (x2 * x5)))) (m254.mono (by decide)) (m274.mono (by decide)) rfl) rfl ?_
  simp only [fa_agg, fa_one, fa_nil, List.cons_append, List.nil_append, List.append_nil]
  have m275 : Num 6300000004 (cr ((x6 - Z1) * (((x0 * x3) + (x1 * x4)) + (x2 * x5)))) ((x6 - Z1) * (((x0 * x3) + (x1 * x4)) + (x2 * x5))) := Num.of (Sm.mul m254.sm m274.sm)
  refine call_step (n_rat_Neg (k0 := (-((x6 - Z1) * (((x0 * x3) + (x1 * x4)) + (x2 * x5))))) (m275.mono (by decide)) rfl) rfl ?_
  simp only [fa_agg, fa_one, fa_nil, List.cons_append, List.nil_append, List.append_nil]
  have m276 : Num 6300000004 (cr (-((x6 - Z1) * (((x0 * x3) + (x1 * x4)) + (x2 * x5))))) (-((x6 - Z1) * (((x0 * x3) + (x1 * x4)) + (x2 * x5)))) := Num.of (Sm.neg m275.sm)
  refine call_step (n_vec_Scale_0 (k0 := ((-((x6 - Z1) * (((x0 * x3) + (x1 * x4)) + (x2 * x5)))) * x3)) (k1 := ((-((x6 - Z1) * (((x0 * x3) + (x1 * x4)) + (x2 * x5)))) * x4)) (k2 := ((-((x6 - Z1) * (((x0 * x3) + (x1 * x4)) + (x2 * x5)))) * x5)) (m276.mono (by decide)) (h3.mono (by decide)) (h4.mono (by decide)) (h5.mono (by decide)) rfl rfl rfl) rfl ?_
  simp only [fa_agg, fa_one, fa_nil, List.cons_append, List.nil_append, List.append_nil]
  exact ret_step rfl

theorem n_affine_Apply_0  {r0 r1 r2 r3 r4 r5 r6 r7 r8 r9 r10 r11 r12 r13 r14 : RR} {x0 x1 x2 x3 x4 x5 x6 x7 x8 x9 x10 x11 x12 x13 x14 : Rat} {k0 k1 k2 : Rat} (h0 : Num 900000000 r0 x0) (h1 : Num 900000000 r1 x1) (h2 : Num 900000000 r2 x2) (h3 : Num 900000000 r3 x3) (h4 : Num 900000000 r4 x4) (h5 : Num 900000000 r5 x5) (h6 : Num 900000000 r6 x6) (h7 : Num 900000000 r7 x7) (h8 : Num 900000000 r8 x8) (h9 : Num 900000000 r9 x9) (h10 : Num 900000000 r10 x10) (h11 : Num 900000000 r11 x11) (h12 : Num 900000000 r12 x12) (h13 : Num 900000000 r13 x13) (h14 : Num 900000000 r14 x14) (e0 : k0 = ((((x0 * x12) + (x1 * x13)) + (x2 * x14)) + x9)) (e1 : k1 = ((((x3 * x12) + (x4 * x13)) + (x5 * x14)) + x10)) (e2 : k2 = ((((x6 * x12) + (x7 * x13)) + (x8 * x14)) + x11))  : PureCalls prog F.affine_Apply [.agg ([.bool r0.neg, nl r0.num, nl r0.den, .bool r1.neg, nl r1.num, nl r1.den, .bool r2.neg, nl r2.num, nl r2.den, .bool r3.neg, nl r3.num, nl r3.den, .bool r4.neg, nl r4.num, nl r4.den, .bool r5.neg, nl r5.num, nl r5.den, .bool r6.neg, nl r6.num, nl r6.den, .bool r7.neg, nl r7.num, nl r7.den, .bool r8.neg, nl r8.num, nl r8.den, .bool r9.neg, nl r9.num, nl r9.den, .bool r10.neg, nl r10.num, nl r10.den, .bool r11.neg, nl r11.num, nl r11.den]), .agg ([.bool r12.neg, nl r12.num, nl r12.den, .bool r13.neg, nl r13.num, nl r13.den, .bool r14.neg, nl r14.num, nl r14.den])] [.agg ([.bool (decide ((k0).num < 0)), nn (k0).num.natAbs, nn (k0).den, .bool (decide ((k1).num < 0)), nn (k1).num.natAbs, nn (k1).den, .bool (decide ((k2).num < 0)), nn (k2).num.natAbs, nn (k2).den])] := by
  subst e0 e1 e2
  refine symFunc_sound hmix tree_affine_Apply (by kernel_rfl) rfl ?_
  unfold ir_affine_Apply
  simp only [fa_agg, fa_one, fa_nil, List.cons_append, List.nil_append, List.append_nil]
  refine call_step (n_affine_Turn_0 (k0 := (((x0 * x12) + (x1 * x13)) + (x2 * x14))) (k1 := (((x3 * x12) + (x4 * x13)) + (x5 * x14))) (k2 := (((x6 * x12) + (x7 * x13)) + (x8 * x14))) (h0.mono (by decide)) (h1.mono (by decide)) (h2.mono (by decide)) (h3.mono (by decide)) (h4.mono (by decide)) (h5.mono (by decide)) (h6.mono (by decide)) (h7.mono (by decide)) (h8.mono (by decide)) (h9.mono (by decide)) (h10.mono (by decide)) (h11.mono (by decide)) (h12.mono (by decide)) (h13.mono (by decide)) (h14.mono (by decide)) rfl rfl rfl) rfl ?_
  simp only [fa_agg, fa_one, fa_nil, List.cons_append, List.nil_append, List.append_nil]
  refine primS (rl3 [((cr (((x0 * x12) + (x1 * x13)) + (x2 * x14))), (cr (((x3 * x12) + (x4 * x13)) + (x5 * x14))), (cr (((x6 * x12) + (x7 * x13)) + (x8 * x14)))), (r9, r10, r11)]) rfl ?_
  have m283 : Num 5400000002 (cr (((x0 * x12) + (x1 * x13)) + (x2 * x14))) (((x0 * x12) + (x1 * x13)) + (x2 * x14)) := Num.of (Sm.add (Sm.add (Sm.mul h0.sm h12.sm) (Sm.mul h1.sm h13.sm)) (Sm.mul h2.sm h14.sm))
  have m284 : Num 5400000002 (cr (((x3 * x12) + (x4 * x13)) + (x5 * x14))) (((x3 * x12) + (x4 * x13)) + (x5 * x14)) := Num.of (Sm.add (Sm.add (Sm.mul h3.sm h12.sm) (Sm.mul h4.sm h13.sm)) (Sm.mul h5.sm h14.sm))
  have m285 : Num 5400000002 (cr (((x6 * x12) + (x7 * x13)) + (x8 * x14))) (((x6 * x12) + (x7 * x13)) + (x8 * x14)) := Num.of (Sm.add (Sm.add (Sm.mul h6.sm h12.sm) (Sm.mul h7.sm h13.sm)) (Sm.mul h8.sm h14.sm))
  refine call_step (n_vec_Sum_2 (o0 := ((((x0 * x12) + (x1 * x13)) + (x2 * x14)) + x9)) (o1 := ((((x3 * x12) + (x4 * x13)) + (x5 * x14)) + x10)) (o2 := ((((x6 * x12) + (x7 * x13)) + (x8 * x14)) + x11)) (m283.mono (by decide)) (m284.mono (by decide)) (m285.mono (by decide)) (h9.mono (by decide)) (h10.mono (by decide)) (h11.mono (by decide)) rfl rfl rfl) rfl ?_
  simp only [fa_agg, fa_one, fa_nil, List.cons_append, List.nil_append, List.append_nil]
  exact ret_step rfl

theorem n_penumbraref05_Is_0  {x0 x1 x2 x3 x4 x5 : Rat} (h0 : Num 9000000000 (cr x0) x0) (h1 : Num 9000000000 (cr x1) x1) (h2 : Num 9000000000 (cr x2) x2) (h3 : Num 9000000000 (cr x3) x3) (h4 : Num 9000000000 (cr x4) x4) (h5 : Num 9000000000 (cr x5) x5)  (c0 : x0 = x3) (c1 : x1 = x4) (c2 : x2 = x5) : PureCalls prog F.penumbraref05_Is [.agg ([.bool (decide ((x0).num < 0)), nn (x0).num.natAbs, nn (x0).den, .bool (decide ((x1).num < 0)), nn (x1).num.natAbs, nn (x1).den, .bool (decide ((x2).num < 0)), nn (x2).num.natAbs, nn (x2).den]), .agg ([.bool (decide ((x3).num < 0)), nn (x3).num.natAbs, nn (x3).den, .bool (decide ((x4).num < 0)), nn (x4).num.natAbs, nn (x4).den, .bool (decide ((x5).num < 0)), nn (x5).num.natAbs, nn (x5).den])] [.one (.bool true)] := by
  refine symFunc_sound hmix tree_penumbraref05_Is (by kernel_rfl) rfl ?_
  unfold ir_penumbraref05_Is
  simp only [fa_agg, fa_one, fa_nil, List.cons_append, List.nil_append, List.append_nil]
  refine call_step (n_penumbraref03_Is_t (h0.mono (by decide)) (h3.mono (by decide)) c0) rfl ?_
  simp only [fa_agg, fa_one, fa_nil, List.cons_append, List.nil_append, List.append_nil]
  refine itT rfl ?_
  refine call_step (n_penumbraref03_Is_t (h1.mono (by decide)) (h4.mono (by decide)) c1) rfl ?_
  simp only [fa_agg, fa_one, fa_nil, List.cons_append, List.nil_append, List.append_nil]
  refine itT rfl ?_
  refine call_step (n_penumbraref03_Is_t (h2.mono (by decide)) (h5.mono (by decide)) c2) rfl ?_
  simp only [fa_agg, fa_one, fa_nil, List.cons_append, List.nil_append, List.append_nil]
  exact ret_step rfl

theorem n_affine_Area_0  {r0 r1 r2 r3 r4 r5 r6 r7 r8 r9 r10 r11 r12 r13 r14 : RR} {x0 x1 x2 x3 x4 x5 x6 x7 x8 x9 x10 x11 x12 x13 x14 : Rat} {k0 k1 k2 : Rat} (h0 : Num 900000000 r0 x0) (h1 : Num 900000000 r1 x1) (h2 : Num 900000000 r2 x2) (h3 : Num 900000000 r3 x3) (h4 : Num 900000000 r4 x4) (h5 : Num 900000000 r5 x5) (h6 : Num 900000000 r6 x6) (h7 : Num 900000000 r7 x7) (h8 : Num 900000000 r8 x8) (h9 : Num 900000000 r9 x9) (h10 : Num 900000000 r10 x10) (h11 : Num 900000000 r11 x11) (h12 : Num 900000000 r12 x12) (h13 : Num 900000000 r13 x13) (h14 : Num 900000000 r14 x14) (e0 : k0 = (((((x4 * x8) - (x5 * x7)) * x12) + (((x5 * x6) - (x3 * x8)) * x13)) + (((x3 * x7) - (x4 * x6)) * x14))) (e1 : k1 = (((((x7 * x2) - (x8 * x1)) * x12) + (((x8 * x0) - (x6 * x2)) * x13)) + (((x6 * x1) - (x7 * x0)) * x14))) (e2 : k2 = (((((x1 * x5) - (x2 * x4)) * x12) + (((x2 * x3) - (x0 * x5)) * x13)) + (((x0 * x4) - (x1 * x3)) * x14)))  : PureCalls prog F.affine_Area [.agg ([.bool r0.neg, nl r0.num, nl r0.den, .bool r1.neg, nl r1.num, nl r1.den, .bool r2.neg, nl r2.num, nl r2.den, .bool r3.neg, nl r3.num, nl r3.den, .bool r4.neg, nl r4.num, nl r4.den, .bool r5.neg, nl r5.num, nl r5.den, .bool r6.neg, nl r6.num, nl r6.den, .bool r7.neg, nl r7.num, nl r7.den, .bool r8.neg, nl r8.num, nl r8.den, .bool r9.neg, nl r9.num, nl r9.den, .bool r10.neg, nl r10.num, nl r10.den, .bool r11.neg, nl r11.num, nl r11.den]), .agg ([.bool r12.neg, nl r12.num, nl r12.den, .bool r13.neg, nl r13.num, nl r13.den, .bool r14.neg, nl r14.num, nl r14.den])] [.agg ([.bool (decide ((k0).num < 0)), nn (k0).num.natAbs, nn (k0).den, .bool (decide ((k1).num < 0)), nn (k1).num.natAbs, nn (k1).den, .bool (decide ((k2).num < 0)), nn (k2).num.natAbs, nn (k2).den])] := by
  subst e0 e1 e2
  refine symFunc_sound hmix tree_affine_Area (by kernel_rfl) rfl ?_
  unfold ir_affine_Area
  simp only [fa_agg, fa_one, fa_nil, List.cons_append, List.nil_append, List.append_nil]
  refine call_step (n_affine_cofactors_0 (k0 := ((x4 * x8) - (x5 * x7))) (k1 := ((x5 * x6) - (x3 * x8))) (k2 := ((x3 * x7) - (x4 * x6))) (k3 := ((x7 * x2) - (x8 * x1))) (k4 := ((x8 * x0) - (x6 * x2))) (k5 := ((x6 * x1) - (x7 * x0))) (k6 := ((x1 * x5) - (x2 * x4))) (k7 := ((x2 * x3) - (x0 * x5))) (k8 := ((x0 * x4) - (x1 * x3))) (h0.mono (by decide)) (h1.mono (by decide)) (h2.mono (by decide)) (h3.mono (by decide)) (h4.mono (by decide)) (h5.mono (by decide)) (h6.mono (by decide)) (h7.mono (by decide)) (h8.mono (by decide)) (h9.mono (by decide)) (h10.mono (by decide)) (h11.mono (by decide)) rfl rfl rfl rfl rfl rfl rfl rfl rfl) rfl ?_
  simp only [fa_agg, fa_one, fa_nil, List.cons_append, List.nil_append, List.append_nil]
  have m295 : Num 3600000001 (cr ((x4 * x8) - (x5 * x7))) ((x4 * x8) - (x5 * x7)) := Num.of (Sm.sub (Sm.mul h4.sm h8.sm) (Sm.mul h5.sm h7.sm))
  have m296 : Num 3600000001 (cr ((x5 * x6) - (x3 * x8))) ((x5 * x6) - (x3 * x8)) := Num.of (Sm.sub (Sm.mul h5.sm h6.sm) (Sm.mul h3.sm h8.sm))
  have m297 : Num 3600000001 (cr ((x3 * x7) - (x4 * x6))) ((x3 * x7) - (x4 * x6)) := Num.of (Sm.sub (Sm.mul h3.sm h7.sm) (Sm.mul h4.sm h6.sm))
  refine call_step (n_vec_Dot_0 (k0 := (((((x4 * x8) - (x5 * x7)) * x12) + (((x5 * x6) - (x3 * x8)) * x13)) + (((x3 * x7) - (x4 * x6)) * x14))) (m295.mono (by decide)) (m296.mono (by decide)) (m297.mono (by decide)) (h12.mono (by decide)) (h13.mono (by decide)) (h14.mono (by decide)) rfl) rfl ?_
  simp only [fa_agg, fa_one, fa_nil, List.cons_append, List.nil_append, List.append_nil]
  have m298 : Num 3600000001 (cr ((x7 * x2) - (x8 * x1))) ((x7 * x2) - (x8 * x1)) := Num.of (Sm.sub (Sm.mul h7.sm h2.sm) (Sm.mul h8.sm h1.sm))
  have m299 : Num 3600000001 (cr ((x8 * x0) - (x6 * x2))) ((x8 * x0) - (x6 * x2)) := Num.of (Sm.sub (Sm.mul h8.sm h0.sm) (Sm.mul h6.sm h2.sm))
  have m300 : Num 3600000001 (cr ((x6 * x1) - (x7 * x0))) ((x6 * x1) - (x7 * x0)) := Num.of (Sm.sub (Sm.mul h6.sm h1.sm) (Sm.mul h7.sm h0.sm))
  refine call_step (n_vec_Dot_0 (k0 := (((((x7 * x2) - (x8 * x1)) * x12) + (((x8 * x0) - (x6 * x2)) * x13)) + (((x6 * x1) - (x7 * x0)) * x14))) (m298.mono (by decide)) (m299.mono (by decide)) (m300.mono (by decide)) (h12.mono (by decide)) (h13.mono (by decide)) (h14.mono (by decide)) rfl) rfl ?_
  simp only [fa_agg, fa_one, fa_nil, List.cons_append, List.nil_append, List.append_nil]
  have m301 : Num 3600000001 (cr ((x1 * x5) - (x2 * x4))) ((x1 * x5) - (x2 * x4)) := Num.of (Sm.sub (Sm.mul h1.sm h5.sm) (Sm.mul h2.sm h4.sm))
  have m302 : Num 3600000001 (cr ((x2 * x3) - (x0 * x5))) ((x2 * x3) - (x0 * x5)) := Num.of (Sm.sub (Sm.mul h2.sm h3.sm) (Sm.mul h0.sm h5.sm))
  have m303 : Num 3600000001 (cr ((x0 * x4) - (x1 * x3))) ((x0 * x4) - (x1 * x3)) := Num.of (Sm.sub (Sm.mul h0.sm h4.sm) (Sm.mul h1.sm h3.sm))
  refine call_step (n_vec_Dot_0 (k0 := (((((x1 * x5) - (x2 * x4)) * x12) + (((x2 * x3) - (x0 * x5)) * x13)) + (((x0 * x4) - (x1 * x3)) * x14))) (m301.mono (by decide)) (m302.mono (by decide)) (m303.mono (by decide)) (h12.mono (by decide)) (h13.mono (by decide)) (h14.mono (by decide)) rfl) rfl ?_
  simp only [fa_agg, fa_one, fa_nil, List.cons_append, List.nil_append, List.append_nil]
  exact ret_step rfl

theorem n_penumbraref07_Is_0  {x0 x1 x2 x3 x4 x5 x6 x7 x8 x9 x10 x11 x12 x13 x14 x15 x16 x17 x18 x19 x20 x21 x22 x23 : Rat} (h0 : Num 9000000000 (cr x0) x0) (h1 : Num 9000000000 (cr x1) x1) (h2 : Num 9000000000 (cr x2) x2) (h3 : Num 9000000000 (cr x3) x3) (h4 : Num 9000000000 (cr x4) x4) (h5 : Num 9000000000 (cr x5) x5) (h6 : Num 9000000000 (cr x6) x6) (h7 : Num 9000000000 (cr x7) x7) (h8 : Num 9000000000 (cr x8) x8) (h9 : Num 9000000000 (cr x9) x9) (h10 : Num 9000000000 (cr x10) x10) (h11 : Num 9000000000 (cr x11) x11) (h12 : Num 9000000000 (cr x12) x12) (h13 : Num 9000000000 (cr x13) x13) (h14 : Num 9000000000 (cr x14) x14) (h15 : Num 9000000000 (cr x15) x15) (h16 : Num 9000000000 (cr x16) x16) (h17 : Num 9000000000 (cr x17) x17) (h18 : Num 9000000000 (cr x18) x18) (h19 : Num 9000000000 (cr x19) x19) (h20 : Num 9000000000 (cr x20) x20) (h21 : Num 9000000000 (cr x21) x21) (h22 : Num 9000000000 (cr x22) x22) (h23 : Num 9000000000 (cr x23) x23)  (c0 : x0 = x12) (c1 : x1 = x13) (c2 : x2 = x14) (c3 : x3 = x15) (c4 : x4 = x16) (c5 : x5 = x17) (c6 : x6 = x18) (c7 : x7 = x19) (c8 : x8 = x20) (c9 : x9 = x21) (c10 : x10 = x22) (c11 : x11 = x23) : PureCalls prog F.penumbraref07_Is [.agg ([.bool (decide ((x0).num < 0)), nn (x0).num.natAbs, nn (x0).den, .bool (decide ((x1).num < 0)), nn (x1).num.natAbs, nn (x1).den, .bool (decide ((x2).num < 0)), nn (x2).num.natAbs, nn (x2).den, .bool (decide ((x3).num < 0)), nn (x3).num.natAbs, nn (x3).den, .bool (decide ((x4).num < 0)), nn (x4).num.natAbs, nn (x4).den, .bool (decide ((x5).num < 0)), nn (x5).num.natAbs, nn (x5).den, .bool (decide ((x6).num < 0)), nn (x6).num.natAbs, nn (x6).den, .bool (decide ((x7).num < 0)), nn (x7).num.natAbs, nn (x7).den, .bool (decide ((x8).num < 0)), nn (x8).num.natAbs, nn (x8).den, .bool (decide ((x9).num < 0)), nn (x9).num.natAbs, nn (x9).den, .bool (decide ((x10).num < 0)), nn (x10).num.natAbs, nn (x10).den, .bool (decide ((x11).num < 0)), nn (x11).num.natAbs, nn (x11).den]), .agg ([.bool (decide ((x12).num < 0)), nn (x12).num.natAbs, nn (x12).den, .bool (decide ((x13).num < 0)), nn (x13).num.natAbs, nn (x13).den, .bool (decide ((x14).num < 0)), nn (x14).num.natAbs, nn (x14).den, .bool (decide ((x15).num < 0)), nn (x15).num.natAbs, nn (x15).den, .bool (decide ((x16).num < 0)), nn (x16).num.natAbs, nn (x16).den, .bool (decide ((x17).num < 0)), nn (x17).num.natAbs, nn (x17).den, .bool (decide ((x18).num < 0)), nn (x18).num.natAbs, nn (x18).den, .bool (decide ((x19).num < 0)), nn (x19).num.natAbs, nn (x19).den, .bool (decide ((x20).num < 0)), nn (x20).num.natAbs, nn (x20).den, .bool (decide ((x21).num < 0)), nn (x21).num.natAbs, nn (x21).den, .bool (decide ((x22).num < 0)), nn (x22).num.natAbs, nn (x22).den, .bool (decide ((x23).num < 0)), nn (x23).num.natAbs, nn (x23).den])] [.one (.bool true)] := by
  refine symFunc_sound hmix tree_penumbraref07_Is (by kernel_rfl) rfl ?_
  unfold ir_penumbraref07_Is
  simp only [fa_agg, fa_one, fa_nil, List.cons_append, List.nil_append, List.append_nil]
  refine call_step (n_penumbraref05_Is_0 (h0.mono (by decide)) (h1.mono (by decide)) (h2.mono (by decide)) (h12.mono (by decide)) (h13.mono (by decide)) (h14.mono (by decide)) c0 c1 c2) rfl ?_
  simp only [fa_agg, fa_one, fa_nil, List.cons_append, List.nil_append, List.append_nil]
  refine itT rfl ?_
  refine call_step (n_penumbraref05_Is_0 (h3.mono (by decide)) (h4.mono (by decide)) (h5.mono (by decide)) (h15.mono (by decide)) (h16.mono (by decide)) (h17.mono (by decide)) c3 c4 c5) rfl ?_
  simp only [fa_agg, fa_one, fa_nil, List.cons_append, List.nil_append, List.append_nil]
  refine itT rfl ?_
  refine call_step (n_penumbraref05_Is_0 (h6.mono (by decide)) (h7.mono (by decide)) (h8.mono (by decide)) (h18.mono (by decide)) (h19.mono (by decide)) (h20.mono (by decide)) c6 c7 c8) rfl ?_
  simp only [fa_agg, fa_one, fa_nil, List.cons_append, List.nil_append, List.append_nil]
  refine itT rfl ?_
  refine call_step (n_penumbraref05_Is_0 (h9.mono (by decide)) (h10.mono (by decide)) (h11.mono (by decide)) (h21.mono (by decide)) (h22.mono (by decide)) (h23.mono (by decide)) c9 c10 c11) rfl ?_
  simp only [fa_agg, fa_one, fa_nil, List.cons_append, List.nil_append, List.append_nil]
  exact ret_step rfl

theorem n_penumbralaw07_fixed : PureCalls prog F.penumbralaw07_fixed [] [.one (.bool true)] := by
  obtain ⟨Zm3, Ym3⟩ := ex_eq (-3 : Rat)
  obtain ⟨Zm1, Ym1⟩ := ex_eq (-1 : Rat)
  obtain ⟨Z0, Y0⟩ := ex_eq (0 : Rat)
  obtain ⟨Z1, Y1⟩ := ex_eq (1 : Rat)
  obtain ⟨Z2, Y2⟩ := ex_eq (2 : Rat)
  obtain ⟨Z3, Y3⟩ := ex_eq (3 : Rat)
  obtain ⟨Z5, Y5⟩ := ex_eq (5 : Rat)
  refine symFunc_sound hmix tree_penumbralaw07_fixed (by kernel_rfl) rfl ?_
  unfold ir_penumbralaw07_fixed
  simp only [fa_agg, fa_one, fa_nil, List.cons_append, List.nil_append, List.append_nil]
  refine call_step (n_vec_Of (0) (0) (1) (by decide) (by decide) (by decide) (by decide) (by decide) (by decide) (Y0.trans (by decide +kernel)) (Y0.trans (by decide +kernel)) (Y1.trans (by decide +kernel))) rfl ?_
  simp only [fa_agg, fa_one, fa_nil, List.cons_append, List.nil_append, List.append_nil]
  refine call_step (n_vec_Of (0) (0) (1) (by decide) (by decide) (by decide) (by decide) (by decide) (by decide) (Y0.trans (by decide +kernel)) (Y0.trans (by decide +kernel)) (Y1.trans (by decide +kernel))) rfl ?_
  simp only [fa_agg, fa_one, fa_nil, List.cons_append, List.nil_append, List.append_nil]
  refine call_step (n_rat_Of (-1) (1) (by decide) (by decide) (by decide) (by decide) (Ym1.trans (by decide +kernel))) rfl ?_
  simp only [fa_agg, fa_one, fa_nil, List.cons_append, List.nil_append, List.append_nil]
  have m304 : Num 1 (cr Z0) Z0 := Num.c Y0 (by decide +kernel) (by decide +kernel)
  have m305 : Num 1 (cr Z1) Z1 := Num.c Y1 (by decide +kernel) (by decide +kernel)
  have m306 : Num 1 (cr Zm1) Zm1 := Num.c Ym1 (by decide +kernel) (by decide +kernel)
  refine call_step (n_affine_Stretch_0 (k0 := Z1) (k1 := Z0) (k2 := Z0) (k3 := Z0) (k4 := Z1) (k5 := Z0) (k6 := Z0) (k7 := Z0) (k8 := Zm1) (k9 := Z0) (k10 := Z0) (k11 := Z2) Y0 Y1 (m304.mono (by decide)) (m304.mono (by decide)) (m305.mono (by decide)) (m304.mono (by decide)) (m304.mono (by decide)) (m305.mono (by decide)) (m306.mono (by decide)) (by rw [Y1, Ym1, Y0] <;> decide +kernel) (by rw [Y0, Ym1, Y1] <;> decide +kernel) (by rw [Y0, Ym1, Y1] <;> decide +kernel) (by rw [Y0, Ym1, Y1] <;> decide +kernel) (by rw [Y1, Ym1, Y0] <;> decide +kernel) (by rw [Y0, Ym1, Y1] <;> decide +kernel) (by rw [Y0, Ym1, Y1] <;> decide +kernel) (by rw [Y0, Ym1, Y1] <;> decide +kernel) (by rw [Ym1, Y1] <;> decide +kernel) (by rw [Y0, Ym1, Y1] <;> decide +kernel) (by rw [Y0, Ym1, Y1] <;> decide +kernel) (by rw [Y2, Ym1, Y1, Y0] <;> decide +kernel)) rfl ?_
  simp only [fa_agg, fa_one, fa_nil, List.cons_append, List.nil_append, List.append_nil]
  refine call_step (n_vec_Of (1) (0) (0) (by decide) (by decide) (by decide) (by decide) (by decide) (by decide) (Y1.trans (by decide +kernel)) (Y0.trans (by decide +kernel)) (Y0.trans (by decide +kernel))) rfl ?_
  simp only [fa_agg, fa_one, fa_nil, List.cons_append, List.nil_append, List.append_nil]
  refine call_step (n_vec_Of (1) (0) (0) (by decide) (by decide) (by decide) (by decide) (by decide) (by decide) (Y1.trans (by decide +kernel)) (Y0.trans (by decide +kernel)) (Y0.trans (by decide +kernel))) rfl ?_
  simp only [fa_agg, fa_one, fa_nil, List.cons_append, List.nil_append, List.append_nil]
  refine call_step (n_vec_Of (0) (0) (1) (by decide) (by decide) (by decide) (by decide) (by decide) (by decide) (Y0.trans (by decide +kernel)) (Y0.trans (by decide +kernel)) (Y1.trans (by decide +kernel))) rfl ?_
  simp only [fa_agg, fa_one, fa_nil, List.cons_append, List.nil_append, List.append_nil]
  have m307 : Num 1 rz Z0 := Num.zz Y0
  refine call_step (n_affine_Inverse_0 (k0 := Z0) Y0 Y1 (m305.mono (by decide)) (m304.mono (by decide)) (m304.mono (by decide)) (m305.mono (by decide)) (m304.mono (by decide)) (m304.mono (by decide)) (m304.mono (by decide)) (m304.mono (by decide)) (m305.mono (by decide)) (m307.mono (by decide)) (m307.mono (by decide)) (m307.mono (by decide)) (by rw [Y0, Y1] <;> decide +kernel) rfl) rfl ?_
  simp only [fa_agg, fa_one, fa_nil, List.cons_append, List.nil_append, List.append_nil]
  refine call_step (n_vec_Of (2) (3) (5) (by decide) (by decide) (by decide) (by decide) (by decide) (by decide) (Y2.trans (by decide +kernel)) (Y3.trans (by decide +kernel)) (Y5.trans (by decide +kernel))) rfl ?_
  simp only [fa_agg, fa_one, fa_nil, List.cons_append, List.nil_append, List.append_nil]
  have m308 : Num 1 (cr Z2) Z2 := Num.c Y2 (by decide +kernel) (by decide +kernel)
  have m309 : Num 1 (cr Z3) Z3 := Num.c Y3 (by decide +kernel) (by decide +kernel)
  have m310 : Num 1 (cr Z5) Z5 := Num.c Y5 (by decide +kernel) (by decide +kernel)
  refine call_step (n_affine_Apply_0 (k0 := Z2) (k1 := Z3) (k2 := Zm3) (m305.mono (by decide)) (m304.mono (by decide)) (m304.mono (by decide)) (m304.mono (by decide)) (m305.mono (by decide)) (m304.mono (by decide)) (m304.mono (by decide)) (m304.mono (by decide)) (m306.mono (by decide)) (m304.mono (by decide)) (m304.mono (by decide)) (m308.mono (by decide)) (m308.mono (by decide)) (m309.mono (by decide)) (m310.mono (by decide)) (by rw [Y2, Y1, Y0, Y3, Y5] <;> decide +kernel) (by rw [Y3, Y0, Y2, Y1, Y5] <;> decide +kernel) (by rw [Ym3, Y0, Y2, Y3, Ym1, Y5] <;> decide +kernel)) rfl ?_
  simp only [fa_agg, fa_one, fa_nil, List.cons_append, List.nil_append, List.append_nil]
  refine call_step (n_penumbraref05_Of (2) (3) (-3) (by decide) (by decide) (by decide) (by decide) (by decide) (by decide) (Y2.trans (by decide +kernel)) (Y3.trans (by decide +kernel)) (Ym3.trans (by decide +kernel))) rfl ?_
  simp only [fa_agg, fa_one, fa_nil, List.cons_append, List.nil_append, List.append_nil]
  have m311 : Num 1 (cr Zm3) Zm3 := Num.c Ym3 (by decide +kernel) (by decide +kernel)
  refine call_step (n_penumbraref05_Is_0 (m308.mono (by decide)) (m309.mono (by decide)) (m311.mono (by decide)) (m308.mono (by decide)) (m309.mono (by decide)) (m311.mono (by decide)) rfl rfl rfl) rfl ?_
  simp only [fa_agg, fa_one, fa_nil, List.cons_append, List.nil_append, List.append_nil]
  refine itT rfl ?_
  refine call_step (n_vec_Of (0) (0) (1) (by decide) (by decide) (by decide) (by decide) (by decide) (by decide) (Y0.trans (by decide +kernel)) (Y0.trans (by decide +kernel)) (Y1.trans (by decide +kernel))) rfl ?_
  simp only [fa_agg, fa_one, fa_nil, List.cons_append, List.nil_append, List.append_nil]
  refine call_step (n_affine_Area_0 (k0 := Z0) (k1 := Z0) (k2 := Z1) (m305.mono (by decide)) (m304.mono (by decide)) (m304.mono (by decide)) (m304.mono (by decide)) (m305.mono (by decide)) (m304.mono (by decide)) (m304.mono (by decide)) (m304.mono (by decide)) (m306.mono (by decide)) (m304.mono (by decide)) (m304.mono (by decide)) (m308.mono (by decide)) (m304.mono (by decide)) (m304.mono (by decide)) (m305.mono (by decide)) (by rw [Y0, Y1, Ym1] <;> decide +kernel) (by rw [Y0, Ym1, Y1] <;> decide +kernel) (by rw [Y1, Y0] <;> decide +kernel)) rfl ?_
  simp only [fa_agg, fa_one, fa_nil, List.cons_append, List.nil_append, List.append_nil]
  refine call_step (n_penumbraref05_Of (0) (0) (1) (by decide) (by decide) (by decide) (by decide) (by decide) (by decide) (Y0.trans (by decide +kernel)) (Y0.trans (by decide +kernel)) (Y1.trans (by decide +kernel))) rfl ?_
  simp only [fa_agg, fa_one, fa_nil, List.cons_append, List.nil_append, List.append_nil]
  refine call_step (n_penumbraref05_Is_0 (m304.mono (by decide)) (m304.mono (by decide)) (m305.mono (by decide)) (m304.mono (by decide)) (m304.mono (by decide)) (m305.mono (by decide)) rfl rfl rfl) rfl ?_
  simp only [fa_agg, fa_one, fa_nil, List.cons_append, List.nil_append, List.append_nil]
  refine itT rfl ?_
  refine call_step (n_vec_Of (1) (0) (0) (by decide) (by decide) (by decide) (by decide) (by decide) (by decide) (Y1.trans (by decide +kernel)) (Y0.trans (by decide +kernel)) (Y0.trans (by decide +kernel))) rfl ?_
  simp only [fa_agg, fa_one, fa_nil, List.cons_append, List.nil_append, List.append_nil]
  refine call_step (n_affine_Area_0 (k0 := Zm1) (k1 := Z0) (k2 := Z0) (m305.mono (by decide)) (m304.mono (by decide)) (m304.mono (by decide)) (m304.mono (by decide)) (m305.mono (by decide)) (m304.mono (by decide)) (m304.mono (by decide)) (m304.mono (by decide)) (m306.mono (by decide)) (m304.mono (by decide)) (m304.mono (by decide)) (m308.mono (by decide)) (m305.mono (by decide)) (m304.mono (by decide)) (m304.mono (by decide)) (by rw [Ym1, Y1, Y0] <;> decide +kernel) (by rw [Y0, Ym1, Y1] <;> decide +kernel) (by rw [Y0, Y1] <;> decide +kernel)) rfl ?_
  simp only [fa_agg, fa_one, fa_nil, List.cons_append, List.nil_append, List.append_nil]
  refine call_step (n_penumbraref05_Of (-1) (0) (0) (by decide) (by decide) (by decide) (by decide) (by decide) (by decide) (Ym1.trans (by decide +kernel)) (Y0.trans (by decide +kernel)) (Y0.trans (by decide +kernel))) rfl ?_
  simp only [fa_agg, fa_one, fa_nil, List.cons_append, List.nil_append, List.append_nil]
  refine call_step (n_penumbraref05_Is_0 (m306.mono (by decide)) (m304.mono (by decide)) (m304.mono (by decide)) (m306.mono (by decide)) (m304.mono (by decide)) (m304.mono (by decide)) rfl rfl rfl) rfl ?_
  simp only [fa_agg, fa_one, fa_nil, List.cons_append, List.nil_append, List.append_nil]
  refine itT rfl ?_
  refine primS (.bool true) rfl ?_
  refine itT rfl ?_
  refine call_step (n_affine_Identity_0 Y0 Y1) rfl ?_
  simp only [fa_agg, fa_one, fa_nil, List.cons_append, List.nil_append, List.append_nil]
  refine call_step (n_penumbraref07_Identity_0 Y0 Y1) rfl ?_
  simp only [fa_agg, fa_one, fa_nil, List.cons_append, List.nil_append, List.append_nil]
  refine call_step (n_penumbraref07_Is_0 (m305.mono (by decide)) (m304.mono (by decide)) (m304.mono (by decide)) (m304.mono (by decide)) (m305.mono (by decide)) (m304.mono (by decide)) (m304.mono (by decide)) (m304.mono (by decide)) (m305.mono (by decide)) (m304.mono (by decide)) (m304.mono (by decide)) (m304.mono (by decide)) (m305.mono (by decide)) (m304.mono (by decide)) (m304.mono (by decide)) (m304.mono (by decide)) (m305.mono (by decide)) (m304.mono (by decide)) (m304.mono (by decide)) (m304.mono (by decide)) (m305.mono (by decide)) (m304.mono (by decide)) (m304.mono (by decide)) (m304.mono (by decide)) rfl rfl rfl rfl rfl rfl rfl rfl rfl rfl rfl rfl) rfl ?_
  simp only [fa_agg, fa_one, fa_nil, List.cons_append, List.nil_append, List.append_nil]
  exact ret_step rfl

theorem n_penumbraref07_stretched_0 {Z1 : Rat} (Y1 : Z1 = (1 : Rat)) {r0 r1 r2 r3 r4 r5 r6 r7 r8 r9 : RR} {x0 x1 x2 x3 x4 x5 x6 x7 x8 x9 : Rat} {k0 k1 k2 : Rat} (h0 : Num 90000000 r0 x0) (h1 : Num 90000000 r1 x1) (h2 : Num 90000000 r2 x2) (h3 : Num 90000000 r3 x3) (h4 : Num 90000000 r4 x4) (h5 : Num 90000000 r5 x5) (h6 : Num 90000000 r6 x6) (h7 : Num 90000000 r7 x7) (h8 : Num 90000000 r8 x8) (h9 : Num 90000000 r9 x9) (e0 : k0 = (x7 + (((x6 - Z1) * ((((x7 - x0) * x3) + ((x8 - x1) * x4)) + ((x9 - x2) * x5))) * x3))) (e1 : k1 = (x8 + (((x6 - Z1) * ((((x7 - x0) * x3) + ((x8 - x1) * x4)) + ((x9 - x2) * x5))) * x4))) (e2 : k2 = (x9 + (((x6 - Z1) * ((((x7 - x0) * x3) + ((x8 - x1) * x4)) + ((x9 - x2) * x5))) * x5)))  : PureCalls prog F.penumbraref07_stretched [.agg ([.bool r0.neg, nl r0.num, nl r0.den, .bool r1.neg, nl r1.num, nl r1.den, .bool r2.neg, nl r2.num, nl r2.den]), .agg ([.bool r3.neg, nl r3.num, nl r3.den, .bool r4.neg, nl r4.num, nl r4.den, .bool r5.neg, nl r5.num, nl r5.den]), .agg ([.bool r6.neg, nl r6.num, nl r6.den]), .agg ([.bool r7.neg, nl r7.num, nl r7.den, .bool r8.neg, nl r8.num, nl r8.den, .bool r9.neg, nl r9.num, nl r9.den])] [.agg ([.bool (decide ((k0).num < 0)), nn (k0).num.natAbs, nn (k0).den, .bool (decide ((k1).num < 0)), nn (k1).num.natAbs, nn (k1).den, .bool (decide ((k2).num < 0)), nn (k2).num.natAbs, nn (k2).den])] := by
  subst e0 e1 e2
  refine symFunc_sound hmix tree_penumbraref07_stretched (by kernel_rfl) rfl ?_
  unfold ir_penumbraref07_stretched
  simp only [fa_agg, fa_one, fa_nil, List.cons_append, List.nil_append, List.append_nil]
  refine call_step (n_penumbraref03_One Y1) rfl ?_
  simp only [fa_agg, fa_one, fa_nil, List.cons_append, List.nil_append, List.append_nil]
  have m329 : Num 1 (cr Z1) Z1 := Num.c Y1 (by decide +kernel) (by decide +kernel)
  refine call_step (n_penumbraref03_Sub (k0 := (x6 - Z1)) (h6.mono (by decide)) (m329.mono (by decide)) rfl) rfl ?_
  simp only [fa_agg, fa_one, fa_nil, List.cons_append, List.nil_append, List.append_nil]
  refine call_step (n_penumbraref05_Sub_0 (k0 := (x7 - x0)) (k1 := (x8 - x1)) (k2 := (x9 - x2)) (h7.mono (by decide)) (h8.mono (by decide)) (h9.mono (by decide)) (h0.mono (by decide)) (h1.mono (by decide)) (h2.mono (by decide)) rfl rfl rfl) rfl ?_
  simp only [fa_agg, fa_one, fa_nil, List.cons_append, List.nil_append, List.append_nil]
  have m330 : Num 180000001 (cr (x7 - x0)) (x7 - x0) := Num.of (Sm.sub h7.sm h0.sm)
  have m331 : Num 180000001 (cr (x8 - x1)) (x8 - x1) := Num.of (Sm.sub h8.sm h1.sm)
  have m332 : Num 180000001 (cr (x9 - x2)) (x9 - x2) := Num.of (Sm.sub h9.sm h2.sm)
  refine call_step (n_penumbraref05_Dot_0 (k0 := ((((x7 - x0) * x3) + ((x8 - x1) * x4)) + ((x9 - x2) * x5))) (m330.mono (by decide)) (m331.mono (by decide)) (m332.mono (by decide)) (h3.mono (by decide)) (h4.mono (by decide)) (h5.mono (by decide)) rfl) rfl ?_
  simp only [fa_agg, fa_one, fa_nil, List.cons_append, List.nil_append, List.append_nil]
  have m333 : Num 90000002 (cr (x6 - Z1)) (x6 - Z1) := Num.of (Sm.sub h6.sm m329.sm)
  have m334 : Num 810000005 (cr ((((x7 - x0) * x3) + ((x8 - x1) * x4)) + ((x9 - x2) * x5))) ((((x7 - x0) * x3) + ((x8 - x1) * x4)) + ((x9 - x2) * x5)) := Num.of (Sm.add (Sm.add (Sm.mul m330.sm h3.sm) (Sm.mul m331.sm h4.sm)) (Sm.mul m332.sm h5.sm))
  refine call_step (n_penumbraref03_Mul (k0 := ((x6 - Z1) * ((((x7 - x0) * x3) + ((x8 - x1) * x4)) + ((x9 - x2) * x5)))) (m333.mono (by decide)) (m334.mono (by decide)) rfl) rfl ?_
  simp only [fa_agg, fa_one, fa_nil, List.cons_append, List.nil_append, List.append_nil]
  have m335 : Num 900000007 (cr ((x6 - Z1) * ((((x7 - x0) * x3) + ((x8 - x1) * x4)) + ((x9 - x2) * x5)))) ((x6 - Z1) * ((((x7 - x0) * x3) + ((x8 - x1) * x4)) + ((x9 - x2) * x5))) := Num.of (Sm.mul m333.sm m334.sm)
  refine call_step (n_penumbraref05_Scale_0 (k0 := (((x6 - Z1) * ((((x7 - x0) * x3) + ((x8 - x1) * x4)) + ((x9 - x2) * x5))) * x3)) (k1 := (((x6 - Z1) * ((((x7 - x0) * x3) + ((x8 - x1) * x4)) + ((x9 - x2) * x5))) * x4)) (k2 := (((x6 - Z1) * ((((x7 - x0) * x3) + ((x8 - x1) * x4)) + ((x9 - x2) * x5))) * x5)) (m335.mono (by decide)) (h3.mono (by decide)) (h4.mono (by decide)) (h5.mono (by decide)) rfl rfl rfl) rfl ?_
  simp only [fa_agg, fa_one, fa_nil, List.cons_append, List.nil_append, List.append_nil]
  have m336 : Num 990000007 (cr (((x6 - Z1) * ((((x7 - x0) * x3) + ((x8 - x1) * x4)) + ((x9 - x2) * x5))) * x3)) (((x6 - Z1) * ((((x7 - x0) * x3) + ((x8 - x1) * x4)) + ((x9 - x2) * x5))) * x3) := Num.of (Sm.mul m335.sm h3.sm)
  have m337 : Num 990000007 (cr (((x6 - Z1) * ((((x7 - x0) * x3) + ((x8 - x1) * x4)) + ((x9 - x2) * x5))) * x4)) (((x6 - Z1) * ((((x7 - x0) * x3) + ((x8 - x1) * x4)) + ((x9 - x2) * x5))) * x4) := Num.of (Sm.mul m335.sm h4.sm)
  have m338 : Num 990000007 (cr (((x6 - Z1) * ((((x7 - x0) * x3) + ((x8 - x1) * x4)) + ((x9 - x2) * x5))) * x5)) (((x6 - Z1) * ((((x7 - x0) * x3) + ((x8 - x1) * x4)) + ((x9 - x2) * x5))) * x5) := Num.of (Sm.mul m335.sm h5.sm)
  refine call_step (n_penumbraref05_Add_0 (k0 := (x7 + (((x6 - Z1) * ((((x7 - x0) * x3) + ((x8 - x1) * x4)) + ((x9 - x2) * x5))) * x3))) (k1 := (x8 + (((x6 - Z1) * ((((x7 - x0) * x3) + ((x8 - x1) * x4)) + ((x9 - x2) * x5))) * x4))) (k2 := (x9 + (((x6 - Z1) * ((((x7 - x0) * x3) + ((x8 - x1) * x4)) + ((x9 - x2) * x5))) * x5))) (h7.mono (by decide)) (h8.mono (by decide)) (h9.mono (by decide)) (m336.mono (by decide)) (m337.mono (by decide)) (m338.mono (by decide)) rfl rfl rfl) rfl ?_
  simp only [fa_agg, fa_one, fa_nil, List.cons_append, List.nil_append, List.append_nil]
  exact ret_step rfl

theorem n_penumbraref07_Stretch_0 {Z0 Z1 : Rat} (Y0 : Z0 = (0 : Rat)) (Y1 : Z1 = (1 : Rat)) {r0 r1 r2 r3 r4 r5 r6 : RR} {x0 x1 x2 x3 x4 x5 x6 : Rat} {k0 k1 k2 k3 k4 k5 k6 k7 k8 k9 k10 k11 : Rat} (h0 : Num 90000000 r0 x0) (h1 : Num 90000000 r1 x1) (h2 : Num 90000000 r2 x2) (h3 : Num 90000000 r3 x3) (h4 : Num 90000000 r4 x4) (h5 : Num 90000000 r5 x5) (h6 : Num 90000000 r6 x6) (e0 : k0 = (Z0 + (((x6 - Z1) * ((((Z0 - x0) * x3) + ((Z0 - x1) * x4)) + ((Z0 - x2) * x5))) * x3))) (e1 : k1 = ((Z1 + (((x6 - Z1) * ((((Z1 - x0) * x3) + ((Z0 - x1) * x4)) + ((Z0 - x2) * x5))) * x3)) - k0)) (e2 : k2 = ((Z0 + (((x6 - Z1) * ((((Z0 - x0) * x3) + ((Z1 - x1) * x4)) + ((Z0 - x2) * x5))) * x3)) - k0)) (e3 : k3 = ((Z0 + (((x6 - Z1) * ((((Z0 - x0) * x3) + ((Z0 - x1) * x4)) + ((Z1 - x2) * x5))) * x3)) - k0)) (e4 : k4 = (Z0 + (((x6 - Z1) * ((((Z0 - x0) * x3) + ((Z0 - x1) * x4)) + ((Z0 - x2) * x5))) * x4))) (e5 : k5 = ((Z0 + (((x6 - Z1) * ((((Z1 - x0) * x3) + ((Z0 - x1) * x4)) + ((Z0 - x2) * x5))) * x4)) - k4)) (e6 : k6 = ((Z1 + (((x6 - Z1) * ((((Z0 - x0) * x3) + ((Z1 - x1) * x4)) + ((Z0 - x2) * x5))) * x4)) - k4)) (e7 : k7 = ((Z0 + (((x6 - Z1) * ((((Z0 - x0) * x3) + ((Z0 - x1) * x4)) + ((Z1 - x2) * x5))) * x4)) - k4)) (e8 : k8 = (Z0 + (((x6 - Z1) * ((((Z0 - x0) * x3) + ((Z0 - x1) * x4)) + ((Z0 - x2) * x5))) * x5))) (e9 : k9 = ((Z0 + (((x6 - Z1) * ((((Z1 - x0) * x3) + ((Z0 - x1) * x4)) + ((Z0 - x2) * x5))) * x5)) - k8)) (e10 : k10 = ((Z0 + (((x6 - Z1) * ((((Z0 - x0) * x3) + ((Z1 - x1) * x4)) + ((Z0 - x2) * x5))) * x5)) - k8)) (e11 : k11 = ((Z1 + (((x6 - Z1) * ((((Z0 - x0) * x3) + ((Z0 - x1) * x4)) + ((Z1 - x2) * x5))) * x5)) - k8))  : PureCalls prog F.penumbraref07_Stretch [.agg ([.bool r0.neg, nl r0.num, nl r0.den, .bool r1.neg, nl r1.num, nl r1.den, .bool r2.neg, nl r2.num, nl r2.den]), .agg ([.bool r3.neg, nl r3.num, nl r3.den, .bool r4.neg, nl r4.num, nl r4.den, .bool r5.neg, nl r5.num, nl r5.den]), .agg ([.bool r6.neg, nl r6.num, nl r6.den])] [.agg ([.bool (decide ((k1).num < 0)), nn (k1).num.natAbs, nn (k1).den, .bool (decide ((k2).num < 0)), nn (k2).num.natAbs, nn (k2).den, .bool (decide ((k3).num < 0)), nn (k3).num.natAbs, nn (k3).den, .bool (decide ((k5).num < 0)), nn (k5).num.natAbs, nn (k5).den, .bool (decide ((k6).num < 0)), nn (k6).num.natAbs, nn (k6).den, .bool (decide ((k7).num < 0)), nn (k7).num.natAbs, nn (k7).den, .bool (decide ((k9).num < 0)), nn (k9).num.natAbs, nn (k9).den, .bool (decide ((k10).num < 0)), nn (k10).num.natAbs, nn (k10).den, .bool (decide ((k11).num < 0)), nn (k11).num.natAbs, nn (k11).den, .bool (decide ((k0).num < 0)), nn (k0).num.natAbs, nn (k0).den, .bool (decide ((k4).num < 0)), nn (k4).num.natAbs, nn (k4).den, .bool (decide ((k8).num < 0)), nn (k8).num.natAbs, nn (k8).den])] := by
  subst e0 e1 e2 e3 e4 e5 e6 e7 e8 e9 e10 e11
  refine symFunc_sound hmix tree_penumbraref07_Stretch (by kernel_rfl) rfl ?_
  unfold ir_penumbraref07_Stretch
  simp only [fa_agg, fa_one, fa_nil, List.cons_append, List.nil_append, List.append_nil]
  refine call_step (n_penumbraref05_Zero_0 Y0) rfl ?_
  simp only [fa_agg, fa_one, fa_nil, List.cons_append, List.nil_append, List.append_nil]
  have m353 : Num 1 (cr Z0) Z0 := Num.c Y0 (by decide +kernel) (by decide +kernel)
  refine call_step (n_penumbraref07_stretched_0 (k0 := (Z0 + (((x6 - Z1) * ((((Z0 - x0) * x3) + ((Z0 - x1) * x4)) + ((Z0 - x2) * x5))) * x3))) (k1 := (Z0 + (((x6 - Z1) * ((((Z0 - x0) * x3) + ((Z0 - x1) * x4)) + ((Z0 - x2) * x5))) * x4))) (k2 := (Z0 + (((x6 - Z1) * ((((Z0 - x0) * x3) + ((Z0 - x1) * x4)) + ((Z0 - x2) * x5))) * x5))) Y1 (h0.mono (by decide)) (h1.mono (by decide)) (h2.mono (by decide)) (h3.mono (by decide)) (h4.mono (by decide)) (h5.mono (by decide)) (h6.mono (by decide)) (m353.mono (by decide)) (m353.mono (by decide)) (m353.mono (by decide)) rfl rfl rfl) rfl ?_
  simp only [fa_agg, fa_one, fa_nil, List.cons_append, List.nil_append, List.append_nil]
  refine call_step (n_penumbraref05_Of (1) (0) (0) (by decide) (by decide) (by decide) (by decide) (by decide) (by decide) (Y1.trans (by decide +kernel)) (Y0.trans (by decide +kernel)) (Y0.trans (by decide +kernel))) rfl ?_
  simp only [fa_agg, fa_one, fa_nil, List.cons_append, List.nil_append, List.append_nil]
  have m354 : Num 1 (cr Z1) Z1 := Num.c Y1 (by decide +kernel) (by decide +kernel)
  refine call_step (n_penumbraref07_stretched_0 (k0 := (Z1 + (((x6 - Z1) * ((((Z1 - x0) * x3) + ((Z0 - x1) * x4)) + ((Z0 - x2) * x5))) * x3))) (k1 := (Z0 + (((x6 - Z1) * ((((Z1 - x0) * x3) + ((Z0 - x1) * x4)) + ((Z0 - x2) * x5))) * x4))) (k2 := (Z0 + (((x6 - Z1) * ((((Z1 - x0) * x3) + ((Z0 - x1) * x4)) + ((Z0 - x2) * x5))) * x5))) Y1 (h0.mono (by decide)) (h1.mono (by decide)) (h2.mono (by decide)) (h3.mono (by decide)) (h4.mono (by decide)) (h5.mono (by decide)) (h6.mono (by decide)) (m354.mono (by decide)) (m353.mono (by decide)) (m353.mono (by decide)) rfl rfl rfl) rfl ?_
  simp only [fa_agg, fa_one, fa_nil, List.cons_append, List.nil_append, List.append_nil]
  refine call_step (n_penumbraref05_Of (0) (1) (0) (by decide) (by decide) (by decide) (by decide) (by decide) (by decide) (Y0.trans (by decide +kernel)) (Y1.trans (by decide +kernel)) (Y0.trans (by decide +kernel))) rfl ?_
  simp only [fa_agg, fa_one, fa_nil, List.cons_append, List.nil_append, List.append_nil]
  refine call_step (n_penumbraref07_stretched_0 (k0 := (Z0 + (((x6 - Z1) * ((((Z0 - x0) * x3) + ((Z1 - x1) * x4)) + ((Z0 - x2) * x5))) * x3))) (k1 := (Z1 + (((x6 - Z1) * ((((Z0 - x0) * x3) + ((Z1 - x1) * x4)) + ((Z0 - x2) * x5))) * x4))) (k2 := (Z0 + (((x6 - Z1) * ((((Z0 - x0) * x3) + ((Z1 - x1) * x4)) + ((Z0 - x2) * x5))) * x5))) Y1 (h0.mono (by decide)) (h1.mono (by decide)) (h2.mono (by decide)) (h3.mono (by decide)) (h4.mono (by decide)) (h5.mono (by decide)) (h6.mono (by decide)) (m353.mono (by decide)) (m354.mono (by decide)) (m353.mono (by decide)) rfl rfl rfl) rfl ?_
  simp only [fa_agg, fa_one, fa_nil, List.cons_append, List.nil_append, List.append_nil]
  refine call_step (n_penumbraref05_Of (0) (0) (1) (by decide) (by decide) (by decide) (by decide) (by decide) (by decide) (Y0.trans (by decide +kernel)) (Y0.trans (by decide +kernel)) (Y1.trans (by decide +kernel))) rfl ?_
  simp only [fa_agg, fa_one, fa_nil, List.cons_append, List.nil_append, List.append_nil]
  refine call_step (n_penumbraref07_stretched_0 (k0 := (Z0 + (((x6 - Z1) * ((((Z0 - x0) * x3) + ((Z0 - x1) * x4)) + ((Z1 - x2) * x5))) * x3))) (k1 := (Z0 + (((x6 - Z1) * ((((Z0 - x0) * x3) + ((Z0 - x1) * x4)) + ((Z1 - x2) * x5))) * x4))) (k2 := (Z1 + (((x6 - Z1) * ((((Z0 - x0) * x3) + ((Z0 - x1) * x4)) + ((Z1 - x2) * x5))) * x5))) Y1 (h0.mono (by decide)) (h1.mono (by decide)) (h2.mono (by decide)) (h3.mono (by decide)) (h4.mono (by decide)) (h5.mono (by decide)) (h6.mono (by decide)) (m353.mono (by decide)) (m353.mono (by decide)) (m354.mono (by decide)) rfl rfl rfl) rfl ?_
  simp only [fa_agg, fa_one, fa_nil, List.cons_append, List.nil_append, List.append_nil]
  have m355 : Num 720000012 (cr (Z0 + (((x6 - Z1) * ((((Z0 - x0) * x3) + ((Z0 - x1) * x4)) + ((Z0 - x2) * x5))) * x3))) (Z0 + (((x6 - Z1) * ((((Z0 - x0) * x3) + ((Z0 - x1) * x4)) + ((Z0 - x2) * x5))) * x3)) := Num.of (Sm.add m353.sm (Sm.mul (Sm.mul (Sm.sub h6.sm m354.sm) (Sm.add (Sm.add (Sm.mul (Sm.sub m353.sm h0.sm) h3.sm) (Sm.mul (Sm.sub m353.sm h1.sm) h4.sm)) (Sm.mul (Sm.sub m353.sm h2.sm) h5.sm))) h3.sm))
  have m356 : Num 720000012 (cr (Z0 + (((x6 - Z1) * ((((Z0 - x0) * x3) + ((Z0 - x1) * x4)) + ((Z0 - x2) * x5))) * x4))) (Z0 + (((x6 - Z1) * ((((Z0 - x0) * x3) + ((Z0 - x1) * x4)) + ((Z0 - x2) * x5))) * x4)) := Num.of (Sm.add m353.sm (Sm.mul (Sm.mul (Sm.sub h6.sm m354.sm) (Sm.add (Sm.add (Sm.mul (Sm.sub m353.sm h0.sm) h3.sm) (Sm.mul (Sm.sub m353.sm h1.sm) h4.sm)) (Sm.mul (Sm.sub m353.sm h2.sm) h5.sm))) h4.sm))
  have m357 : Num 720000012 (cr (Z0 + (((x6 - Z1) * ((((Z0 - x0) * x3) + ((Z0 - x1) * x4)) + ((Z0 - x2) * x5))) * x5))) (Z0 + (((x6 - Z1) * ((((Z0 - x0) * x3) + ((Z0 - x1) * x4)) + ((Z0 - x2) * x5))) * x5)) := Num.of (Sm.add m353.sm (Sm.mul (Sm.mul (Sm.sub h6.sm m354.sm) (Sm.add (Sm.add (Sm.mul (Sm.sub m353.sm h0.sm) h3.sm) (Sm.mul (Sm.sub m353.sm h1.sm) h4.sm)) (Sm.mul (Sm.sub m353.sm h2.sm) h5.sm))) h5.sm))
  have m358 : Num 720000012 (cr (Z1 + (((x6 - Z1) * ((((Z1 - x0) * x3) + ((Z0 - x1) * x4)) + ((Z0 - x2) * x5))) * x3))) (Z1 + (((x6 - Z1) * ((((Z1 - x0) * x3) + ((Z0 - x1) * x4)) + ((Z0 - x2) * x5))) * x3)) := Num.of (Sm.add m354.sm (Sm.mul (Sm.mul (Sm.sub h6.sm m354.sm) (Sm.add (Sm.add (Sm.mul (Sm.sub m354.sm h0.sm) h3.sm) (Sm.mul (Sm.sub m353.sm h1.sm) h4.sm)) (Sm.mul (Sm.sub m353.sm h2.sm) h5.sm))) h3.sm))
  have m359 : Num 720000012 (cr (Z0 + (((x6 - Z1) * ((((Z1 - x0) * x3) + ((Z0 - x1) * x4)) + ((Z0 - x2) * x5))) * x4))) (Z0 + (((x6 - Z1) * ((((Z1 - x0) * x3) + ((Z0 - x1) * x4)) + ((Z0 - x2) * x5))) * x4)) := Num.of (Sm.add m353.sm (Sm.mul (Sm.mul (Sm.sub h6.sm m354.sm) (Sm.add (Sm.add (Sm.mul (Sm.sub m354.sm h0.sm) h3.sm) (Sm.mul (Sm.sub m353.sm h1.sm) h4.sm)) (Sm.mul (Sm.sub m353.sm h2.sm) h5.sm))) h4.sm))
  have m360 : Num 720000012 (cr (Z0 + (((x6 - Z1) * ((((Z1 - x0) * x3) + ((Z0 - x1) * x4)) + ((Z0 - x2) * x5))) * x5))) (Z0 + (((x6 - Z1) * ((((Z1 - x0) * x3) + ((Z0 - x1) * x4)) + ((Z0 - x2) * x5))) * x5)) := Num.of (Sm.add m353.sm (Sm.mul (Sm.mul (Sm.sub h6.sm m354.sm) (Sm.add (Sm.add (Sm.mul (Sm.sub m354.sm h0.sm) h3.sm) (Sm.mul (Sm.sub m353.sm h1.sm) h4.sm)) (Sm.mul (Sm.sub m353.sm h2.sm) h5.sm))) h5.sm))
  have m361 : Num 720000012 (cr (Z0 + (((x6 - Z1) * ((((Z0 - x0) * x3) + ((Z1 - x1) * x4)) + ((Z0 - x2) * x5))) * x3))) (Z0 + (((x6 - Z1) * ((((Z0 - x0) * x3) + ((Z1 - x1) * x4)) + ((Z0 - x2) * x5))) * x3)) := Num.of (Sm.add m353.sm (Sm.mul (Sm.mul (Sm.sub h6.sm m354.sm) (Sm.add (Sm.add (Sm.mul (Sm.sub m353.sm h0.sm) h3.sm) (Sm.mul (Sm.sub m354.sm h1.sm) h4.sm)) (Sm.mul (Sm.sub m353.sm h2.sm) h5.sm))) h3.sm))
  have m362 : Num 720000012 (cr (Z1 + (((x6 - Z1) * ((((Z0 - x0) * x3) + ((Z1 - x1) * x4)) + ((Z0 - x2) * x5))) * x4))) (Z1 + (((x6 - Z1) * ((((Z0 - x0) * x3) + ((Z1 - x1) * x4)) + ((Z0 - x2) * x5))) * x4)) := Num.of (Sm.add m354.sm (Sm.mul (Sm.mul (Sm.sub h6.sm m354.sm) (Sm.add (Sm.add (Sm.mul (Sm.sub m353.sm h0.sm) h3.sm) (Sm.mul (Sm.sub m354.sm h1.sm) h4.sm)) (Sm.mul (Sm.sub m353.sm h2.sm) h5.sm))) h4.sm))
  have m363 : Num 720000012 (cr (Z0 + (((x6 - Z1) * ((((Z0 - x0) * x3) + ((Z1 - x1) * x4)) + ((Z0 - x2) * x5))) * x5))) (Z0 + (((x6 - Z1) * ((((Z0 - x0) * x3) + ((Z1 - x1) * x4)) + ((Z0 - x2) * x5))) * x5)) := Num.of (Sm.add m353.sm (Sm.mul (Sm.mul (Sm.sub h6.sm m354.sm) (Sm.add (Sm.add (Sm.mul (Sm.sub m353.sm h0.sm) h3.sm) (Sm.mul (Sm.sub m354.sm h1.sm) h4.sm)) (Sm.mul (Sm.sub m353.sm h2.sm) h5.sm))) h5.sm))
  have m364 : Num 720000012 (cr (Z0 + (((x6 - Z1) * ((((Z0 - x0) * x3) + ((Z0 - x1) * x4)) + ((Z1 - x2) * x5))) * x3))) (Z0 + (((x6 - Z1) * ((((Z0 - x0) * x3) + ((Z0 - x1) * x4)) + ((Z1 - x2) * x5))) * x3)) := Num.of (Sm.add m353.sm (Sm.mul (Sm.mul (Sm.sub h6.sm m354.sm) (Sm.add (Sm.add (Sm.mul (Sm.sub m353.sm h0.sm) h3.sm) (Sm.mul (Sm.sub m353.sm h1.sm) h4.sm)) (Sm.mul (Sm.sub m354.sm h2.sm) h5.sm))) h3.sm))
  have m365 : Num 720000012 (cr (Z0 + (((x6 - Z1) * ((((Z0 - x0) * x3) + ((Z0 - x1) * x4)) + ((Z1 - x2) * x5))) * x4))) (Z0 + (((x6 - Z1) * ((((Z0 - x0) * x3) + ((Z0 - x1) * x4)) + ((Z1 - x2) * x5))) * x4)) := Num.of (Sm.add m353.sm (Sm.mul (Sm.mul (Sm.sub h6.sm m354.sm) (Sm.add (Sm.add (Sm.mul (Sm.sub m353.sm h0.sm) h3.sm) (Sm.mul (Sm.sub m353.sm h1.sm) h4.sm)) (Sm.mul (Sm.sub m354.sm h2.sm) h5.sm))) h4.sm))
  have m366 : Num 720000012 (cr (Z1 + (((x6 - Z1) * ((((Z0 - x0) * x3) + ((Z0 - x1) * x4)) + ((Z1 - x2) * x5))) * x5))) (Z1 + (((x6 - Z1) * ((((Z0 - x0) * x3) + ((Z0 - x1) * x4)) + ((Z1 - x2) * x5))) * x5)) := Num.of (Sm.add m354.sm (Sm.mul (Sm.mul (Sm.sub h6.sm m354.sm) (Sm.add (Sm.add (Sm.mul (Sm.sub m353.sm h0.sm) h3.sm) (Sm.mul (Sm.sub m353.sm h1.sm) h4.sm)) (Sm.mul (Sm.sub m354.sm h2.sm) h5.sm))) h5.sm))
  refine call_step (n_penumbraref07_Told_0 (k0 := ((Z1 + (((x6 - Z1) * ((((Z1 - x0) * x3) + ((Z0 - x1) * x4)) + ((Z0 - x2) * x5))) * x3)) - (Z0 + (((x6 - Z1) * ((((Z0 - x0) * x3) + ((Z0 - x1) * x4)) + ((Z0 - x2) * x5))) * x3)))) (k1 := ((Z0 + (((x6 - Z1) * ((((Z0 - x0) * x3) + ((Z1 - x1) * x4)) + ((Z0 - x2) * x5))) * x3)) - (Z0 + (((x6 - Z1) * ((((Z0 - x0) * x3) + ((Z0 - x1) * x4)) + ((Z0 - x2) * x5))) * x3)))) (k2 := ((Z0 + (((x6 - Z1) * ((((Z0 - x0) * x3) + ((Z0 - x1) * x4)) + ((Z1 - x2) * x5))) * x3)) - (Z0 + (((x6 - Z1) * ((((Z0 - x0) * x3) + ((Z0 - x1) * x4)) + ((Z0 - x2) * x5))) * x3)))) (k3 := ((Z0 + (((x6 - Z1) * ((((Z1 - x0) * x3) + ((Z0 - x1) * x4)) + ((Z0 - x2) * x5))) * x4)) - (Z0 + (((x6 - Z1) * ((((Z0 - x0) * x3) + ((Z0 - x1) * x4)) + ((Z0 - x2) * x5))) * x4)))) (k4 := ((Z1 + (((x6 - Z1) * ((((Z0 - x0) * x3) + ((Z1 - x1) * x4)) + ((Z0 - x2) * x5))) * x4)) - (Z0 + (((x6 - Z1) * ((((Z0 - x0) * x3) + ((Z0 - x1) * x4)) + ((Z0 - x2) * x5))) * x4)))) (k5 := ((Z0 + (((x6 - Z1) * ((((Z0 - x0) * x3) + ((Z0 - x1) * x4)) + ((Z1 - x2) * x5))) * x4)) - (Z0 + (((x6 - Z1) * ((((Z0 - x0) * x3) + ((Z0 - x1) * x4)) + ((Z0 - x2) * x5))) * x4)))) (k6 := ((Z0 + (((x6 - Z1) * ((((Z1 - x0) * x3) + ((Z0 - x1) * x4)) + ((Z0 - x2) * x5))) * x5)) - (Z0 + (((x6 - Z1) * ((((Z0 - x0) * x3) + ((Z0 - x1) * x4)) + ((Z0 - x2) * x5))) * x5)))) (k7 := ((Z0 + (((x6 - Z1) * ((((Z0 - x0) * x3) + ((Z1 - x1) * x4)) + ((Z0 - x2) * x5))) * x5)) - (Z0 + (((x6 - Z1) * ((((Z0 - x0) * x3) + ((Z0 - x1) * x4)) + ((Z0 - x2) * x5))) * x5)))) (k8 := ((Z1 + (((x6 - Z1) * ((((Z0 - x0) * x3) + ((Z0 - x1) * x4)) + ((Z1 - x2) * x5))) * x5)) - (Z0 + (((x6 - Z1) * ((((Z0 - x0) * x3) + ((Z0 - x1) * x4)) + ((Z0 - x2) * x5))) * x5)))) (m355.mono (by decide)) (m356.mono (by decide)) (m357.mono (by decide)) (m358.mono (by decide)) (m359.mono (by decide)) (m360.mono (by decide)) (m361.mono (by decide)) (m362.mono (by decide)) (m363.mono (by decide)) (m364.mono (by decide)) (m365.mono (by decide)) (m366.mono (by decide)) rfl rfl rfl rfl rfl rfl rfl rfl rfl) rfl ?_
  simp only [fa_agg, fa_one, fa_nil, List.cons_append, List.nil_append, List.append_nil]
  exact ret_step rfl

end Go.Px.Na

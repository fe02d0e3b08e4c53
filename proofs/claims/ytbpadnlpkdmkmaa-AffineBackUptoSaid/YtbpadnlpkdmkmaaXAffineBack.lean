/- XAffineBack: the trees of functions and their contracts, as programs of mine printed them. -/
import Derived.Test.YtbpadnlpkdmkmaaLs
import Derived.Test.YtbpadnlpkdmkmaaPx24
import Derived.Test.YtbpadnlpkdmkmaaProg
import Derived.Tactics
set_option maxRecDepth 20000
set_option maxHeartbeats 40000000
set_option linter.unusedVariables false
set_option linter.unusedSimpArgs false
namespace Go.Px
open Go.RowKit
def ir_affine_columns : IR :=
 .ret [.agg [.var 0, .var 1, .var 2, .var 9, .var 10, .var 11, .var 18, .var 19, .var 20, .var 3, .var 4, .var 5, .var 12, .var 13, .var 14, .var 21, .var 22, .var 23, .var 6, .var 7, .var 8, .var 15, .var 16, .var 17, .var 24, .var 25, .var 26]]

def ir_vec_Dot : IR :=
 .prim (.mk 2) [.var 0, .var 1, .var 2, .var 9, .var 10, .var 11] <|
 .call F.rat_Product [.one (.var 18)] [.agg 3] <|
 .prim (.mk 2) [.var 3, .var 4, .var 5, .var 12, .var 13, .var 14] <|
 .call F.rat_Product [.one (.var 22)] [.agg 3] <|
 .prim (.mk 2) [.var 6, .var 7, .var 8, .var 15, .var 16, .var 17] <|
 .call F.rat_Product [.one (.var 26)] [.agg 3] <|
 .prim (.mk 3) [.var 19, .var 20, .var 21, .var 23, .var 24, .var 25, .var 27, .var 28, .var 29] <|
 .call F.rat_Sum [.one (.var 30)] [.agg 3] <|
 .ret [.agg [.var 31, .var 32, .var 33]]

def ir_affine_Then_1 : IR :=
 .call F.vec_Dot [.agg [.var 0, .var 1, .var 2, .var 3, .var 4, .var 5, .var 6, .var 7, .var 8], .agg [.var 9, .var 10, .var 11, .var 12, .var 13, .var 14, .var 15, .var 16, .var 17]] [.agg 3] <|
 .call F.vec_Dot [.agg [.var 0, .var 1, .var 2, .var 3, .var 4, .var 5, .var 6, .var 7, .var 8], .agg [.var 18, .var 19, .var 20, .var 21, .var 22, .var 23, .var 24, .var 25, .var 26]] [.agg 3] <|
 .call F.vec_Dot [.agg [.var 0, .var 1, .var 2, .var 3, .var 4, .var 5, .var 6, .var 7, .var 8], .agg [.var 27, .var 28, .var 29, .var 30, .var 31, .var 32, .var 33, .var 34, .var 35]] [.agg 3] <|
 .ret [.agg [.var 36, .var 37, .var 38, .var 39, .var 40, .var 41, .var 42, .var 43, .var 44]]

def ir_affine_Turn : IR :=
 .call F.vec_Dot [.agg [.var 0, .var 1, .var 2, .var 3, .var 4, .var 5, .var 6, .var 7, .var 8], .agg [.var 36, .var 37, .var 38, .var 39, .var 40, .var 41, .var 42, .var 43, .var 44]] [.agg 3] <|
 .call F.vec_Dot [.agg [.var 9, .var 10, .var 11, .var 12, .var 13, .var 14, .var 15, .var 16, .var 17], .agg [.var 36, .var 37, .var 38, .var 39, .var 40, .var 41, .var 42, .var 43, .var 44]] [.agg 3] <|
 .call F.vec_Dot [.agg [.var 18, .var 19, .var 20, .var 21, .var 22, .var 23, .var 24, .var 25, .var 26], .agg [.var 36, .var 37, .var 38, .var 39, .var 40, .var 41, .var 42, .var 43, .var 44]] [.agg 3] <|
 .ret [.agg [.var 45, .var 46, .var 47, .var 48, .var 49, .var 50, .var 51, .var 52, .var 53]]

def ir_affine_Apply : IR :=
 .call F.affine_Turn [.agg [.var 0, .var 1, .var 2, .var 3, .var 4, .var 5, .var 6, .var 7, .var 8, .var 9, .var 10, .var 11, .var 12, .var 13, .var 14, .var 15, .var 16, .var 17, .var 18, .var 19, .var 20, .var 21, .var 22, .var 23, .var 24, .var 25, .var 26, .var 27, .var 28, .var 29, .var 30, .var 31, .var 32, .var 33, .var 34, .var 35], .agg [.var 36, .var 37, .var 38, .var 39, .var 40, .var 41, .var 42, .var 43, .var 44]] [.agg 9] <|
 .prim (.mk 2) [.var 45, .var 46, .var 47, .var 48, .var 49, .var 50, .var 51, .var 52, .var 53, .var 27, .var 28, .var 29, .var 30, .var 31, .var 32, .var 33, .var 34, .var 35] <|
 .call F.vec_Sum [.one (.var 54)] [.agg 9] <|
 .ret [.agg [.var 55, .var 56, .var 57, .var 58, .var 59, .var 60, .var 61, .var 62, .var 63]]

def ir_affine_Then : IR :=
 .call F.affine_columns [.agg [.var 0, .var 1, .var 2, .var 3, .var 4, .var 5, .var 6, .var 7, .var 8, .var 9, .var 10, .var 11, .var 12, .var 13, .var 14, .var 15, .var 16, .var 17, .var 18, .var 19, .var 20, .var 21, .var 22, .var 23, .var 24, .var 25, .var 26, .var 27, .var 28, .var 29, .var 30, .var 31, .var 32, .var 33, .var 34, .var 35]] [.agg 27] <|
 .call F.affine_Then_1 [.agg [.var 36, .var 37, .var 38, .var 39, .var 40, .var 41, .var 42, .var 43, .var 44], .ref [.var 72, .var 73, .var 74, .var 75, .var 76, .var 77, .var 78, .var 79, .var 80, .var 81, .var 82, .var 83, .var 84, .var 85, .var 86, .var 87, .var 88, .var 89, .var 90, .var 91, .var 92, .var 93, .var 94, .var 95, .var 96, .var 97, .var 98]] [.agg 9] <|
 .call F.affine_Then_1 [.agg [.var 45, .var 46, .var 47, .var 48, .var 49, .var 50, .var 51, .var 52, .var 53], .ref [.var 72, .var 73, .var 74, .var 75, .var 76, .var 77, .var 78, .var 79, .var 80, .var 81, .var 82, .var 83, .var 84, .var 85, .var 86, .var 87, .var 88, .var 89, .var 90, .var 91, .var 92, .var 93, .var 94, .var 95, .var 96, .var 97, .var 98]] [.agg 9] <|
 .call F.affine_Then_1 [.agg [.var 54, .var 55, .var 56, .var 57, .var 58, .var 59, .var 60, .var 61, .var 62], .ref [.var 72, .var 73, .var 74, .var 75, .var 76, .var 77, .var 78, .var 79, .var 80, .var 81, .var 82, .var 83, .var 84, .var 85, .var 86, .var 87, .var 88, .var 89, .var 90, .var 91, .var 92, .var 93, .var 94, .var 95, .var 96, .var 97, .var 98]] [.agg 9] <|
 .call F.affine_Apply [.agg [.var 36, .var 37, .var 38, .var 39, .var 40, .var 41, .var 42, .var 43, .var 44, .var 45, .var 46, .var 47, .var 48, .var 49, .var 50, .var 51, .var 52, .var 53, .var 54, .var 55, .var 56, .var 57, .var 58, .var 59, .var 60, .var 61, .var 62, .var 63, .var 64, .var 65, .var 66, .var 67, .var 68, .var 69, .var 70, .var 71], .agg [.var 27, .var 28, .var 29, .var 30, .var 31, .var 32, .var 33, .var 34, .var 35]] [.agg 9] <|
 .ret [.agg [.var 99, .var 100, .var 101, .var 102, .var 103, .var 104, .var 105, .var 106, .var 107, .var 108, .var 109, .var 110, .var 111, .var 112, .var 113, .var 114, .var 115, .var 116, .var 117, .var 118, .var 119, .var 120, .var 121, .var 122, .var 123, .var 124, .var 125, .var 126, .var 127, .var 128, .var 129, .var 130, .var 131, .var 132, .var 133, .var 134]]

def ir_affine_Identity : IR :=
 .call F.vec_Of [.one (.int .i64 (1)), .one (.int .i64 (0)), .one (.int .i64 (0))] [.agg 9] <|
 .call F.vec_Of [.one (.int .i64 (0)), .one (.int .i64 (1)), .one (.int .i64 (0))] [.agg 9] <|
 .call F.vec_Of [.one (.int .i64 (0)), .one (.int .i64 (0)), .one (.int .i64 (1))] [.agg 9] <|
 .call F.vec_Of [.one (.int .i64 (0)), .one (.int .i64 (0)), .one (.int .i64 (0))] [.agg 9] <|
 .ret [.agg [.var 0, .var 1, .var 2, .var 3, .var 4, .var 5, .var 6, .var 7, .var 8, .var 9, .var 10, .var 11, .var 12, .var 13, .var 14, .var 15, .var 16, .var 17, .var 18, .var 19, .var 20, .var 21, .var 22, .var 23, .var 24, .var 25, .var 26, .var 27, .var 28, .var 29, .var 30, .var 31, .var 32, .var 33, .var 34, .var 35]]

def ir_vec_Scale : IR :=
 .prim (.mk 2) [.var 0, .var 1, .var 2, .var 3, .var 4, .var 5] <|
 .call F.rat_Product [.one (.var 12)] [.agg 3] <|
 .prim (.mk 2) [.var 0, .var 1, .var 2, .var 6, .var 7, .var 8] <|
 .call F.rat_Product [.one (.var 16)] [.agg 3] <|
 .prim (.mk 2) [.var 0, .var 1, .var 2, .var 9, .var 10, .var 11] <|
 .call F.rat_Product [.one (.var 20)] [.agg 3] <|
 .ret [.agg [.var 13, .var 14, .var 15, .var 17, .var 18, .var 19, .var 21, .var 22, .var 23]]

def ir_affine_Stretch : IR :=
 .call F.rat_Of [.one (.int .i64 (1)), .one (.int .i64 (1))] [.agg 3] <|
 .call F.rat_Sub [.agg [.var 18, .var 19, .var 20], .agg [.var 21, .var 22, .var 23]] [.agg 3] <|
 .call F.affine_Identity [] [.agg 36] <|
 .prim (.mk 2) [.var 24, .var 25, .var 26, .var 9, .var 10, .var 11] <|
 .call F.rat_Product [.one (.var 63)] [.agg 3] <|
 .call F.vec_Scale [.agg [.var 64, .var 65, .var 66], .agg [.var 9, .var 10, .var 11, .var 12, .var 13, .var 14, .var 15, .var 16, .var 17]] [.agg 9] <|
 .prim (.mk 2) [.var 27, .var 28, .var 29, .var 30, .var 31, .var 32, .var 33, .var 34, .var 35, .var 67, .var 68, .var 69, .var 70, .var 71, .var 72, .var 73, .var 74, .var 75] <|
 .call F.vec_Sum [.one (.var 76)] [.agg 9] <|
 .prim (.mk 2) [.var 24, .var 25, .var 26, .var 12, .var 13, .var 14] <|
 .call F.rat_Product [.one (.var 86)] [.agg 3] <|
 .call F.vec_Scale [.agg [.var 87, .var 88, .var 89], .agg [.var 9, .var 10, .var 11, .var 12, .var 13, .var 14, .var 15, .var 16, .var 17]] [.agg 9] <|
 .prim (.mk 2) [.var 36, .var 37, .var 38, .var 39, .var 40, .var 41, .var 42, .var 43, .var 44, .var 90, .var 91, .var 92, .var 93, .var 94, .var 95, .var 96, .var 97, .var 98] <|
 .call F.vec_Sum [.one (.var 99)] [.agg 9] <|
 .prim (.mk 2) [.var 24, .var 25, .var 26, .var 15, .var 16, .var 17] <|
 .call F.rat_Product [.one (.var 109)] [.agg 3] <|
 .call F.vec_Scale [.agg [.var 110, .var 111, .var 112], .agg [.var 9, .var 10, .var 11, .var 12, .var 13, .var 14, .var 15, .var 16, .var 17]] [.agg 9] <|
 .prim (.mk 2) [.var 45, .var 46, .var 47, .var 48, .var 49, .var 50, .var 51, .var 52, .var 53, .var 113, .var 114, .var 115, .var 116, .var 117, .var 118, .var 119, .var 120, .var 121] <|
 .call F.vec_Sum [.one (.var 122)] [.agg 9] <|
 .call F.vec_Dot [.agg [.var 0, .var 1, .var 2, .var 3, .var 4, .var 5, .var 6, .var 7, .var 8], .agg [.var 9, .var 10, .var 11, .var 12, .var 13, .var 14, .var 15, .var 16, .var 17]] [.agg 3] <|
 .prim (.mk 2) [.var 24, .var 25, .var 26, .var 132, .var 133, .var 134] <|
 .call F.rat_Product [.one (.var 135)] [.agg 3] <|
 .call F.rat_Neg [.agg [.var 136, .var 137, .var 138]] [.agg 3] <|
 .call F.vec_Scale [.agg [.var 139, .var 140, .var 141], .agg [.var 9, .var 10, .var 11, .var 12, .var 13, .var 14, .var 15, .var 16, .var 17]] [.agg 9] <|
 .ret [.agg [.var 77, .var 78, .var 79, .var 80, .var 81, .var 82, .var 83, .var 84, .var 85, .var 100, .var 101, .var 102, .var 103, .var 104, .var 105, .var 106, .var 107, .var 108, .var 123, .var 124, .var 125, .var 126, .var 127, .var 128, .var 129, .var 130, .var 131, .var 142, .var 143, .var 144, .var 145, .var 146, .var 147, .var 148, .var 149, .var 150]]

def ir_vec_minor : IR :=
 .prim (.mk 2) [.var 0, .var 1, .var 2, .var 9, .var 10, .var 11] <|
 .call F.rat_Product [.one (.var 12)] [.agg 3] <|
 .prim (.mk 2) [.var 3, .var 4, .var 5, .var 6, .var 7, .var 8] <|
 .call F.rat_Product [.one (.var 16)] [.agg 3] <|
 .call F.rat_Sub [.agg [.var 13, .var 14, .var 15], .agg [.var 17, .var 18, .var 19]] [.agg 3] <|
 .ret [.agg [.var 20, .var 21, .var 22]]

def ir_vec_Cross : IR :=
 .call F.vec_minor [.agg [.var 3, .var 4, .var 5], .agg [.var 6, .var 7, .var 8], .agg [.var 12, .var 13, .var 14], .agg [.var 15, .var 16, .var 17]] [.agg 3] <|
 .call F.vec_minor [.agg [.var 6, .var 7, .var 8], .agg [.var 0, .var 1, .var 2], .agg [.var 15, .var 16, .var 17], .agg [.var 9, .var 10, .var 11]] [.agg 3] <|
 .call F.vec_minor [.agg [.var 0, .var 1, .var 2], .agg [.var 3, .var 4, .var 5], .agg [.var 9, .var 10, .var 11], .agg [.var 12, .var 13, .var 14]] [.agg 3] <|
 .ret [.agg [.var 18, .var 19, .var 20, .var 21, .var 22, .var 23, .var 24, .var 25, .var 26]]

def ir_affine_Det : IR :=
 .call F.vec_Cross [.agg [.var 9, .var 10, .var 11, .var 12, .var 13, .var 14, .var 15, .var 16, .var 17], .agg [.var 18, .var 19, .var 20, .var 21, .var 22, .var 23, .var 24, .var 25, .var 26]] [.agg 9] <|
 .call F.vec_Dot [.agg [.var 0, .var 1, .var 2, .var 3, .var 4, .var 5, .var 6, .var 7, .var 8], .agg [.var 36, .var 37, .var 38, .var 39, .var 40, .var 41, .var 42, .var 43, .var 44]] [.agg 3] <|
 .ret [.agg [.var 45, .var 46, .var 47]]

def ir_affine_cofactors : IR :=
 .call F.vec_Cross [.agg [.var 9, .var 10, .var 11, .var 12, .var 13, .var 14, .var 15, .var 16, .var 17], .agg [.var 18, .var 19, .var 20, .var 21, .var 22, .var 23, .var 24, .var 25, .var 26]] [.agg 9] <|
 .call F.vec_Cross [.agg [.var 18, .var 19, .var 20, .var 21, .var 22, .var 23, .var 24, .var 25, .var 26], .agg [.var 0, .var 1, .var 2, .var 3, .var 4, .var 5, .var 6, .var 7, .var 8]] [.agg 9] <|
 .call F.vec_Cross [.agg [.var 0, .var 1, .var 2, .var 3, .var 4, .var 5, .var 6, .var 7, .var 8], .agg [.var 9, .var 10, .var 11, .var 12, .var 13, .var 14, .var 15, .var 16, .var 17]] [.agg 9] <|
 .ret [.agg [.var 36, .var 37, .var 38, .var 39, .var 40, .var 41, .var 42, .var 43, .var 44, .var 45, .var 46, .var 47, .var 48, .var 49, .var 50, .var 51, .var 52, .var 53, .var 54, .var 55, .var 56, .var 57, .var 58, .var 59, .var 60, .var 61, .var 62]]

def ir_affine_Inverse : IR :=
 .call F.rat_Of [.one (.int .i64 (1)), .one (.int .i64 (1))] [.agg 3] <|
 .call F.affine_Det [.agg [.var 0, .var 1, .var 2, .var 3, .var 4, .var 5, .var 6, .var 7, .var 8, .var 9, .var 10, .var 11, .var 12, .var 13, .var 14, .var 15, .var 16, .var 17, .var 18, .var 19, .var 20, .var 21, .var 22, .var 23, .var 24, .var 25, .var 26, .var 27, .var 28, .var 29, .var 30, .var 31, .var 32, .var 33, .var 34, .var 35]] [.agg 3] <|
 .call F.rat_Div [.agg [.var 36, .var 37, .var 38], .agg [.var 39, .var 40, .var 41]] [.agg 3, .one] <|
 .prim .not [.var 45] <|
 .ite (.var 46) (
  .call F.affine_Identity [] [.agg 36] <|
  .ret [.agg [.var 47, .var 48, .var 49, .var 50, .var 51, .var 52, .var 53, .var 54, .var 55, .var 56, .var 57, .var 58, .var 59, .var 60, .var 61, .var 62, .var 63, .var 64, .var 65, .var 66, .var 67, .var 68, .var 69, .var 70, .var 71, .var 72, .var 73, .var 74, .var 75, .var 76, .var 77, .var 78, .var 79, .var 80, .var 81, .var 82], .one (.bol false)]) (
  .call F.affine_cofactors [.agg [.var 0, .var 1, .var 2, .var 3, .var 4, .var 5, .var 6, .var 7, .var 8, .var 9, .var 10, .var 11, .var 12, .var 13, .var 14, .var 15, .var 16, .var 17, .var 18, .var 19, .var 20, .var 21, .var 22, .var 23, .var 24, .var 25, .var 26, .var 27, .var 28, .var 29, .var 30, .var 31, .var 32, .var 33, .var 34, .var 35]] [.agg 27] <|
  .call F.vec_Scale [.agg [.var 42, .var 43, .var 44], .agg [.var 47, .var 48, .var 49, .var 50, .var 51, .var 52, .var 53, .var 54, .var 55]] [.agg 9] <|
  .call F.vec_Scale [.agg [.var 42, .var 43, .var 44], .agg [.var 56, .var 57, .var 58, .var 59, .var 60, .var 61, .var 62, .var 63, .var 64]] [.agg 9] <|
  .call F.vec_Scale [.agg [.var 42, .var 43, .var 44], .agg [.var 65, .var 66, .var 67, .var 68, .var 69, .var 70, .var 71, .var 72, .var 73]] [.agg 9] <|
  .call F.rat_Of [.one (.int .i64 (-1)), .one (.int .i64 (1))] [.agg 3] <|
  .call F.affine_Turn [.agg [.var 74, .var 75, .var 76, .var 83, .var 84, .var 85, .var 92, .var 93, .var 94, .var 77, .var 78, .var 79, .var 86, .var 87, .var 88, .var 95, .var 96, .var 97, .var 80, .var 81, .var 82, .var 89, .var 90, .var 91, .var 98, .var 99, .var 100, .bol false, .nil, .nil, .bol false, .nil, .nil, .bol false, .nil, .nil], .agg [.var 27, .var 28, .var 29, .var 30, .var 31, .var 32, .var 33, .var 34, .var 35]] [.agg 9] <|
  .call F.vec_Scale [.agg [.var 101, .var 102, .var 103], .agg [.var 104, .var 105, .var 106, .var 107, .var 108, .var 109, .var 110, .var 111, .var 112]] [.agg 9] <|
  .ret [.agg [.var 74, .var 75, .var 76, .var 83, .var 84, .var 85, .var 92, .var 93, .var 94, .var 77, .var 78, .var 79, .var 86, .var 87, .var 88, .var 95, .var 96, .var 97, .var 80, .var 81, .var 82, .var 89, .var 90, .var 91, .var 98, .var 99, .var 100, .var 113, .var 114, .var 115, .var 116, .var 117, .var 118, .var 119, .var 120, .var 121], .one (.bol true)])

def ir_penumbraref05_Is : IR :=
 .call F.penumbraref03_Is [.agg [.var 0, .var 1, .var 2], .agg [.var 9, .var 10, .var 11]] [.one] <|
 .ite (.var 18) (
  .call F.penumbraref03_Is [.agg [.var 3, .var 4, .var 5], .agg [.var 12, .var 13, .var 14]] [.one] <|
  .ite (.var 19) (
   .call F.penumbraref03_Is [.agg [.var 6, .var 7, .var 8], .agg [.var 15, .var 16, .var 17]] [.one] <|
   .ret [.one (.var 20)]) (
   .ret [.one (.bol false)])) (
  .ret [.one (.bol false)])

def ir_affine_Area : IR :=
 .call F.affine_cofactors [.agg [.var 0, .var 1, .var 2, .var 3, .var 4, .var 5, .var 6, .var 7, .var 8, .var 9, .var 10, .var 11, .var 12, .var 13, .var 14, .var 15, .var 16, .var 17, .var 18, .var 19, .var 20, .var 21, .var 22, .var 23, .var 24, .var 25, .var 26, .var 27, .var 28, .var 29, .var 30, .var 31, .var 32, .var 33, .var 34, .var 35]] [.agg 27] <|
 .call F.vec_Dot [.agg [.var 45, .var 46, .var 47, .var 48, .var 49, .var 50, .var 51, .var 52, .var 53], .agg [.var 36, .var 37, .var 38, .var 39, .var 40, .var 41, .var 42, .var 43, .var 44]] [.agg 3] <|
 .call F.vec_Dot [.agg [.var 54, .var 55, .var 56, .var 57, .var 58, .var 59, .var 60, .var 61, .var 62], .agg [.var 36, .var 37, .var 38, .var 39, .var 40, .var 41, .var 42, .var 43, .var 44]] [.agg 3] <|
 .call F.vec_Dot [.agg [.var 63, .var 64, .var 65, .var 66, .var 67, .var 68, .var 69, .var 70, .var 71], .agg [.var 36, .var 37, .var 38, .var 39, .var 40, .var 41, .var 42, .var 43, .var 44]] [.agg 3] <|
 .ret [.agg [.var 72, .var 73, .var 74, .var 75, .var 76, .var 77, .var 78, .var 79, .var 80]]

def ir_penumbraref05_Zero : IR :=
 .call F.penumbraref03_Zero [] [.agg 3] <|
 .call F.penumbraref03_Zero [] [.agg 3] <|
 .call F.penumbraref03_Zero [] [.agg 3] <|
 .ret [.agg [.var 0, .var 1, .var 2, .var 3, .var 4, .var 5, .var 6, .var 7, .var 8]]

def ir_penumbraref07_Identity : IR :=
 .call F.penumbraref05_Of [.one (.int .i64 (1)), .one (.int .i64 (0)), .one (.int .i64 (0))] [.agg 9] <|
 .call F.penumbraref05_Of [.one (.int .i64 (0)), .one (.int .i64 (1)), .one (.int .i64 (0))] [.agg 9] <|
 .call F.penumbraref05_Of [.one (.int .i64 (0)), .one (.int .i64 (0)), .one (.int .i64 (1))] [.agg 9] <|
 .call F.penumbraref05_Zero [] [.agg 9] <|
 .ret [.agg [.var 0, .var 1, .var 2, .var 3, .var 4, .var 5, .var 6, .var 7, .var 8, .var 9, .var 10, .var 11, .var 12, .var 13, .var 14, .var 15, .var 16, .var 17, .var 18, .var 19, .var 20, .var 21, .var 22, .var 23, .var 24, .var 25, .var 26, .var 27, .var 28, .var 29, .var 30, .var 31, .var 32, .var 33, .var 34, .var 35]]

def ir_penumbraref07_Is : IR :=
 .call F.penumbraref05_Is [.agg [.var 0, .var 1, .var 2, .var 3, .var 4, .var 5, .var 6, .var 7, .var 8], .agg [.var 36, .var 37, .var 38, .var 39, .var 40, .var 41, .var 42, .var 43, .var 44]] [.one] <|
 .ite (.var 72) (
  .call F.penumbraref05_Is [.agg [.var 9, .var 10, .var 11, .var 12, .var 13, .var 14, .var 15, .var 16, .var 17], .agg [.var 45, .var 46, .var 47, .var 48, .var 49, .var 50, .var 51, .var 52, .var 53]] [.one] <|
  .ite (.var 73) (
   .call F.penumbraref05_Is [.agg [.var 18, .var 19, .var 20, .var 21, .var 22, .var 23, .var 24, .var 25, .var 26], .agg [.var 54, .var 55, .var 56, .var 57, .var 58, .var 59, .var 60, .var 61, .var 62]] [.one] <|
   .ite (.var 74) (
    .call F.penumbraref05_Is [.agg [.var 27, .var 28, .var 29, .var 30, .var 31, .var 32, .var 33, .var 34, .var 35], .agg [.var 63, .var 64, .var 65, .var 66, .var 67, .var 68, .var 69, .var 70, .var 71]] [.one] <|
    .ret [.one (.var 75)]) (
    .ret [.one (.bol false)])) (
   .ret [.one (.bol false)])) (
  .ret [.one (.bol false)])

def ir_penumbralaw07_fixed : IR :=
 .call F.vec_Of [.one (.int .i64 (0)), .one (.int .i64 (0)), .one (.int .i64 (1))] [.agg 9] <|
 .call F.vec_Of [.one (.int .i64 (0)), .one (.int .i64 (0)), .one (.int .i64 (1))] [.agg 9] <|
 .call F.rat_Of [.one (.int .i64 (-1)), .one (.int .i64 (1))] [.agg 3] <|
 .call F.affine_Stretch [.agg [.var 0, .var 1, .var 2, .var 3, .var 4, .var 5, .var 6, .var 7, .var 8], .agg [.var 9, .var 10, .var 11, .var 12, .var 13, .var 14, .var 15, .var 16, .var 17], .agg [.var 18, .var 19, .var 20]] [.agg 36] <|
 .call F.vec_Of [.one (.int .i64 (1)), .one (.int .i64 (0)), .one (.int .i64 (0))] [.agg 9] <|
 .call F.vec_Of [.one (.int .i64 (1)), .one (.int .i64 (0)), .one (.int .i64 (0))] [.agg 9] <|
 .call F.vec_Of [.one (.int .i64 (0)), .one (.int .i64 (0)), .one (.int .i64 (1))] [.agg 9] <|
 .call F.affine_Inverse [.agg [.var 57, .var 58, .var 59, .var 60, .var 61, .var 62, .var 63, .var 64, .var 65, .var 66, .var 67, .var 68, .var 69, .var 70, .var 71, .var 72, .var 73, .var 74, .var 75, .var 76, .var 77, .var 78, .var 79, .var 80, .var 81, .var 82, .var 83, .bol false, .nil, .nil, .bol false, .nil, .nil, .bol false, .nil, .nil]] [.agg 36, .one] <|
 .call F.vec_Of [.one (.int .i64 (2)), .one (.int .i64 (3)), .one (.int .i64 (5))] [.agg 9] <|
 .call F.affine_Apply [.agg [.var 21, .var 22, .var 23, .var 24, .var 25, .var 26, .var 27, .var 28, .var 29, .var 30, .var 31, .var 32, .var 33, .var 34, .var 35, .var 36, .var 37, .var 38, .var 39, .var 40, .var 41, .var 42, .var 43, .var 44, .var 45, .var 46, .var 47, .var 48, .var 49, .var 50, .var 51, .var 52, .var 53, .var 54, .var 55, .var 56], .agg [.var 121, .var 122, .var 123, .var 124, .var 125, .var 126, .var 127, .var 128, .var 129]] [.agg 9] <|
 .call F.penumbraref05_Of [.one (.int .i64 (2)), .one (.int .i64 (3)), .one (.int .i64 (-3))] [.agg 9] <|
 .call F.penumbraref05_Is [.agg [.var 130, .var 131, .var 132, .var 133, .var 134, .var 135, .var 136, .var 137, .var 138], .agg [.var 139, .var 140, .var 141, .var 142, .var 143, .var 144, .var 145, .var 146, .var 147]] [.one] <|
 .ite (.var 148) (
  .call F.vec_Of [.one (.int .i64 (0)), .one (.int .i64 (0)), .one (.int .i64 (1))] [.agg 9] <|
  .call F.affine_Area [.agg [.var 21, .var 22, .var 23, .var 24, .var 25, .var 26, .var 27, .var 28, .var 29, .var 30, .var 31, .var 32, .var 33, .var 34, .var 35, .var 36, .var 37, .var 38, .var 39, .var 40, .var 41, .var 42, .var 43, .var 44, .var 45, .var 46, .var 47, .var 48, .var 49, .var 50, .var 51, .var 52, .var 53, .var 54, .var 55, .var 56], .agg [.var 149, .var 150, .var 151, .var 152, .var 153, .var 154, .var 155, .var 156, .var 157]] [.agg 9] <|
  .call F.penumbraref05_Of [.one (.int .i64 (0)), .one (.int .i64 (0)), .one (.int .i64 (1))] [.agg 9] <|
  .call F.penumbraref05_Is [.agg [.var 158, .var 159, .var 160, .var 161, .var 162, .var 163, .var 164, .var 165, .var 166], .agg [.var 167, .var 168, .var 169, .var 170, .var 171, .var 172, .var 173, .var 174, .var 175]] [.one] <|
  .ite (.var 176) (
   .call F.vec_Of [.one (.int .i64 (1)), .one (.int .i64 (0)), .one (.int .i64 (0))] [.agg 9] <|
   .call F.affine_Area [.agg [.var 21, .var 22, .var 23, .var 24, .var 25, .var 26, .var 27, .var 28, .var 29, .var 30, .var 31, .var 32, .var 33, .var 34, .var 35, .var 36, .var 37, .var 38, .var 39, .var 40, .var 41, .var 42, .var 43, .var 44, .var 45, .var 46, .var 47, .var 48, .var 49, .var 50, .var 51, .var 52, .var 53, .var 54, .var 55, .var 56], .agg [.var 177, .var 178, .var 179, .var 180, .var 181, .var 182, .var 183, .var 184, .var 185]] [.agg 9] <|
   .call F.penumbraref05_Of [.one (.int .i64 (-1)), .one (.int .i64 (0)), .one (.int .i64 (0))] [.agg 9] <|
   .call F.penumbraref05_Is [.agg [.var 186, .var 187, .var 188, .var 189, .var 190, .var 191, .var 192, .var 193, .var 194], .agg [.var 195, .var 196, .var 197, .var 198, .var 199, .var 200, .var 201, .var 202, .var 203]] [.one] <|
   .ite (.var 204) (
    .prim .not [.var 120] <|
    .ite (.var 205) (
     .call F.affine_Identity [] [.agg 36] <|
     .call F.penumbraref07_Identity [] [.agg 36] <|
     .call F.penumbraref07_Is [.agg [.var 206, .var 207, .var 208, .var 209, .var 210, .var 211, .var 212, .var 213, .var 214, .var 215, .var 216, .var 217, .var 218, .var 219, .var 220, .var 221, .var 222, .var 223, .var 224, .var 225, .var 226, .var 227, .var 228, .var 229, .var 230, .var 231, .var 232, .var 233, .var 234, .var 235, .var 236, .var 237, .var 238, .var 239, .var 240, .var 241], .agg [.var 242, .var 243, .var 244, .var 245, .var 246, .var 247, .var 248, .var 249, .var 250, .var 251, .var 252, .var 253, .var 254, .var 255, .var 256, .var 257, .var 258, .var 259, .var 260, .var 261, .var 262, .var 263, .var 264, .var 265, .var 266, .var 267, .var 268, .var 269, .var 270, .var 271, .var 272, .var 273, .var 274, .var 275, .var 276, .var 277]] [.one] <|
     .ret [.one (.var 278)]) (
     .ret [.one (.bol false)])) (
    .ret [.one (.bol false)])) (
   .ret [.one (.bol false)])) (
  .ret [.one (.bol false)])

def ir_vec_Read : IR :=
 .call F.rat_Read [.agg [.var 0, .var 1, .var 2]] [.agg 3] <|
 .call F.rat_Read [.agg [.var 3, .var 4, .var 5]] [.agg 3] <|
 .call F.rat_Read [.agg [.var 6, .var 7, .var 8]] [.agg 3] <|
 .ret [.agg [.var 9, .var 10, .var 11, .var 12, .var 13, .var 14, .var 15, .var 16, .var 17]]

def ir_penumbralaw07_AffineBack : IR :=
 .call F.affine_Then [.agg [.var 0, .var 1, .var 2, .var 3, .var 4, .var 5, .var 6, .var 7, .var 8, .var 9, .var 10, .var 11, .var 12, .var 13, .var 14, .var 15, .var 16, .var 17, .var 18, .var 19, .var 20, .var 21, .var 22, .var 23, .var 24, .var 25, .var 26, .var 27, .var 28, .var 29, .var 30, .var 31, .var 32, .var 33, .var 34, .var 35], .agg [.var 36, .var 37, .var 38, .var 39, .var 40, .var 41, .var 42, .var 43, .var 44, .var 45, .var 46, .var 47, .var 48, .var 49, .var 50, .var 51, .var 52, .var 53, .var 54, .var 55, .var 56, .var 57, .var 58, .var 59, .var 60, .var 61, .var 62, .var 63, .var 64, .var 65, .var 66, .var 67, .var 68, .var 69, .var 70, .var 71]] [.agg 36] <|
 .call F.penumbralaw07_fixed [] [.one] <|
 .prim .not [.var 117] <|
 .ite (.var 118) (
  .ret [.one (.bol false)]) (
  .call F.affine_Apply [.agg [.var 81, .var 82, .var 83, .var 84, .var 85, .var 86, .var 87, .var 88, .var 89, .var 90, .var 91, .var 92, .var 93, .var 94, .var 95, .var 96, .var 97, .var 98, .var 99, .var 100, .var 101, .var 102, .var 103, .var 104, .var 105, .var 106, .var 107, .var 108, .var 109, .var 110, .var 111, .var 112, .var 113, .var 114, .var 115, .var 116], .agg [.var 72, .var 73, .var 74, .var 75, .var 76, .var 77, .var 78, .var 79, .var 80]] [.agg 9] <|
  .call F.affine_Apply [.agg [.var 0, .var 1, .var 2, .var 3, .var 4, .var 5, .var 6, .var 7, .var 8, .var 9, .var 10, .var 11, .var 12, .var 13, .var 14, .var 15, .var 16, .var 17, .var 18, .var 19, .var 20, .var 21, .var 22, .var 23, .var 24, .var 25, .var 26, .var 27, .var 28, .var 29, .var 30, .var 31, .var 32, .var 33, .var 34, .var 35], .agg [.var 72, .var 73, .var 74, .var 75, .var 76, .var 77, .var 78, .var 79, .var 80]] [.agg 9] <|
  .call F.affine_Apply [.agg [.var 36, .var 37, .var 38, .var 39, .var 40, .var 41, .var 42, .var 43, .var 44, .var 45, .var 46, .var 47, .var 48, .var 49, .var 50, .var 51, .var 52, .var 53, .var 54, .var 55, .var 56, .var 57, .var 58, .var 59, .var 60, .var 61, .var 62, .var 63, .var 64, .var 65, .var 66, .var 67, .var 68, .var 69, .var 70, .var 71], .agg [.var 128, .var 129, .var 130, .var 131, .var 132, .var 133, .var 134, .var 135, .var 136]] [.agg 9] <|
  .call F.penumbraref05_Is [.agg [.var 119, .var 120, .var 121, .var 122, .var 123, .var 124, .var 125, .var 126, .var 127], .agg [.var 137, .var 138, .var 139, .var 140, .var 141, .var 142, .var 143, .var 144, .var 145]] [.one] <|
  .prim .not [.var 146] <|
  .ite (.var 147) (
   .ret [.one (.bol false)]) (
   .call F.affine_Det [.agg [.var 81, .var 82, .var 83, .var 84, .var 85, .var 86, .var 87, .var 88, .var 89, .var 90, .var 91, .var 92, .var 93, .var 94, .var 95, .var 96, .var 97, .var 98, .var 99, .var 100, .var 101, .var 102, .var 103, .var 104, .var 105, .var 106, .var 107, .var 108, .var 109, .var 110, .var 111, .var 112, .var 113, .var 114, .var 115, .var 116]] [.agg 3] <|
   .call F.affine_Det [.agg [.var 0, .var 1, .var 2, .var 3, .var 4, .var 5, .var 6, .var 7, .var 8, .var 9, .var 10, .var 11, .var 12, .var 13, .var 14, .var 15, .var 16, .var 17, .var 18, .var 19, .var 20, .var 21, .var 22, .var 23, .var 24, .var 25, .var 26, .var 27, .var 28, .var 29, .var 30, .var 31, .var 32, .var 33, .var 34, .var 35]] [.agg 3] <|
   .call F.affine_Det [.agg [.var 36, .var 37, .var 38, .var 39, .var 40, .var 41, .var 42, .var 43, .var 44, .var 45, .var 46, .var 47, .var 48, .var 49, .var 50, .var 51, .var 52, .var 53, .var 54, .var 55, .var 56, .var 57, .var 58, .var 59, .var 60, .var 61, .var 62, .var 63, .var 64, .var 65, .var 66, .var 67, .var 68, .var 69, .var 70, .var 71]] [.agg 3] <|
   .prim (.mk 2) [.var 151, .var 152, .var 153, .var 154, .var 155, .var 156] <|
   .call F.rat_Product [.one (.var 157)] [.agg 3] <|
   .call F.penumbraref03_Is [.agg [.var 148, .var 149, .var 150], .agg [.var 158, .var 159, .var 160]] [.one] <|
   .prim .not [.var 161] <|
   .ite (.var 162) (
    .ret [.one (.bol false)]) (
    .call F.affine_Inverse [.agg [.var 0, .var 1, .var 2, .var 3, .var 4, .var 5, .var 6, .var 7, .var 8, .var 9, .var 10, .var 11, .var 12, .var 13, .var 14, .var 15, .var 16, .var 17, .var 18, .var 19, .var 20, .var 21, .var 22, .var 23, .var 24, .var 25, .var 26, .var 27, .var 28, .var 29, .var 30, .var 31, .var 32, .var 33, .var 34, .var 35]] [.agg 36, .one] <|
    .prim .not [.var 199] <|
    .ite (.var 200) (
     .call F.affine_Det [.agg [.var 0, .var 1, .var 2, .var 3, .var 4, .var 5, .var 6, .var 7, .var 8, .var 9, .var 10, .var 11, .var 12, .var 13, .var 14, .var 15, .var 16, .var 17, .var 18, .var 19, .var 20, .var 21, .var 22, .var 23, .var 24, .var 25, .var 26, .var 27, .var 28, .var 29, .var 30, .var 31, .var 32, .var 33, .var 34, .var 35]] [.agg 3] <|
     .call F.rat_Sign [.agg [.var 201, .var 202, .var 203]] [.one] <|
     .prim (.bin .eql) [.var 204, .int .i64 (0)] <|
     .ret [.one (.var 205)]) (
     .call F.affine_Then [.agg [.var 0, .var 1, .var 2, .var 3, .var 4, .var 5, .var 6, .var 7, .var 8, .var 9, .var 10, .var 11, .var 12, .var 13, .var 14, .var 15, .var 16, .var 17, .var 18, .var 19, .var 20, .var 21, .var 22, .var 23, .var 24, .var 25, .var 26, .var 27, .var 28, .var 29, .var 30, .var 31, .var 32, .var 33, .var 34, .var 35], .agg [.var 163, .var 164, .var 165, .var 166, .var 167, .var 168, .var 169, .var 170, .var 171, .var 172, .var 173, .var 174, .var 175, .var 176, .var 177, .var 178, .var 179, .var 180, .var 181, .var 182, .var 183, .var 184, .var 185, .var 186, .var 187, .var 188, .var 189, .var 190, .var 191, .var 192, .var 193, .var 194, .var 195, .var 196, .var 197, .var 198]] [.agg 36] <|
     .call F.penumbraref07_Identity [] [.agg 36] <|
     .call F.penumbraref07_Is [.agg [.var 201, .var 202, .var 203, .var 204, .var 205, .var 206, .var 207, .var 208, .var 209, .var 210, .var 211, .var 212, .var 213, .var 214, .var 215, .var 216, .var 217, .var 218, .var 219, .var 220, .var 221, .var 222, .var 223, .var 224, .var 225, .var 226, .var 227, .var 228, .var 229, .var 230, .var 231, .var 232, .var 233, .var 234, .var 235, .var 236], .agg [.var 237, .var 238, .var 239, .var 240, .var 241, .var 242, .var 243, .var 244, .var 245, .var 246, .var 247, .var 248, .var 249, .var 250, .var 251, .var 252, .var 253, .var 254, .var 255, .var 256, .var 257, .var 258, .var 259, .var 260, .var 261, .var 262, .var 263, .var 264, .var 265, .var 266, .var 267, .var 268, .var 269, .var 270, .var 271, .var 272]] [.one] <|
     .ite (.var 273) (
      .call F.affine_Then [.agg [.var 163, .var 164, .var 165, .var 166, .var 167, .var 168, .var 169, .var 170, .var 171, .var 172, .var 173, .var 174, .var 175, .var 176, .var 177, .var 178, .var 179, .var 180, .var 181, .var 182, .var 183, .var 184, .var 185, .var 186, .var 187, .var 188, .var 189, .var 190, .var 191, .var 192, .var 193, .var 194, .var 195, .var 196, .var 197, .var 198], .agg [.var 0, .var 1, .var 2, .var 3, .var 4, .var 5, .var 6, .var 7, .var 8, .var 9, .var 10, .var 11, .var 12, .var 13, .var 14, .var 15, .var 16, .var 17, .var 18, .var 19, .var 20, .var 21, .var 22, .var 23, .var 24, .var 25, .var 26, .var 27, .var 28, .var 29, .var 30, .var 31, .var 32, .var 33, .var 34, .var 35]] [.agg 36] <|
      .call F.penumbraref07_Identity [] [.agg 36] <|
      .call F.penumbraref07_Is [.agg [.var 274, .var 275, .var 276, .var 277, .var 278, .var 279, .var 280, .var 281, .var 282, .var 283, .var 284, .var 285, .var 286, .var 287, .var 288, .var 289, .var 290, .var 291, .var 292, .var 293, .var 294, .var 295, .var 296, .var 297, .var 298, .var 299, .var 300, .var 301, .var 302, .var 303, .var 304, .var 305, .var 306, .var 307, .var 308, .var 309], .agg [.var 310, .var 311, .var 312, .var 313, .var 314, .var 315, .var 316, .var 317, .var 318, .var 319, .var 320, .var 321, .var 322, .var 323, .var 324, .var 325, .var 326, .var 327, .var 328, .var 329, .var 330, .var 331, .var 332, .var 333, .var 334, .var 335, .var 336, .var 337, .var 338, .var 339, .var 340, .var 341, .var 342, .var 343, .var 344, .var 345]] [.one] <|
      .ite (.var 346) (
       .call F.affine_Apply [.agg [.var 0, .var 1, .var 2, .var 3, .var 4, .var 5, .var 6, .var 7, .var 8, .var 9, .var 10, .var 11, .var 12, .var 13, .var 14, .var 15, .var 16, .var 17, .var 18, .var 19, .var 20, .var 21, .var 22, .var 23, .var 24, .var 25, .var 26, .var 27, .var 28, .var 29, .var 30, .var 31, .var 32, .var 33, .var 34, .var 35], .agg [.var 72, .var 73, .var 74, .var 75, .var 76, .var 77, .var 78, .var 79, .var 80]] [.agg 9] <|
       .call F.affine_Apply [.agg [.var 163, .var 164, .var 165, .var 166, .var 167, .var 168, .var 169, .var 170, .var 171, .var 172, .var 173, .var 174, .var 175, .var 176, .var 177, .var 178, .var 179, .var 180, .var 181, .var 182, .var 183, .var 184, .var 185, .var 186, .var 187, .var 188, .var 189, .var 190, .var 191, .var 192, .var 193, .var 194, .var 195, .var 196, .var 197, .var 198], .agg [.var 347, .var 348, .var 349, .var 350, .var 351, .var 352, .var 353, .var 354, .var 355]] [.agg 9] <|
       .call F.vec_Read [.agg [.var 72, .var 73, .var 74, .var 75, .var 76, .var 77, .var 78, .var 79, .var 80]] [.agg 9] <|
       .call F.penumbraref05_Is [.agg [.var 356, .var 357, .var 358, .var 359, .var 360, .var 361, .var 362, .var 363, .var 364], .agg [.var 365, .var 366, .var 367, .var 368, .var 369, .var 370, .var 371, .var 372, .var 373]] [.one] <|
       .ret [.one (.var 374)]) (
       .ret [.one (.bol false)])) (
      .ret [.one (.bol false)])))))

theorem tree_affine_columns : symFunc Go.Proofs.Try.prog H0 400 F.affine_columns [.agg 36] = some ir_affine_columns := by kernel_rfl
theorem tree_vec_Dot : symFunc Go.Proofs.Try.prog H0 400 F.vec_Dot [.agg 9, .agg 9] = some ir_vec_Dot := by kernel_rfl
theorem tree_affine_Then_1 : symFunc Go.Proofs.Try.prog H0 400 F.affine_Then_1 [.agg 9, .ref 27 0] = some ir_affine_Then_1 := by kernel_rfl
theorem tree_affine_Turn : symFunc Go.Proofs.Try.prog H0 400 F.affine_Turn [.agg 36, .agg 9] = some ir_affine_Turn := by kernel_rfl
theorem tree_affine_Apply : symFunc Go.Proofs.Try.prog H0 400 F.affine_Apply [.agg 36, .agg 9] = some ir_affine_Apply := by kernel_rfl
theorem tree_affine_Then : symFunc Go.Proofs.Try.prog H0 400 F.affine_Then [.agg 36, .agg 36] = some ir_affine_Then := by kernel_rfl
theorem tree_affine_Identity : symFunc Go.Proofs.Try.prog H0 400 F.affine_Identity [] = some ir_affine_Identity := by kernel_rfl
theorem tree_vec_Scale : symFunc Go.Proofs.Try.prog H0 400 F.vec_Scale [.agg 3, .agg 9] = some ir_vec_Scale := by kernel_rfl
theorem tree_affine_Stretch : symFunc Go.Proofs.Try.prog H0 400 F.affine_Stretch [.agg 9, .agg 9, .agg 3] = some ir_affine_Stretch := by kernel_rfl
theorem tree_vec_minor : symFunc Go.Proofs.Try.prog H0 400 F.vec_minor [.agg 3, .agg 3, .agg 3, .agg 3] = some ir_vec_minor := by kernel_rfl
theorem tree_vec_Cross : symFunc Go.Proofs.Try.prog H0 400 F.vec_Cross [.agg 9, .agg 9] = some ir_vec_Cross := by kernel_rfl
theorem tree_affine_Det : symFunc Go.Proofs.Try.prog H0 400 F.affine_Det [.agg 36] = some ir_affine_Det := by kernel_rfl
theorem tree_affine_cofactors : symFunc Go.Proofs.Try.prog H0 400 F.affine_cofactors [.agg 36] = some ir_affine_cofactors := by kernel_rfl
theorem tree_affine_Inverse : symFunc Go.Proofs.Try.prog H0 400 F.affine_Inverse [.agg 36] = some ir_affine_Inverse := by kernel_rfl
theorem tree_penumbraref05_Is : symFunc Go.Proofs.Try.prog H0 400 F.penumbraref05_Is [.agg 9, .agg 9] = some ir_penumbraref05_Is := by kernel_rfl
theorem tree_affine_Area : symFunc Go.Proofs.Try.prog H0 400 F.affine_Area [.agg 36, .agg 9] = some ir_affine_Area := by kernel_rfl
theorem tree_penumbraref05_Zero : symFunc Go.Proofs.Try.prog H0 400 F.penumbraref05_Zero [] = some ir_penumbraref05_Zero := by kernel_rfl
theorem tree_penumbraref07_Identity : symFunc Go.Proofs.Try.prog H0 400 F.penumbraref07_Identity [] = some ir_penumbraref07_Identity := by kernel_rfl
theorem tree_penumbraref07_Is : symFunc Go.Proofs.Try.prog H0 400 F.penumbraref07_Is [.agg 36, .agg 36] = some ir_penumbraref07_Is := by kernel_rfl
theorem tree_penumbralaw07_fixed : symFunc Go.Proofs.Try.prog H0 400 F.penumbralaw07_fixed [] = some ir_penumbralaw07_fixed := by kernel_rfl
theorem tree_vec_Read : symFunc Go.Proofs.Try.prog H0 400 F.vec_Read [.agg 9] = some ir_vec_Read := by kernel_rfl
theorem tree_penumbralaw07_AffineBack : symFunc Go.Proofs.Try.prog H0 400 F.penumbralaw07_AffineBack [.agg 36, .agg 36, .agg 9] = some ir_penumbralaw07_AffineBack := by kernel_rfl
end Go.Px
namespace Go.Px.Na
open Go.RowKit
open Go.Proofs.Try (prog)

theorem n_affine_columns_0  {r0 r1 r2 r3 r4 r5 r6 r7 r8 r9 r10 r11 : RR} {x0 x1 x2 x3 x4 x5 x6 x7 x8 x9 x10 x11 : Rat} (h0 : Num 9000000000 r0 x0) (h1 : Num 9000000000 r1 x1) (h2 : Num 9000000000 r2 x2) (h3 : Num 9000000000 r3 x3) (h4 : Num 9000000000 r4 x4) (h5 : Num 9000000000 r5 x5) (h6 : Num 9000000000 r6 x6) (h7 : Num 9000000000 r7 x7) (h8 : Num 9000000000 r8 x8) (h9 : Num 9000000000 r9 x9) (h10 : Num 9000000000 r10 x10) (h11 : Num 9000000000 r11 x11)   : PureCalls prog F.affine_columns [.agg ([.bool r0.neg, nl r0.num, nl r0.den, .bool r1.neg, nl r1.num, nl r1.den, .bool r2.neg, nl r2.num, nl r2.den, .bool r3.neg, nl r3.num, nl r3.den, .bool r4.neg, nl r4.num, nl r4.den, .bool r5.neg, nl r5.num, nl r5.den, .bool r6.neg, nl r6.num, nl r6.den, .bool r7.neg, nl r7.num, nl r7.den, .bool r8.neg, nl r8.num, nl r8.den, .bool r9.neg, nl r9.num, nl r9.den, .bool r10.neg, nl r10.num, nl r10.den, .bool r11.neg, nl r11.num, nl r11.den])] [.agg ([.bool r0.neg, nl r0.num, nl r0.den, .bool r3.neg, nl r3.num, nl r3.den, .bool r6.neg, nl r6.num, nl r6.den, .bool r1.neg, nl r1.num, nl r1.den, .bool r4.neg, nl r4.num, nl r4.den, .bool r7.neg, nl r7.num, nl r7.den, .bool r2.neg, nl r2.num, nl r2.den, .bool r5.neg, nl r5.num, nl r5.den, .bool r8.neg, nl r8.num, nl r8.den])] := by
  refine symFunc_sound hmix tree_affine_columns (by kernel_rfl) rfl ?_
  unfold ir_affine_columns
  simp only [fa_agg, fa_one, fa_nil, List.cons_append, List.nil_append, List.append_nil]
  exact ret_step rfl

theorem n_vec_Dot_0  {r0 r1 r2 r3 r4 r5 : RR} {x0 x1 x2 x3 x4 x5 : Rat} {k0 : Rat} (h0 : Num 9000000000 r0 x0) (h1 : Num 9000000000 r1 x1) (h2 : Num 9000000000 r2 x2) (h3 : Num 9000000000 r3 x3) (h4 : Num 9000000000 r4 x4) (h5 : Num 9000000000 r5 x5) (e0 : k0 = (((x0 * x3) + (x1 * x4)) + (x2 * x5)))  : PureCalls prog F.vec_Dot [.agg ([.bool r0.neg, nl r0.num, nl r0.den, .bool r1.neg, nl r1.num, nl r1.den, .bool r2.neg, nl r2.num, nl r2.den]), .agg ([.bool r3.neg, nl r3.num, nl r3.den, .bool r4.neg, nl r4.num, nl r4.den, .bool r5.neg, nl r5.num, nl r5.den])] [.agg ([.bool (decide ((k0).num < 0)), nn (k0).num.natAbs, nn (k0).den])] := by
  subst e0
  refine symFunc_sound hmix tree_vec_Dot (by kernel_rfl) rfl ?_
  unfold ir_vec_Dot
  simp only [fa_agg, fa_one, fa_nil, List.cons_append, List.nil_append, List.append_nil]
  refine primS (rl [r0, r3]) rfl ?_
  refine call_step (n_rat_Product_2 (k0 := (x0 * x3)) (h0.mono (by decide)) (h3.mono (by decide)) rfl) rfl ?_
  simp only [fa_agg, fa_one, fa_nil, List.cons_append, List.nil_append, List.append_nil]
  refine primS (rl [r1, r4]) rfl ?_
  refine call_step (n_rat_Product_2 (k0 := (x1 * x4)) (h1.mono (by decide)) (h4.mono (by decide)) rfl) rfl ?_
  simp only [fa_agg, fa_one, fa_nil, List.cons_append, List.nil_append, List.append_nil]
  refine primS (rl [r2, r5]) rfl ?_
  refine call_step (n_rat_Product_2 (k0 := (x2 * x5)) (h2.mono (by decide)) (h5.mono (by decide)) rfl) rfl ?_
  simp only [fa_agg, fa_one, fa_nil, List.cons_append, List.nil_append, List.append_nil]
  refine primS (rl [(cr (x0 * x3)), (cr (x1 * x4)), (cr (x2 * x5))]) rfl ?_
  have m12 : Num 18000000000 (cr (x0 * x3)) (x0 * x3) := Num.of (Sm.mul h0.sm h3.sm)
  have m13 : Num 18000000000 (cr (x1 * x4)) (x1 * x4) := Num.of (Sm.mul h1.sm h4.sm)
  have m14 : Num 18000000000 (cr (x2 * x5)) (x2 * x5) := Num.of (Sm.mul h2.sm h5.sm)
  refine call_step (n_rat_Sum_3 (k0 := (((x0 * x3) + (x1 * x4)) + (x2 * x5))) (m12.mono (by decide)) (m13.mono (by decide)) (m14.mono (by decide)) rfl) rfl ?_
  simp only [fa_agg, fa_one, fa_nil, List.cons_append, List.nil_append, List.append_nil]
  exact ret_step rfl

theorem n_affine_Then_1_0  {r0 r1 r2 r3 r4 r5 r6 r7 r8 r9 r10 r11 : RR} {x0 x1 x2 x3 x4 x5 x6 x7 x8 x9 x10 x11 : Rat} {k0 k1 k2 : Rat} (h0 : Num 9000000000 r0 x0) (h1 : Num 9000000000 r1 x1) (h2 : Num 9000000000 r2 x2) (h3 : Num 9000000000 r3 x3) (h4 : Num 9000000000 r4 x4) (h5 : Num 9000000000 r5 x5) (h6 : Num 9000000000 r6 x6) (h7 : Num 9000000000 r7 x7) (h8 : Num 9000000000 r8 x8) (h9 : Num 9000000000 r9 x9) (h10 : Num 9000000000 r10 x10) (h11 : Num 9000000000 r11 x11) (e0 : k0 = (((x0 * x3) + (x1 * x4)) + (x2 * x5))) (e1 : k1 = (((x0 * x6) + (x1 * x7)) + (x2 * x8))) (e2 : k2 = (((x0 * x9) + (x1 * x10)) + (x2 * x11)))  : PureCalls prog F.affine_Then_1 [.agg ([.bool r0.neg, nl r0.num, nl r0.den, .bool r1.neg, nl r1.num, nl r1.den, .bool r2.neg, nl r2.num, nl r2.den]), .ref ([.bool r3.neg, nl r3.num, nl r3.den, .bool r4.neg, nl r4.num, nl r4.den, .bool r5.neg, nl r5.num, nl r5.den, .bool r6.neg, nl r6.num, nl r6.den, .bool r7.neg, nl r7.num, nl r7.den, .bool r8.neg, nl r8.num, nl r8.den, .bool r9.neg, nl r9.num, nl r9.den, .bool r10.neg, nl r10.num, nl r10.den, .bool r11.neg, nl r11.num, nl r11.den])] [.agg ([.bool (decide ((k0).num < 0)), nn (k0).num.natAbs, nn (k0).den, .bool (decide ((k1).num < 0)), nn (k1).num.natAbs, nn (k1).den, .bool (decide ((k2).num < 0)), nn (k2).num.natAbs, nn (k2).den])] := by
  subst e0 e1 e2
  refine symFunc_sound hmix tree_affine_Then_1 (by kernel_rfl) rfl ?_
  unfold ir_affine_Then_1
  simp only [fa_agg, fa_one, fa_nil, List.cons_append, List.nil_append, List.append_nil]
  refine call_step (n_vec_Dot_0 (k0 := (((x0 * x3) + (x1 * x4)) + (x2 * x5))) (h0.mono (by decide)) (h1.mono (by decide)) (h2.mono (by decide)) (h3.mono (by decide)) (h4.mono (by decide)) (h5.mono (by decide)) rfl) rfl ?_
  simp only [fa_agg, fa_one, fa_nil, List.cons_append, List.nil_append, List.append_nil]
  refine call_step (n_vec_Dot_0 (k0 := (((x0 * x6) + (x1 * x7)) + (x2 * x8))) (h0.mono (by decide)) (h1.mono (by decide)) (h2.mono (by decide)) (h6.mono (by decide)) (h7.mono (by decide)) (h8.mono (by decide)) rfl) rfl ?_
  simp only [fa_agg, fa_one, fa_nil, List.cons_append, List.nil_append, List.append_nil]
  refine call_step (n_vec_Dot_0 (k0 := (((x0 * x9) + (x1 * x10)) + (x2 * x11))) (h0.mono (by decide)) (h1.mono (by decide)) (h2.mono (by decide)) (h9.mono (by decide)) (h10.mono (by decide)) (h11.mono (by decide)) rfl) rfl ?_
  simp only [fa_agg, fa_one, fa_nil, List.cons_append, List.nil_append, List.append_nil]
  exact ret_step rfl

theorem n_affine_Turn_0  {r0 r1 r2 r3 r4 r5 r6 r7 r8 r9 r10 r11 r12 r13 r14 : RR} {x0 x1 x2 x3 x4 x5 x6 x7 x8 x9 x10 x11 x12 x13 x14 : Rat} {k0 k1 k2 : Rat} (h0 : Num 9000000000 r0 x0) (h1 : Num 9000000000 r1 x1) (h2 : Num 9000000000 r2 x2) (h3 : Num 9000000000 r3 x3) (h4 : Num 9000000000 r4 x4) (h5 : Num 9000000000 r5 x5) (h6 : Num 9000000000 r6 x6) (h7 : Num 9000000000 r7 x7) (h8 : Num 9000000000 r8 x8) (h9 : Num 9000000000 r9 x9) (h10 : Num 9000000000 r10 x10) (h11 : Num 9000000000 r11 x11) (h12 : Num 9000000000 r12 x12) (h13 : Num 9000000000 r13 x13) (h14 : Num 9000000000 r14 x14) (e0 : k0 = (((x0 * x12) + (x1 * x13)) + (x2 * x14))) (e1 : k1 = (((x3 * x12) + (x4 * x13)) + (x5 * x14))) (e2 : k2 = (((x6 * x12) + (x7 * x13)) + (x8 * x14)))  : PureCalls prog F.affine_Turn [.agg ([.bool r0.neg, nl r0.num, nl r0.den, .bool r1.neg, nl r1.num, nl r1.den, .bool r2.neg, nl r2.num, nl r2.den, .bool r3.neg, nl r3.num, nl r3.den, .bool r4.neg, nl r4.num, nl r4.den, .bool r5.neg, nl r5.num, nl r5.den, .bool r6.neg, nl r6.num, nl r6.den, .bool r7.neg, nl r7.num, nl r7.den, .bool r8.neg, nl r8.num, nl r8.den, .bool r9.neg, nl r9.num, nl r9.den, .bool r10.neg, nl r10.num, nl r10.den, .bool r11.neg, nl r11.num, nl r11.den]), .agg ([.bool r12.neg, nl r12.num, nl r12.den, .bool r13.neg, nl r13.num, nl r13.den, .bool r14.neg, nl r14.num, nl r14.den])] [.agg ([.bool (decide ((k0).num < 0)), nn (k0).num.natAbs, nn (k0).den, .bool (decide ((k1).num < 0)), nn (k1).num.natAbs, nn (k1).den, .bool (decide ((k2).num < 0)), nn (k2).num.natAbs, nn (k2).den])] := by
  subst e0 e1 e2
  refine symFunc_sound hmix tree_affine_Turn (by kernel_rfl) rfl ?_
  unfold ir_affine_Turn
  simp only [fa_agg, fa_one, fa_nil, List.cons_append, List.nil_append, List.append_nil]
  refine call_step (n_vec_Dot_0 (k0 := (((x0 * x12) + (x1 * x13)) + (x2 * x14))) (h0.mono (by decide)) (h1.mono (by decide)) (h2.mono (by decide)) (h12.mono (by decide)) (h13.mono (by decide)) (h14.mono (by decide)) rfl) rfl ?_
  simp only [fa_agg, fa_one, fa_nil, List.cons_append, List.nil_append, List.append_nil]
  refine call_step (n_vec_Dot_0 (k0 := (((x3 * x12) + (x4 * x13)) + (x5 * x14))) (h3.mono (by decide)) (h4.mono (by decide)) (h5.mono (by decide)) (h12.mono (by decide)) (h13.mono (by decide)) (h14.mono (by decide)) rfl) rfl ?_
  simp only [fa_agg, fa_one, fa_nil, List.cons_append, List.nil_append, List.append_nil]
  refine call_step (n_vec_Dot_0 (k0 := (((x6 * x12) + (x7 * x13)) + (x8 * x14))) (h6.mono (by decide)) (h7.mono (by decide)) (h8.mono (by decide)) (h12.mono (by decide)) (h13.mono (by decide)) (h14.mono (by decide)) rfl) rfl ?_
  simp only [fa_agg, fa_one, fa_nil, List.cons_append, List.nil_append, List.append_nil]
  exact ret_step rfl

theorem n_affine_Apply_0  {r0 r1 r2 r3 r4 r5 r6 r7 r8 r9 r10 r11 r12 r13 r14 : RR} {x0 x1 x2 x3 x4 x5 x6 x7 x8 x9 x10 x11 x12 x13 x14 : Rat} {k0 k1 k2 : Rat} (h0 : Num 900000000 r0 x0) (h1 : Num 900000000 r1 x1) (h2 : Num 900000000 r2 x2) (h3 : Num 900000000 r3 x3) (h4 : Num 900000000 r4 x4) (h5 : Num 900000000 r5 x5) (h6 : Num 900000000 r6 x6) (h7 : Num 900000000 r7 x7) (h8 : Num 900000000 r8 x8) (h9 : Num 900000000 r9 x9) (h10 : Num 900000000 r10 x10) (h11 : Num 900000000 r11 x11) (h12 : Num 900000000 r12 x12) (h13 : Num 900000000 r13 x13) (h14 : Num 900000000 r14 x14) (e0 : k0 = ((((x0 * x12) + (x1 * x13)) + (x2 * x14)) + x9)) (e1 : k1 = ((((x3 * x12) + (x4 * x13)) + (x5 * x14)) + x10)) (e2 : k2 = ((((x6 * x12) + (x7 * x13)) + (x8 * x14)) + x11))  : PureCalls prog F.affine_Apply [.agg ([.bool r0.neg, nl r0.num, nl r0.den, .bool r1.neg, nl r1.num, nl r1.den, .bool r2.neg, nl r2.num, nl r2.den, .bool r3.neg, nl r3.num, nl r3.den, .bool r4.neg, nl r4.num, nl r4.den, .bool r5.neg, nl r5.num, nl r5.den, .bool r6.neg, nl r6.num, nl r6.den, .bool r7.neg, nl r7.num, nl r7.den, .bool r8.neg, nl r8.num, nl r8.den, .bool r9.neg, nl r9.num, nl r9.den, .bool r10.neg, nl r10.num, nl r10.den, .bool r11.neg, nl r11.num, nl r11.den]), .agg ([.bool r12.neg, nl r12.num, nl r12.den, .bool r13.neg, nl r13.num, nl r13.den, .bool r14.neg, nl r14.num, nl r14.den])] [.agg ([.bool (decide ((k0).num < 0)), nn (k0).num.natAbs, nn (k0).den, .bool (decide ((k1).num < 0)), nn (k1).num.natAbs, nn (k1).den, .bool (decide ((k2).num < 0)), nn (k2).num.natAbs, nn (k2).den])] := by
  subst e0 e1 e2
  refine symFunc_sound hmix tree_affine_Apply (by kernel_rfl) rfl ?_
  unfold ir_affine_Apply
  simp only [fa_agg, fa_one, fa_nil, List.cons_append, List.nil_append, List.append_nil]
  refine call_step (n_affine_Turn_0 (k0 := (((x0 * x12) + (x1 * x13)) + (x2 * x14))) (k1 := (((x3 * x12) + (x4 * x13)) + (x5 * x14))) (k2 := (((x6 * x12) + (x7 * x13)) + (x8 * x14))) (h0.mono (by decide)) (h1.mono (by decide)) (h2.mono (by decide)) (h3.mono (by decide)) (h4.mono (by decide)) (h5.mono (by decide)) (h6.mono (by decide)) (h7.mono (by decide)) (h8.mono (by decide)) (h9.mono (by decide)) (h10.mono (by decide)) (h11.mono (by decide)) (h12.mono (by decide)) (h13.mono (by decide)) (h14.mono (by decide)) rfl rfl rfl) rfl ?_
  simp only [fa_agg, fa_one, fa_nil, List.cons_append, List.nil_append, List.append_nil]
  refine primS (rl3 [((cr (((x0 * x12) + (x1 * x13)) + (x2 * x14))), (cr (((x3 * x12) + (x4 * x13)) + (x5 * x14))), (cr (((x6 * x12) + (x7 * x13)) + (x8 * x14)))), (r9, r10, r11)]) rfl ?_
  have m21 : Num 5400000002 (cr (((x0 * x12) + (x1 * x13)) + (x2 * x14))) (((x0 * x12) + (x1 * x13)) + (x2 * x14)) := Num.of (Sm.add (Sm.add (Sm.mul h0.sm h12.sm) (Sm.mul h1.sm h13.sm)) (Sm.mul h2.sm h14.sm))
  have m22 : Num 5400000002 (cr (((x3 * x12) + (x4 * x13)) + (x5 * x14))) (((x3 * x12) + (x4 * x13)) + (x5 * x14)) := Num.of (Sm.add (Sm.add (Sm.mul h3.sm h12.sm) (Sm.mul h4.sm h13.sm)) (Sm.mul h5.sm h14.sm))
  have m23 : Num 5400000002 (cr (((x6 * x12) + (x7 * x13)) + (x8 * x14))) (((x6 * x12) + (x7 * x13)) + (x8 * x14)) := Num.of (Sm.add (Sm.add (Sm.mul h6.sm h12.sm) (Sm.mul h7.sm h13.sm)) (Sm.mul h8.sm h14.sm))
  refine call_step (n_vec_Sum_2 (o0 := ((((x0 * x12) + (x1 * x13)) + (x2 * x14)) + x9)) (o1 := ((((x3 * x12) + (x4 * x13)) + (x5 * x14)) + x10)) (o2 := ((((x6 * x12) + (x7 * x13)) + (x8 * x14)) + x11)) (m21.mono (by decide)) (m22.mono (by decide)) (m23.mono (by decide)) (h9.mono (by decide)) (h10.mono (by decide)) (h11.mono (by decide)) rfl rfl rfl) rfl ?_
  simp only [fa_agg, fa_one, fa_nil, List.cons_append, List.nil_append, List.append_nil]
  exact ret_step rfl

theorem n_affine_Then_0  {r0 r1 r2 r3 r4 r5 r6 r7 r8 r9 r10 r11 r12 r13 r14 r15 r16 r17 r18 r19 r20 r21 r22 r23 : RR} {x0 x1 x2 x3 x4 x5 x6 x7 x8 x9 x10 x11 x12 x13 x14 x15 x16 x17 x18 x19 x20 x21 x22 x23 : Rat} {k0 k1 k2 k3 k4 k5 k6 k7 k8 k9 k10 k11 : Rat} (h0 : Num 900000000 r0 x0) (h1 : Num 900000000 r1 x1) (h2 : Num 900000000 r2 x2) (h3 : Num 900000000 r3 x3) (h4 : Num 900000000 r4 x4) (h5 : Num 900000000 r5 x5) (h6 : Num 900000000 r6 x6) (h7 : Num 900000000 r7 x7) (h8 : Num 900000000 r8 x8) (h9 : Num 900000000 r9 x9) (h10 : Num 900000000 r10 x10) (h11 : Num 900000000 r11 x11) (h12 : Num 900000000 r12 x12) (h13 : Num 900000000 r13 x13) (h14 : Num 900000000 r14 x14) (h15 : Num 900000000 r15 x15) (h16 : Num 900000000 r16 x16) (h17 : Num 900000000 r17 x17) (h18 : Num 900000000 r18 x18) (h19 : Num 900000000 r19 x19) (h20 : Num 900000000 r20 x20) (h21 : Num 900000000 r21 x21) (h22 : Num 900000000 r22 x22) (h23 : Num 900000000 r23 x23) (e0 : k0 = (((x12 * x0) + (x13 * x3)) + (x14 * x6))) (e1 : k1 = (((x12 * x1) + (x13 * x4)) + (x14 * x7))) (e2 : k2 = (((x12 * x2) + (x13 * x5)) + (x14 * x8))) (e3 : k3 = (((x15 * x0) + (x16 * x3)) + (x17 * x6))) (e4 : k4 = (((x15 * x1) + (x16 * x4)) + (x17 * x7))) (e5 : k5 = (((x15 * x2) + (x16 * x5)) + (x17 * x8))) (e6 : k6 = (((x18 * x0) + (x19 * x3)) + (x20 * x6))) (e7 : k7 = (((x18 * x1) + (x19 * x4)) + (x20 * x7))) (e8 : k8 = (((x18 * x2) + (x19 * x5)) + (x20 * x8))) (e9 : k9 = ((((x12 * x9) + (x13 * x10)) + (x14 * x11)) + x21)) (e10 : k10 = ((((x15 * x9) + (x16 * x10)) + (x17 * x11)) + x22)) (e11 : k11 = ((((x18 * x9) + (x19 * x10)) + (x20 * x11)) + x23))  : PureCalls prog F.affine_Then [.agg ([.bool r0.neg, nl r0.num, nl r0.den, .bool r1.neg, nl r1.num, nl r1.den, .bool r2.neg, nl r2.num, nl r2.den, .bool r3.neg, nl r3.num, nl r3.den, .bool r4.neg, nl r4.num, nl r4.den, .bool r5.neg, nl r5.num, nl r5.den, .bool r6.neg, nl r6.num, nl r6.den, .bool r7.neg, nl r7.num, nl r7.den, .bool r8.neg, nl r8.num, nl r8.den, .bool r9.neg, nl r9.num, nl r9.den, .bool r10.neg, nl r10.num, nl r10.den, .bool r11.neg, nl r11.num, nl r11.den]), .agg ([.bool r12.neg, nl r12.num, nl r12.den, .bool r13.neg, nl r13.num, nl r13.den, .bool r14.neg, nl r14.num, nl r14.den, .bool r15.neg, nl r15.num, nl r15.den, .bool r16.neg, nl r16.num, nl r16.den, .bool r17.neg, nl r17.num, nl r17.den, .bool r18.neg, nl r18.num, nl r18.den, .bool r19.neg, nl r19.num, nl r19.den, .bool r20.neg, nl r20.num, nl r20.den, .bool r21.neg, nl r21.num, nl r21.den, .bool r22.neg, nl r22.num, nl r22.den, .bool r23.neg, nl r23.num, nl r23.den])] [.agg ([.bool (decide ((k0).num < 0)), nn (k0).num.natAbs, nn (k0).den, .bool (decide ((k1).num < 0)), nn (k1).num.natAbs, nn (k1).den, .bool (decide ((k2).num < 0)), nn (k2).num.natAbs, nn (k2).den, .bool (decide ((k3).num < 0)), nn (k3).num.natAbs, nn (k3).den, .bool (decide ((k4).num < 0)), nn (k4).num.natAbs, nn (k4).den, .bool (decide ((k5).num < 0)), nn (k5).num.natAbs, nn (k5).den, .bool (decide ((k6).num < 0)), nn (k6).num.natAbs, nn (k6).den, .bool (decide ((k7).num < 0)), nn (k7).num.natAbs, nn (k7).den, .bool (decide ((k8).num < 0)), nn (k8).num.natAbs, nn (k8).den, .bool (decide ((k9).num < 0)), nn (k9).num.natAbs, nn (k9).den, .bool (decide ((k10).num < 0)), nn (k10).num.natAbs, nn (k10).den, .bool (decide ((k11).num < 0)), nn (k11).num.natAbs, nn (k11).den])] := by
  subst e0 e1 e2 e3 e4 e5 e6 e7 e8 e9 e10 e11
  refine symFunc_sound hmix tree_affine_Then (by kernel_rfl) rfl ?_
  unfold ir_affine_Then
  simp only [fa_agg, fa_one, fa_nil, List.cons_append, List.nil_append, List.append_nil]
  refine call_step (n_affine_columns_0 (h0.mono (by decide)) (h1.mono (by decide)) (h2.mono (by decide)) (h3.mono (by decide)) (h4.mono (by decide)) (h5.mono (by decide)) (h6.mono (by decide)) (h7.mono (by decide)) (h8.mono (by decide)) (h9.mono (by decide)) (h10.mono (by decide)) (h11.mono (by decide))) rfl ?_
  simp only [fa_agg, fa_one, fa_nil, List.cons_append, List.nil_append, List.append_nil]
  refine call_step (n_affine_Then_1_0 (k0 := (((x12 * x0) + (x13 * x3)) + (x14 * x6))) (k1 := (((x12 * x1) + (x13 * x4)) + (x14 * x7))) (k2 := (((x12 * x2) + (x13 * x5)) + (x14 * x8))) (h12.mono (by decide)) (h13.mono (by decide)) (h14.mono (by decide)) (h0.mono (by decide)) (h3.mono (by decide)) (h6.mono (by decide)) (h1.mono (by decide)) (h4.mono (by decide)) (h7.mono (by decide)) (h2.mono (by decide)) (h5.mono (by decide)) (h8.mono (by decide)) rfl rfl rfl) rfl ?_
  simp only [fa_agg, fa_one, fa_nil, List.cons_append, List.nil_append, List.append_nil]
  refine call_step (n_affine_Then_1_0 (k0 := (((x15 * x0) + (x16 * x3)) + (x17 * x6))) (k1 := (((x15 * x1) + (x16 * x4)) + (x17 * x7))) (k2 := (((x15 * x2) + (x16 * x5)) + (x17 * x8))) (h15.mono (by decide)) (h16.mono (by decide)) (h17.mono (by decide)) (h0.mono (by decide)) (h3.mono (by decide)) (h6.mono (by decide)) (h1.mono (by decide)) (h4.mono (by decide)) (h7.mono (by decide)) (h2.mono (by decide)) (h5.mono (by decide)) (h8.mono (by decide)) rfl rfl rfl) rfl ?_
  simp only [fa_agg, fa_one, fa_nil, List.cons_append, List.nil_append, List.append_nil]
  refine call_step (n_affine_Then_1_0 (k0 := (((x18 * x0) + (x19 * x3)) + (x20 * x6))) (k1 := (((x18 * x1) + (x19 * x4)) + (x20 * x7))) (k2 := (((x18 * x2) + (x19 * x5)) + (x20 * x8))) (h18.mono (by decide)) (h19.mono (by decide)) (h20.mono (by decide)) (h0.mono (by decide)) (h3.mono (by decide)) (h6.mono (by decide)) (h1.mono (by decide)) (h4.mono (by decide)) (h7.mono (by decide)) (h2.mono (by decide)) (h5.mono (by decide)) (h8.mono (by decide)) rfl rfl rfl) rfl ?_
  simp only [fa_agg, fa_one, fa_nil, List.cons_append, List.nil_append, List.append_nil]
  refine call_step (n_affine_Apply_0 (k0 := ((((x12 * x9) + (x13 * x10)) + (x14 * x11)) + x21)) (k1 := ((((x15 * x9) + (x16 * x10)) + (x17 * x11)) + x22)) (k2 := ((((x18 * x9) + (x19 * x10)) + (x20 * x11)) + x23)) (h12.mono (by decide)) (h13.mono (by decide)) (h14.mono (by decide)) (h15.mono (by decide)) (h16.mono (by decide)) (h17.mono (by decide)) (h18.mono (by decide)) (h19.mono (by decide)) (h20.mono (by decide)) (h21.mono (by decide)) (h22.mono (by decide)) (h23.mono (by decide)) (h9.mono (by decide)) (h10.mono (by decide)) (h11.mono (by decide)) rfl rfl rfl) rfl ?_
  simp only [fa_agg, fa_one, fa_nil, List.cons_append, List.nil_append, List.append_nil]
  exact ret_step rfl

theorem n_affine_Identity_0 {Z0 Z1 : Rat} (Y0 : Z0 = (0 : Rat)) (Y1 : Z1 = (1 : Rat))    : PureCalls prog F.affine_Identity [] [.agg ([.bool (decide ((Z1).num < 0)), nn (Z1).num.natAbs, nn (Z1).den, .bool (decide ((Z0).num < 0)), nn (Z0).num.natAbs, nn (Z0).den, .bool (decide ((Z0).num < 0)), nn (Z0).num.natAbs, nn (Z0).den, .bool (decide ((Z0).num < 0)), nn (Z0).num.natAbs, nn (Z0).den, .bool (decide ((Z1).num < 0)), nn (Z1).num.natAbs, nn (Z1).den, .bool (decide ((Z0).num < 0)), nn (Z0).num.natAbs, nn (Z0).den, .bool (decide ((Z0).num < 0)), nn (Z0).num.natAbs, nn (Z0).den, .bool (decide ((Z0).num < 0)), nn (Z0).num.natAbs, nn (Z0).den, .bool (decide ((Z1).num < 0)), nn (Z1).num.natAbs, nn (Z1).den, .bool (decide ((Z0).num < 0)), nn (Z0).num.natAbs, nn (Z0).den, .bool (decide ((Z0).num < 0)), nn (Z0).num.natAbs, nn (Z0).den, .bool (decide ((Z0).num < 0)), nn (Z0).num.natAbs, nn (Z0).den])] := by
  refine symFunc_sound hmix tree_affine_Identity (by kernel_rfl) rfl ?_
  unfold ir_affine_Identity
  simp only [fa_agg, fa_one, fa_nil, List.cons_append, List.nil_append, List.append_nil]
  refine call_step (n_vec_Of (1) (0) (0) (by decide) (by decide) (by decide) (by decide) (by decide) (by decide) (Y1.trans (by decide +kernel)) (Y0.trans (by decide +kernel)) (Y0.trans (by decide +kernel))) rfl ?_
  simp only [fa_agg, fa_one, fa_nil, List.cons_append, List.nil_append, List.append_nil]
  refine call_step (n_vec_Of (0) (1) (0) (by decide) (by decide) (by decide) (by decide) (by decide) (by decide) (Y0.trans (by decide +kernel)) (Y1.trans (by decide +kernel)) (Y0.trans (by decide +kernel))) rfl ?_
  simp only [fa_agg, fa_one, fa_nil, List.cons_append, List.nil_append, List.append_nil]
  refine call_step (n_vec_Of (0) (0) (1) (by decide) (by decide) (by decide) (by decide) (by decide) (by decide) (Y0.trans (by decide +kernel)) (Y0.trans (by decide +kernel)) (Y1.trans (by decide +kernel))) rfl ?_
  simp only [fa_agg, fa_one, fa_nil, List.cons_append, List.nil_append, List.append_nil]
  refine call_step (n_vec_Of (0) (0) (0) (by decide) (by decide) (by decide) (by decide) (by decide) (by decide) (Y0.trans (by decide +kernel)) (Y0.trans (by decide +kernel)) (Y0.trans (by decide +kernel))) rfl ?_
  simp only [fa_agg, fa_one, fa_nil, List.cons_append, List.nil_append, List.append_nil]
  exact ret_step rfl

theorem n_vec_Scale_0  {r0 r1 r2 r3 : RR} {x0 x1 x2 x3 : Rat} {k0 k1 k2 : Rat} (h0 : Num 9000000000 r0 x0) (h1 : Num 9000000000 r1 x1) (h2 : Num 9000000000 r2 x2) (h3 : Num 9000000000 r3 x3) (e0 : k0 = (x0 * x1)) (e1 : k1 = (x0 * x2)) (e2 : k2 = (x0 * x3))  : PureCalls prog F.vec_Scale [.agg ([.bool r0.neg, nl r0.num, nl r0.den]), .agg ([.bool r1.neg, nl r1.num, nl r1.den, .bool r2.neg, nl r2.num, nl r2.den, .bool r3.neg, nl r3.num, nl r3.den])] [.agg ([.bool (decide ((k0).num < 0)), nn (k0).num.natAbs, nn (k0).den, .bool (decide ((k1).num < 0)), nn (k1).num.natAbs, nn (k1).den, .bool (decide ((k2).num < 0)), nn (k2).num.natAbs, nn (k2).den])] := by
  subst e0 e1 e2
  refine symFunc_sound hmix tree_vec_Scale (by kernel_rfl) rfl ?_
  unfold ir_vec_Scale
  simp only [fa_agg, fa_one, fa_nil, List.cons_append, List.nil_append, List.append_nil]
  refine primS (rl [r0, r1]) rfl ?_
  refine call_step (n_rat_Product_2 (k0 := (x0 * x1)) (h0.mono (by decide)) (h1.mono (by decide)) rfl) rfl ?_
  simp only [fa_agg, fa_one, fa_nil, List.cons_append, List.nil_append, List.append_nil]
  refine primS (rl [r0, r2]) rfl ?_
  refine call_step (n_rat_Product_2 (k0 := (x0 * x2)) (h0.mono (by decide)) (h2.mono (by decide)) rfl) rfl ?_
  simp only [fa_agg, fa_one, fa_nil, List.cons_append, List.nil_append, List.append_nil]
  refine primS (rl [r0, r3]) rfl ?_
  refine call_step (n_rat_Product_2 (k0 := (x0 * x3)) (h0.mono (by decide)) (h3.mono (by decide)) rfl) rfl ?_
  simp only [fa_agg, fa_one, fa_nil, List.cons_append, List.nil_append, List.append_nil]
  exact ret_step rfl

theorem n_affine_Stretch_0 {Z0 Z1 : Rat} (Y0 : Z0 = (0 : Rat)) (Y1 : Z1 = (1 : Rat)) {r0 r1 r2 r3 r4 r5 r6 : RR} {x0 x1 x2 x3 x4 x5 x6 : Rat} {k0 k1 k2 k3 k4 k5 k6 k7 k8 k9 k10 k11 : Rat} (h0 : Num 900000000 r0 x0) (h1 : Num 900000000 r1 x1) (h2 : Num 900000000 r2 x2) (h3 : Num 900000000 r3 x3) (h4 : Num 900000000 r4 x4) (h5 : Num 900000000 r5 x5) (h6 : Num 900000000 r6 x6) (e0 : k0 = (Z1 + (((x6 - Z1) * x3) * x3))) (e1 : k1 = (Z0 + (((x6 - Z1) * x3) * x4))) (e2 : k2 = (Z0 + (((x6 - Z1) * x3) * x5))) (e3 : k3 = (Z0 + (((x6 - Z1) * x4) * x3))) (e4 : k4 = (Z1 + (((x6 - Z1) * x4) * x4))) (e5 : k5 = (Z0 + (((x6 - Z1) * x4) * x5))) (e6 : k6 = (Z0 + (((x6 - Z1) * x5) * x3))) (e7 : k7 = (Z0 + (((x6 - Z1) * x5) * x4))) (e8 : k8 = (Z1 + (((x6 - Z1) * x5) * x5))) (e9 : k9 = ((-((x6 - Z1) * (((x0 * x3) + (x1 * x4)) + (x2 * x5)))) * x3)) (e10 : k10 = ((-((x6 - Z1) * (((x0 * x3) + (x1 * x4)) + (x2 * x5)))) * x4)) (e11 : k11 = ((-((x6 - Z1) * (((x0 * x3) + (x1 * x4)) + (x2 * x5)))) * x5))  : PureCalls prog F.affine_Stretch [.agg ([.bool r0.neg, nl r0.num, nl r0.den, .bool r1.neg, nl r1.num, nl r1.den, .bool r2.neg, nl r2.num, nl r2.den]), .agg ([.bool r3.neg, nl r3.num, nl r3.den, .bool r4.neg, nl r4.num, nl r4.den, .bool r5.neg, nl r5.num, nl r5.den]), .agg ([.bool r6.neg, nl r6.num, nl r6.den])] [.agg ([.bool (decide ((k0).num < 0)), nn (k0).num.natAbs, nn (k0).den, .bool (decide ((k1).num < 0)), nn (k1).num.natAbs, nn (k1).den, .bool (decide ((k2).num < 0)), nn (k2).num.natAbs, nn (k2).den, .bool (decide ((k3).num < 0)), nn (k3).num.natAbs, nn (k3).den, .bool (decide ((k4).num < 0)), nn (k4).num.natAbs, nn (k4).den, .bool (decide ((k5).num < 0)), nn (k5).num.natAbs, nn (k5).den, .bool (decide ((k6).num < 0)), nn (k6).num.natAbs, nn (k6).den, .bool (decide ((k7).num < 0)), nn (k7).num.natAbs, nn (k7).den, .bool (decide ((k8).num < 0)), nn (k8).num.natAbs, nn (k8).den, .bool (decide ((k9).num < 0)), nn (k9).num.natAbs, nn (k9).den, .bool (decide ((k10).num < 0)), nn (k10).num.natAbs, nn (k10).den, .bool (decide ((k11).num < 0)), nn (k11).num.natAbs, nn (k11).den])] := by
  subst e0 e1 e2 e3 e4 e5 e6 e7 e8 e9 e10 e11
  refine symFunc_sound hmix tree_affine_Stretch (by kernel_rfl) rfl ?_
  unfold ir_affine_Stretch
  simp only [fa_agg, fa_one, fa_nil, List.cons_append, List.nil_append, List.append_nil]
  refine call_step (n_rat_Of (1) (1) (by decide) (by decide) (by decide) (by decide) (Y1.trans (by decide +kernel))) rfl ?_
  simp only [fa_agg, fa_one, fa_nil, List.cons_append, List.nil_append, List.append_nil]
  have m58 : Num 1 (cr Z1) Z1 := Num.c Y1 (by decide +kernel) (by decide +kernel)
  refine call_step (n_rat_Sub (k0 := (x6 - Z1)) (h6.mono (by decide)) (m58.mono (by decide)) rfl) rfl ?_
  simp only [fa_agg, fa_one, fa_nil, List.cons_append, List.nil_append, List.append_nil]
  refine call_step (n_affine_Identity_0 Y0 Y1) rfl ?_
  simp only [fa_agg, fa_one, fa_nil, List.cons_append, List.nil_append, List.append_nil]
  refine primS (rl [(cr (x6 - Z1)), r3]) rfl ?_
  have m60 : Num 900000002 (cr (x6 - Z1)) (x6 - Z1) := Num.of (Sm.sub h6.sm m58.sm)
  refine call_step (n_rat_Product_2 (k0 := ((x6 - Z1) * x3)) (m60.mono (by decide)) (h3.mono (by decide)) rfl) rfl ?_
  simp only [fa_agg, fa_one, fa_nil, List.cons_append, List.nil_append, List.append_nil]
  have m61 : Num 1800000002 (cr ((x6 - Z1) * x3)) ((x6 - Z1) * x3) := Num.of (Sm.mul m60.sm h3.sm)
  refine call_step (n_vec_Scale_0 (k0 := (((x6 - Z1) * x3) * x3)) (k1 := (((x6 - Z1) * x3) * x4)) (k2 := (((x6 - Z1) * x3) * x5)) (m61.mono (by decide)) (h3.mono (by decide)) (h4.mono (by decide)) (h5.mono (by decide)) rfl rfl rfl) rfl ?_
  simp only [fa_agg, fa_one, fa_nil, List.cons_append, List.nil_append, List.append_nil]
  refine primS (rl3 [((cr Z1), (cr Z0), (cr Z0)), ((cr (((x6 - Z1) * x3) * x3)), (cr (((x6 - Z1) * x3) * x4)), (cr (((x6 - Z1) * x3) * x5)))]) rfl ?_
  have m63 : Num 1 (cr Z0) Z0 := Num.c Y0 (by decide +kernel) (by decide +kernel)
  have m64 : Num 2700000002 (cr (((x6 - Z1) * x3) * x3)) (((x6 - Z1) * x3) * x3) := Num.of (Sm.mul m61.sm h3.sm)
  have m65 : Num 2700000002 (cr (((x6 - Z1) * x3) * x4)) (((x6 - Z1) * x3) * x4) := Num.of (Sm.mul m61.sm h4.sm)
  have m66 : Num 2700000002 (cr (((x6 - Z1) * x3) * x5)) (((x6 - Z1) * x3) * x5) := Num.of (Sm.mul m61.sm h5.sm)
  refine call_step (n_vec_Sum_2 (o0 := (Z1 + (((x6 - Z1) * x3) * x3))) (o1 := (Z0 + (((x6 - Z1) * x3) * x4))) (o2 := (Z0 + (((x6 - Z1) * x3) * x5))) (m58.mono (by decide)) (m63.mono (by decide)) (m63.mono (by decide)) (m64.mono (by decide)) (m65.mono (by decide)) (m66.mono (by decide)) rfl rfl rfl) rfl ?_
  simp only [fa_agg, fa_one, fa_nil, List.cons_append, List.nil_append, List.append_nil]
  refine primS (rl [(cr (x6 - Z1)), r4]) rfl ?_
  refine call_step (n_rat_Product_2 (k0 := ((x6 - Z1) * x4)) (m60.mono (by decide)) (h4.mono (by decide)) rfl) rfl ?_
  simp only [fa_agg, fa_one, fa_nil, List.cons_append, List.nil_append, List.append_nil]
  have m68 : Num 1800000002 (cr ((x6 - Z1) * x4)) ((x6 - Z1) * x4) := Num.of (Sm.mul m60.sm h4.sm)
  refine call_step (n_vec_Scale_0 (k0 := (((x6 - Z1) * x4) * x3)) (k1 := (((x6 - Z1) * x4) * x4)) (k2 := (((x6 - Z1) * x4) * x5)) (m68.mono (by decide)) (h3.mono (by decide)) (h4.mono (by decide)) (h5.mono (by decide)) rfl rfl rfl) rfl ?_
  simp only [fa_agg, fa_one, fa_nil, List.cons_append, List.nil_append, List.append_nil]
  refine primS (rl3 [((cr Z0), (cr Z1), (cr Z0)), ((cr (((x6 - Z1) * x4) * x3)), (cr (((x6 - Z1) * x4) * x4)), (cr (((x6 - Z1) * x4) * x5)))]) rfl ?_
  have m70 : Num 2700000002 (cr (((x6 - Z1) * x4) * x3)) (((x6 - Z1) * x4) * x3) := Num.of (Sm.mul m68.sm h3.sm)
  have m71 : Num 2700000002 (cr (((x6 - Z1) * x4) * x4)) (((x6 - Z1) * x4) * x4) := Num.of (Sm.mul m68.sm h4.sm)
  have m72 : Num 2700000002 (cr (((x6 - Z1) * x4) * x5)) (((x6 - Z1) * x4) * x5) := Num.of (Sm.mul m68.sm h5.sm)
  refine call_step (n_vec_Sum_2 (o0 := (Z0 + (((x6 - Z1) * x4) * x3))) (o1 := (Z1 + (((x6 - Z1) * x4) * x4))) (o2 := (Z0 + (((x6 - Z1) * x4) * x5))) (m63.mono (by decide)) (m58.mono (by decide)) (m63.mono (by decide)) (m70.mono (by decide)) (m71.mono (by decide)) (m72.mono (by decide)) rfl rfl rfl) rfl ?_
  simp only [fa_agg, fa_one, fa_nil, List.cons_append, List.nil_append, List.append_nil]
  refine primS (rl [(cr (x6 - Z1)), r5]) rfl ?_
  refine call_step (n_rat_Product_2 (k0 := ((x6 - Z1) * x5)) (m60.mono (by decide)) (h5.mono (by decide)) rfl) rfl ?_
  simp only [fa_agg, fa_one, fa_nil, List.cons_append, List.nil_append, List.append_nil]
  have m74 : Num 1800000002 (cr ((x6 - Z1) * x5)) ((x6 - Z1) * x5) := Num.of (Sm.mul m60.sm h5.sm)
  refine call_step (n_vec_Scale_0 (k0 := (((x6 - Z1) * x5) * x3)) (k1 := (((x6 - Z1) * x5) * x4)) (k2 := (((x6 - Z1) * x5) * x5)) (m74.mono (by decide)) (h3.mono (by decide)) (h4.mono (by decide)) (h5.mono (by decide)) rfl rfl rfl) rfl ?_
  simp only [fa_agg, fa_one, fa_nil, List.cons_append, List.nil_append, List.append_nil]
  refine primS (rl3 [((cr Z0), (cr Z0), (cr Z1)), ((cr (((x6 - Z1) * x5) * x3)), (cr (((x6 - Z1) * x5) * x4)), (cr (((x6 - Z1) * x5) * x5)))]) rfl ?_
  have m76 : Num 2700000002 (cr (((x6 - Z1) * x5) * x3)) (((x6 - Z1) * x5) * x3) := Num.of (Sm.mul m74.sm h3.sm)
  have m77 : Num 2700000002 (cr (((x6 - Z1) * x5) * x4)) (((x6 - Z1) * x5) * x4) := Num.of (Sm.mul m74.sm h4.sm)
  have m78 : Num 2700000002 (cr (((x6 - Z1) * x5) * x5)) (((x6 - Z1) * x5) * x5) := Num.of (Sm.mul m74.sm h5.sm)
  refine call_step (n_vec_Sum_2 (o0 := (Z0 + (((x6 - Z1) * x5) * x3))) (o1 := (Z0 + (((x6 - Z1) * x5) * x4))) (o2 := (Z1 + (((x6 - Z1) * x5) * x5))) (m63.mono (by decide)) (m63.mono (by decide)) (m58.mono (by decide)) (m76.mono (by decide)) (m77.mono (by decide)) (m78.mono (by decide)) rfl rfl rfl) rfl ?_
  simp only [fa_agg, fa_one, fa_nil, List.cons_append, List.nil_append, List.append_nil]
  refine call_step (n_vec_Dot_0 (k0 := (((x0 * x3) + (x1 * x4)) + (x2 * x5))) (h0.mono (by decide)) (h1.mono (by decide)) (h2.mono (by decide)) (h3.mono (by decide)) (h4.mono (by decide)) (h5.mono (by decide)) rfl) rfl ?_
  simp only [fa_agg, fa_one, fa_nil, List.cons_append, List.nil_append, List.append_nil]
  refine primS (rl [(cr (x6 - Z1)), (cr (((x0 * x3) + (x1 * x4)) + (x2 * x5)))]) rfl ?_
  have m80 : Num 5400000002 (cr (((x0 * x3) + (x1 * x4)) + (x2 * x5))) (((x0 * x3) + (x1 * x4)) + (x2 * x5)) := Num.of (Sm.add (Sm.add (Sm.mul h0.sm h3.sm) (Sm.mul h1.sm h4.sm)) (Sm.mul h2.sm h5.sm))
  refine call_step (n_rat_Product_2 (k0 := ((x6 - Z1) * (((x0 * x3) + (x1 * x4)) + (x2 * x5)))) (m60.mono (by decide)) (m80.mono (by decide)) rfl) rfl ?_
  simp only [fa_agg, fa_one, fa_nil, List.cons_append, List.nil_append, List.append_nil]
  have m81 : Num 6300000004 (cr ((x6 - Z1) * (((x0 * x3) + (x1 * x4)) + (x2 * x5)))) ((x6 - Z1) * (((x0 * x3) + (x1 * x4)) + (x2 * x5))) := Num.of (Sm.mul m60.sm m80.sm)
  refine call_step (n_rat_Neg (k0 := (-((x6 - Z1) * (((x0 * x3) + (x1 * x4)) + (x2 * x5))))) (m81.mono (by decide)) rfl) rfl ?_
  simp only [fa_agg, fa_one, fa_nil, List.cons_append, List.nil_append, List.append_nil]
  have m82 : Num 6300000004 (cr (-((x6 - Z1) * (((x0 * x3) + (x1 * x4)) + (x2 * x5))))) (-((x6 - Z1) * (((x0 * x3) + (x1 * x4)) + (x2 * x5)))) := Num.of (Sm.neg m81.sm)
  refine call_step (n_vec_Scale_0 (k0 := ((-((x6 - Z1) * (((x0 * x3) + (x1 * x4)) + (x2 * x5)))) * x3)) (k1 := ((-((x6 - Z1) * (((x0 * x3) + (x1 * x4)) + (x2 * x5)))) * x4)) (k2 := ((-((x6 - Z1) * (((x0 * x3) + (x1 * x4)) + (x2 * x5)))) * x5)) (m82.mono (by decide)) (h3.mono (by decide)) (h4.mono (by decide)) (h5.mono (by decide)) rfl rfl rfl) rfl ?_
  simp only [fa_agg, fa_one, fa_nil, List.cons_append, List.nil_append, List.append_nil]
  exact ret_step rfl

theorem n_vec_minor_0  {r0 r1 r2 r3 : RR} {x0 x1 x2 x3 : Rat} {k0 : Rat} (h0 : Num 9000000000 r0 x0) (h1 : Num 9000000000 r1 x1) (h2 : Num 9000000000 r2 x2) (h3 : Num 9000000000 r3 x3) (e0 : k0 = ((x0 * x3) - (x1 * x2)))  : PureCalls prog F.vec_minor [.agg ([.bool r0.neg, nl r0.num, nl r0.den]), .agg ([.bool r1.neg, nl r1.num, nl r1.den]), .agg ([.bool r2.neg, nl r2.num, nl r2.den]), .agg ([.bool r3.neg, nl r3.num, nl r3.den])] [.agg ([.bool (decide ((k0).num < 0)), nn (k0).num.natAbs, nn (k0).den])] := by
  subst e0
  refine symFunc_sound hmix tree_vec_minor (by kernel_rfl) rfl ?_
  unfold ir_vec_minor
  simp only [fa_agg, fa_one, fa_nil, List.cons_append, List.nil_append, List.append_nil]
  refine primS (rl [r0, r3]) rfl ?_
  refine call_step (n_rat_Product_2 (k0 := (x0 * x3)) (h0.mono (by decide)) (h3.mono (by decide)) rfl) rfl ?_
  simp only [fa_agg, fa_one, fa_nil, List.cons_append, List.nil_append, List.append_nil]
  refine primS (rl [r1, r2]) rfl ?_
  refine call_step (n_rat_Product_2 (k0 := (x1 * x2)) (h1.mono (by decide)) (h2.mono (by decide)) rfl) rfl ?_
  simp only [fa_agg, fa_one, fa_nil, List.cons_append, List.nil_append, List.append_nil]
  have m89 : Num 18000000000 (cr (x0 * x3)) (x0 * x3) := Num.of (Sm.mul h0.sm h3.sm)
  have m90 : Num 18000000000 (cr (x1 * x2)) (x1 * x2) := Num.of (Sm.mul h1.sm h2.sm)
  refine call_step (n_rat_Sub (k0 := ((x0 * x3) - (x1 * x2))) (m89.mono (by decide)) (m90.mono (by decide)) rfl) rfl ?_
  simp only [fa_agg, fa_one, fa_nil, List.cons_append, List.nil_append, List.append_nil]
  exact ret_step rfl

theorem n_vec_Cross_0  {r0 r1 r2 r3 r4 r5 : RR} {x0 x1 x2 x3 x4 x5 : Rat} {k0 k1 k2 : Rat} (h0 : Num 9000000000 r0 x0) (h1 : Num 9000000000 r1 x1) (h2 : Num 9000000000 r2 x2) (h3 : Num 9000000000 r3 x3) (h4 : Num 9000000000 r4 x4) (h5 : Num 9000000000 r5 x5) (e0 : k0 = ((x1 * x5) - (x2 * x4))) (e1 : k1 = ((x2 * x3) - (x0 * x5))) (e2 : k2 = ((x0 * x4) - (x1 * x3)))  : PureCalls prog F.vec_Cross [.agg ([.bool r0.neg, nl r0.num, nl r0.den, .bool r1.neg, nl r1.num, nl r1.den, .bool r2.neg, nl r2.num, nl r2.den]), .agg ([.bool r3.neg, nl r3.num, nl r3.den, .bool r4.neg, nl r4.num, nl r4.den, .bool r5.neg, nl r5.num, nl r5.den])] [.agg ([.bool (decide ((k0).num < 0)), nn (k0).num.natAbs, nn (k0).den, .bool (decide ((k1).num < 0)), nn (k1).num.natAbs, nn (k1).den, .bool (decide ((k2).num < 0)), nn (k2).num.natAbs, nn (k2).den])] := by
  subst e0 e1 e2
  refine symFunc_sound hmix tree_vec_Cross (by kernel_rfl) rfl ?_
  unfold ir_vec_Cross
  simp only [fa_agg, fa_one, fa_nil, List.cons_append, List.nil_append, List.append_nil]
  refine call_step (n_vec_minor_0 (k0 := ((x1 * x5) - (x2 * x4))) (h1.mono (by decide)) (h2.mono (by decide)) (h4.mono (by decide)) (h5.mono (by decide)) rfl) rfl ?_
  simp only [fa_agg, fa_one, fa_nil, List.cons_append, List.nil_append, List.append_nil]
  refine call_step (n_vec_minor_0 (k0 := ((x2 * x3) - (x0 * x5))) (h2.mono (by decide)) (h0.mono (by decide)) (h5.mono (by decide)) (h3.mono (by decide)) rfl) rfl ?_
  simp only [fa_agg, fa_one, fa_nil, List.cons_append, List.nil_append, List.append_nil]
  refine call_step (n_vec_minor_0 (k0 := ((x0 * x4) - (x1 * x3))) (h0.mono (by decide)) (h1.mono (by decide)) (h3.mono (by decide)) (h4.mono (by decide)) rfl) rfl ?_
  simp only [fa_agg, fa_one, fa_nil, List.cons_append, List.nil_append, List.append_nil]
  exact ret_step rfl

theorem n_affine_Det_0  {r0 r1 r2 r3 r4 r5 r6 r7 r8 r9 r10 r11 : RR} {x0 x1 x2 x3 x4 x5 x6 x7 x8 x9 x10 x11 : Rat} {k0 : Rat} (h0 : Num 900000000 r0 x0) (h1 : Num 900000000 r1 x1) (h2 : Num 900000000 r2 x2) (h3 : Num 900000000 r3 x3) (h4 : Num 900000000 r4 x4) (h5 : Num 900000000 r5 x5) (h6 : Num 900000000 r6 x6) (h7 : Num 900000000 r7 x7) (h8 : Num 900000000 r8 x8) (h9 : Num 900000000 r9 x9) (h10 : Num 900000000 r10 x10) (h11 : Num 900000000 r11 x11) (e0 : k0 = (((x0 * ((x4 * x8) - (x5 * x7))) + (x1 * ((x5 * x6) - (x3 * x8)))) + (x2 * ((x3 * x7) - (x4 * x6)))))  : PureCalls prog F.affine_Det [.agg ([.bool r0.neg, nl r0.num, nl r0.den, .bool r1.neg, nl r1.num, nl r1.den, .bool r2.neg, nl r2.num, nl r2.den, .bool r3.neg, nl r3.num, nl r3.den, .bool r4.neg, nl r4.num, nl r4.den, .bool r5.neg, nl r5.num, nl r5.den, .bool r6.neg, nl r6.num, nl r6.den, .bool r7.neg, nl r7.num, nl r7.den, .bool r8.neg, nl r8.num, nl r8.den, .bool r9.neg, nl r9.num, nl r9.den, .bool r10.neg, nl r10.num, nl r10.den, .bool r11.neg, nl r11.num, nl r11.den])] [.agg ([.bool (decide ((k0).num < 0)), nn (k0).num.natAbs, nn (k0).den])] := by
  subst e0
  refine symFunc_sound hmix tree_affine_Det (by kernel_rfl) rfl ?_
  unfold ir_affine_Det
  simp only [fa_agg, fa_one, fa_nil, List.cons_append, List.nil_append, List.append_nil]
  refine call_step (n_vec_Cross_0 (k0 := ((x4 * x8) - (x5 * x7))) (k1 := ((x5 * x6) - (x3 * x8))) (k2 := ((x3 * x7) - (x4 * x6))) (h3.mono (by decide)) (h4.mono (by decide)) (h5.mono (by decide)) (h6.mono (by decide)) (h7.mono (by decide)) (h8.mono (by decide)) rfl rfl rfl) rfl ?_
  simp only [fa_agg, fa_one, fa_nil, List.cons_append, List.nil_append, List.append_nil]
  have m94 : Num 3600000001 (cr ((x4 * x8) - (x5 * x7))) ((x4 * x8) - (x5 * x7)) := Num.of (Sm.sub (Sm.mul h4.sm h8.sm) (Sm.mul h5.sm h7.sm))
  have m95 : Num 3600000001 (cr ((x5 * x6) - (x3 * x8))) ((x5 * x6) - (x3 * x8)) := Num.of (Sm.sub (Sm.mul h5.sm h6.sm) (Sm.mul h3.sm h8.sm))
  have m96 : Num 3600000001 (cr ((x3 * x7) - (x4 * x6))) ((x3 * x7) - (x4 * x6)) := Num.of (Sm.sub (Sm.mul h3.sm h7.sm) (Sm.mul h4.sm h6.sm))
  refine call_step (n_vec_Dot_0 (k0 := (((x0 * ((x4 * x8) - (x5 * x7))) + (x1 * ((x5 * x6) - (x3 * x8)))) + (x2 * ((x3 * x7) - (x4 * x6))))) (h0.mono (by decide)) (h1.mono (by decide)) (h2.mono (by decide)) (m94.mono (by decide)) (m95.mono (by decide)) (m96.mono (by decide)) rfl) rfl ?_
  simp only [fa_agg, fa_one, fa_nil, List.cons_append, List.nil_append, List.append_nil]
  exact ret_step rfl

theorem n_affine_cofactors_0  {r0 r1 r2 r3 r4 r5 r6 r7 r8 r9 r10 r11 : RR} {x0 x1 x2 x3 x4 x5 x6 x7 x8 x9 x10 x11 : Rat} {k0 k1 k2 k3 k4 k5 k6 k7 k8 : Rat} (h0 : Num 9000000000 r0 x0) (h1 : Num 9000000000 r1 x1) (h2 : Num 9000000000 r2 x2) (h3 : Num 9000000000 r3 x3) (h4 : Num 9000000000 r4 x4) (h5 : Num 9000000000 r5 x5) (h6 : Num 9000000000 r6 x6) (h7 : Num 9000000000 r7 x7) (h8 : Num 9000000000 r8 x8) (h9 : Num 9000000000 r9 x9) (h10 : Num 9000000000 r10 x10) (h11 : Num 9000000000 r11 x11) (e0 : k0 = ((x4 * x8) - (x5 * x7))) (e1 : k1 = ((x5 * x6) - (x3 * x8))) (e2 : k2 = ((x3 * x7) - (x4 * x6))) (e3 : k3 = ((x7 * x2) - (x8 * x1))) (e4 : k4 = ((x8 * x0) - (x6 * x2))) (e5 : k5 = ((x6 * x1) - (x7 * x0))) (e6 : k6 = ((x1 * x5) - (x2 * x4))) (e7 : k7 = ((x2 * x3) - (x0 * x5))) (e8 : k8 = ((x0 * x4) - (x1 * x3)))  : PureCalls prog F.affine_cofactors [.agg ([.bool r0.neg, nl r0.num, nl r0.den, .bool r1.neg, nl r1.num, nl r1.den, .bool r2.neg, nl r2.num, nl r2.den, .bool r3.neg, nl r3.num, nl r3.den, .bool r4.neg, nl r4.num, nl r4.den, .bool r5.neg, nl r5.num, nl r5.den, .bool r6.neg, nl r6.num, nl r6.den, .bool r7.neg, nl r7.num, nl r7.den, .bool r8.neg, nl r8.num, nl r8.den, .bool r9.neg, nl r9.num, nl r9.den, .bool r10.neg, nl r10.num, nl r10.den, .bool r11.neg, nl r11.num, nl r11.den])] [.agg ([.bool (decide ((k0).num < 0)), nn (k0).num.natAbs, nn (k0).den, .bool (decide ((k1).num < 0)), nn (k1).num.natAbs, nn (k1).den, .bool (decide ((k2).num < 0)), nn (k2).num.natAbs, nn (k2).den, .bool (decide ((k3).num < 0)), nn (k3).num.natAbs, nn (k3).den, .bool (decide ((k4).num < 0)), nn (k4).num.natAbs, nn (k4).den, .bool (decide ((k5).num < 0)), nn (k5).num.natAbs, nn (k5).den, .bool (decide ((k6).num < 0)), nn (k6).num.natAbs, nn (k6).den, .bool (decide ((k7).num < 0)), nn (k7).num.natAbs, nn (k7).den, .bool (decide ((k8).num < 0)), nn (k8).num.natAbs, nn (k8).den])] := by
  subst e0 e1 e2 e3 e4 e5 e6 e7 e8
  refine symFunc_sound hmix tree_affine_cofactors (by kernel_rfl) rfl ?_
  unfold ir_affine_cofactors
  simp only [fa_agg, fa_one, fa_nil, List.cons_append, List.nil_append, List.append_nil]
  refine call_step (n_vec_Cross_0 (k0 := ((x4 * x8) - (x5 * x7))) (k1 := ((x5 * x6) - (x3 * x8))) (k2 := ((x3 * x7) - (x4 * x6))) (h3.mono (by decide)) (h4.mono (by decide)) (h5.mono (by decide)) (h6.mono (by decide)) (h7.mono (by decide)) (h8.mono (by decide)) rfl rfl rfl) rfl ?_
  simp only [fa_agg, fa_one, fa_nil, List.cons_append, List.nil_append, List.append_nil]
  refine call_step (n_vec_Cross_0 (k0 := ((x7 * x2) - (x8 * x1))) (k1 := ((x8 * x0) - (x6 * x2))) (k2 := ((x6 * x1) - (x7 * x0))) (h6.mono (by decide)) (h7.mono (by decide)) (h8.mono (by decide)) (h0.mono (by decide)) (h1.mono (by decide)) (h2.mono (by decide)) rfl rfl rfl) rfl ?_
  simp only [fa_agg, fa_one, fa_nil, List.cons_append, List.nil_append, List.append_nil]
  refine call_step (n_vec_Cross_0 (k0 := ((x1 * x5) - (x2 * x4))) (k1 := ((x2 * x3) - (x0 * x5))) (k2 := ((x0 * x4) - (x1 * x3))) (h0.mono (by decide)) (h1.mono (by decide)) (h2.mono (by decide)) (h3.mono (by decide)) (h4.mono (by decide)) (h5.mono (by decide)) rfl rfl rfl) rfl ?_
  simp only [fa_agg, fa_one, fa_nil, List.cons_append, List.nil_append, List.append_nil]
  exact ret_step rfl

theorem n_affine_Inverse_0 {Z0 Z1 : Rat} (Y0 : Z0 = (0 : Rat)) (Y1 : Z1 = (1 : Rat)) {r0 r1 r2 r3 r4 r5 r6 r7 r8 r9 r10 r11 : RR} {x0 x1 x2 x3 x4 x5 x6 x7 x8 x9 x10 x11 : Rat} {k0 : Rat} (h0 : Num 90000000 r0 x0) (h1 : Num 90000000 r1 x1) (h2 : Num 90000000 r2 x2) (h3 : Num 90000000 r3 x3) (h4 : Num 90000000 r4 x4) (h5 : Num 90000000 r5 x5) (h6 : Num 90000000 r6 x6) (h7 : Num 90000000 r7 x7) (h8 : Num 90000000 r8 x8) (h9 : Num 90000000 r9 x9) (h10 : Num 90000000 r10 x10) (h11 : Num 90000000 r11 x11) (e0 : k0 = (((x0 * ((x4 * x8) - (x5 * x7))) + (x1 * ((x5 * x6) - (x3 * x8)))) + (x2 * ((x3 * x7) - (x4 * x6))))) (c0 : k0 = Z0) : PureCalls prog F.affine_Inverse [.agg ([.bool r0.neg, nl r0.num, nl r0.den, .bool r1.neg, nl r1.num, nl r1.den, .bool r2.neg, nl r2.num, nl r2.den, .bool r3.neg, nl r3.num, nl r3.den, .bool r4.neg, nl r4.num, nl r4.den, .bool r5.neg, nl r5.num, nl r5.den, .bool r6.neg, nl r6.num, nl r6.den, .bool r7.neg, nl r7.num, nl r7.den, .bool r8.neg, nl r8.num, nl r8.den, .bool r9.neg, nl r9.num, nl r9.den, .bool r10.neg, nl r10.num, nl r10.den, .bool r11.neg, nl r11.num, nl r11.den])] [.agg ([.bool (decide ((Z1).num < 0)), nn (Z1).num.natAbs, nn (Z1).den, .bool (decide ((Z0).num < 0)), nn (Z0).num.natAbs, nn (Z0).den, .bool (decide ((Z0).num < 0)), nn (Z0).num.natAbs, nn (Z0).den, .bool (decide ((Z0).num < 0)), nn (Z0).num.natAbs, nn (Z0).den, .bool (decide ((Z1).num < 0)), nn (Z1).num.natAbs, nn (Z1).den, .bool (decide ((Z0).num < 0)), nn (Z0).num.natAbs, nn (Z0).den, .bool (decide ((Z0).num < 0)), nn (Z0).num.natAbs, nn (Z0).den, .bool (decide ((Z0).num < 0)), nn (Z0).num.natAbs, nn (Z0).den, .bool (decide ((Z1).num < 0)), nn (Z1).num.natAbs, nn (Z1).den, .bool (decide ((Z0).num < 0)), nn (Z0).num.natAbs, nn (Z0).den, .bool (decide ((Z0).num < 0)), nn (Z0).num.natAbs, nn (Z0).den, .bool (decide ((Z0).num < 0)), nn (Z0).num.natAbs, nn (Z0).den]), .one (.bool false)] := by
  subst e0
  refine symFunc_sound hmix tree_affine_Inverse (by kernel_rfl) rfl ?_
  unfold ir_affine_Inverse
  simp only [fa_agg, fa_one, fa_nil, List.cons_append, List.nil_append, List.append_nil]
  refine call_step (n_rat_Of (1) (1) (by decide) (by decide) (by decide) (by decide) (Y1.trans (by decide +kernel))) rfl ?_
  simp only [fa_agg, fa_one, fa_nil, List.cons_append, List.nil_append, List.append_nil]
  refine call_step (n_affine_Det_0 (k0 := (((x0 * ((x4 * x8) - (x5 * x7))) + (x1 * ((x5 * x6) - (x3 * x8)))) + (x2 * ((x3 * x7) - (x4 * x6))))) (h0.mono (by decide)) (h1.mono (by decide)) (h2.mono (by decide)) (h3.mono (by decide)) (h4.mono (by decide)) (h5.mono (by decide)) (h6.mono (by decide)) (h7.mono (by decide)) (h8.mono (by decide)) (h9.mono (by decide)) (h10.mono (by decide)) (h11.mono (by decide)) rfl) rfl ?_
  simp only [fa_agg, fa_one, fa_nil, List.cons_append, List.nil_append, List.append_nil]
  have m129 : Num 1 (cr Z1) Z1 := Num.c Y1 (by decide +kernel) (by decide +kernel)
  have m130 : Num 1350000005 (cr (((x0 * ((x4 * x8) - (x5 * x7))) + (x1 * ((x5 * x6) - (x3 * x8)))) + (x2 * ((x3 * x7) - (x4 * x6))))) (((x0 * ((x4 * x8) - (x5 * x7))) + (x1 * ((x5 * x6) - (x3 * x8)))) + (x2 * ((x3 * x7) - (x4 * x6)))) := Num.of (Sm.add (Sm.add (Sm.mul h0.sm (Sm.sub (Sm.mul h4.sm h8.sm) (Sm.mul h5.sm h7.sm))) (Sm.mul h1.sm (Sm.sub (Sm.mul h5.sm h6.sm) (Sm.mul h3.sm h8.sm)))) (Sm.mul h2.sm (Sm.sub (Sm.mul h3.sm h7.sm) (Sm.mul h4.sm h6.sm))))
  refine call_step (n_rat_Div_t Y0 (m129.mono (by decide)) (m130.mono (by decide)) c0) rfl ?_
  simp only [fa_agg, fa_one, fa_nil, List.cons_append, List.nil_append, List.append_nil]
  refine primS (.bool true) rfl ?_
  refine itT rfl ?_
  refine call_step (n_affine_Identity_0 Y0 Y1) rfl ?_
  simp only [fa_agg, fa_one, fa_nil, List.cons_append, List.nil_append, List.append_nil]
  exact ret_step rfl

theorem n_affine_Inverse_1 {Zm1 Z0 Z1 : Rat} (Ym1 : Zm1 = (-1 : Rat)) (Y0 : Z0 = (0 : Rat)) (Y1 : Z1 = (1 : Rat)) {r0 r1 r2 r3 r4 r5 r6 r7 r8 r9 r10 r11 : RR} {x0 x1 x2 x3 x4 x5 x6 x7 x8 x9 x10 x11 : Rat} {k0 k1 k2 k3 k4 k5 k6 k7 k8 k9 k10 k11 k12 k13 : Rat} (h0 : Num 90000000 r0 x0) (h1 : Num 90000000 r1 x1) (h2 : Num 90000000 r2 x2) (h3 : Num 90000000 r3 x3) (h4 : Num 90000000 r4 x4) (h5 : Num 90000000 r5 x5) (h6 : Num 90000000 r6 x6) (h7 : Num 90000000 r7 x7) (h8 : Num 90000000 r8 x8) (h9 : Num 90000000 r9 x9) (h10 : Num 90000000 r10 x10) (h11 : Num 90000000 r11 x11) (e0 : k0 = (((x0 * ((x4 * x8) - (x5 * x7))) + (x1 * ((x5 * x6) - (x3 * x8)))) + (x2 * ((x3 * x7) - (x4 * x6))))) (e1 : k1 = (Z1 / k0)) (e2 : k2 = (k1 * ((x4 * x8) - (x5 * x7)))) (e3 : k3 = (k1 * ((x7 * x2) - (x8 * x1)))) (e4 : k4 = (k1 * ((x1 * x5) - (x2 * x4)))) (e5 : k5 = (k1 * ((x5 * x6) - (x3 * x8)))) (e6 : k6 = (k1 * ((x8 * x0) - (x6 * x2)))) (e7 : k7 = (k1 * ((x2 * x3) - (x0 * x5)))) (e8 : k8 = (k1 * ((x3 * x7) - (x4 * x6)))) (e9 : k9 = (k1 * ((x6 * x1) - (x7 * x0)))) (e10 : k10 = (k1 * ((x0 * x4) - (x1 * x3)))) (e11 : k11 = (Zm1 * (((k2 * x9) + (k3 * x10)) + (k4 * x11)))) (e12 : k12 = (Zm1 * (((k5 * x9) + (k6 * x10)) + (k7 * x11)))) (e13 : k13 = (Zm1 * (((k8 * x9) + (k9 * x10)) + (k10 * x11)))) (c0 : ¬k0 = Z0) : PureCalls prog F.affine_Inverse [.agg ([.bool r0.neg, nl r0.num, nl r0.den, .bool r1.neg, nl r1.num, nl r1.den, .bool r2.neg, nl r2.num, nl r2.den, .bool r3.neg, nl r3.num, nl r3.den, .bool r4.neg, nl r4.num, nl r4.den, .bool r5.neg, nl r5.num, nl r5.den, .bool r6.neg, nl r6.num, nl r6.den, .bool r7.neg, nl r7.num, nl r7.den, .bool r8.neg, nl r8.num, nl r8.den, .bool r9.neg, nl r9.num, nl r9.den, .bool r10.neg, nl r10.num, nl r10.den, .bool r11.neg, nl r11.num, nl r11.den])] [.agg ([.bool (decide ((k2).num < 0)), nn (k2).num.natAbs, nn (k2).den, .bool (decide ((k3).num < 0)), nn (k3).num.natAbs, nn (k3).den, .bool (decide ((k4).num < 0)), nn (k4).num.natAbs, nn (k4).den, .bool (decide ((k5).num < 0)), nn (k5).num.natAbs, nn (k5).den, .bool (decide ((k6).num < 0)), nn (k6).num.natAbs, nn (k6).den, .bool (decide ((k7).num < 0)), nn (k7).num.natAbs, nn (k7).den, .bool (decide ((k8).num < 0)), nn (k8).num.natAbs, nn (k8).den, .bool (decide ((k9).num < 0)), nn (k9).num.natAbs, nn (k9).den, .bool (decide ((k10).num < 0)), nn (k10).num.natAbs, nn (k10).den, .bool (decide ((k11).num < 0)), nn (k11).num.natAbs, nn (k11).den, .bool (decide ((k12).num < 0)), nn (k12).num.natAbs, nn (k12).den, .bool (decide ((k13).num < 0)), nn (k13).num.natAbs, nn (k13).den]), .one (.bool true)] := by
  subst e0 e1 e2 e3 e4 e5 e6 e7 e8 e9 e10 e11 e12 e13
  refine symFunc_sound hmix tree_affine_Inverse (by kernel_rfl) rfl ?_
  unfold ir_affine_Inverse
  simp only [fa_agg, fa_one, fa_nil, List.cons_append, List.nil_append, List.append_nil]
  refine call_step (n_rat_Of (1) (1) (by decide) (by decide) (by decide) (by decide) (Y1.trans (by decide +kernel))) rfl ?_
  simp only [fa_agg, fa_one, fa_nil, List.cons_append, List.nil_append, List.append_nil]
  refine call_step (n_affine_Det_0 (k0 := (((x0 * ((x4 * x8) - (x5 * x7))) + (x1 * ((x5 * x6) - (x3 * x8)))) + (x2 * ((x3 * x7) - (x4 * x6))))) (h0.mono (by decide)) (h1.mono (by decide)) (h2.mono (by decide)) (h3.mono (by decide)) (h4.mono (by decide)) (h5.mono (by decide)) (h6.mono (by decide)) (h7.mono (by decide)) (h8.mono (by decide)) (h9.mono (by decide)) (h10.mono (by decide)) (h11.mono (by decide)) rfl) rfl ?_
  simp only [fa_agg, fa_one, fa_nil, List.cons_append, List.nil_append, List.append_nil]
  have m131 : Num 1 (cr Z1) Z1 := Num.c Y1 (by decide +kernel) (by decide +kernel)
  have m132 : Num 1350000005 (cr (((x0 * ((x4 * x8) - (x5 * x7))) + (x1 * ((x5 * x6) - (x3 * x8)))) + (x2 * ((x3 * x7) - (x4 * x6))))) (((x0 * ((x4 * x8) - (x5 * x7))) + (x1 * ((x5 * x6) - (x3 * x8)))) + (x2 * ((x3 * x7) - (x4 * x6)))) := Num.of (Sm.add (Sm.add (Sm.mul h0.sm (Sm.sub (Sm.mul h4.sm h8.sm) (Sm.mul h5.sm h7.sm))) (Sm.mul h1.sm (Sm.sub (Sm.mul h5.sm h6.sm) (Sm.mul h3.sm h8.sm)))) (Sm.mul h2.sm (Sm.sub (Sm.mul h3.sm h7.sm) (Sm.mul h4.sm h6.sm))))
  refine call_step (n_rat_Div_f (k0 := (Z1 / (((x0 * ((x4 * x8) - (x5 * x7))) + (x1 * ((x5 * x6) - (x3 * x8)))) + (x2 * ((x3 * x7) - (x4 * x6)))))) Y0 (m131.mono (by decide)) (m132.mono (by decide)) rfl c0) rfl ?_
  simp only [fa_agg, fa_one, fa_nil, List.cons_append, List.nil_append, List.append_nil]
  refine primS (.bool false) rfl ?_
  refine itF rfl ?_
  refine call_step (n_affine_cofactors_0 (k0 := ((x4 * x8) - (x5 * x7))) (k1 := ((x5 * x6) - (x3 * x8))) (k2 := ((x3 * x7) - (x4 * x6))) (k3 := ((x7 * x2) - (x8 * x1))) (k4 := ((x8 * x0) - (x6 * x2))) (k5 := ((x6 * x1) - (x7 * x0))) (k6 := ((x1 * x5) - (x2 * x4))) (k7 := ((x2 * x3) - (x0 * x5))) (k8 := ((x0 * x4) - (x1 * x3))) (h0.mono (by decide)) (h1.mono (by decide)) (h2.mono (by decide)) (h3.mono (by decide)) (h4.mono (by decide)) (h5.mono (by decide)) (h6.mono (by decide)) (h7.mono (by decide)) (h8.mono (by decide)) (h9.mono (by decide)) (h10.mono (by decide)) (h11.mono (by decide)) rfl rfl rfl rfl rfl rfl rfl rfl rfl) rfl ?_
  simp only [fa_agg, fa_one, fa_nil, List.cons_append, List.nil_append, List.append_nil]
  have m133 : Num 1350000006 (cr (Z1 / (((x0 * ((x4 * x8) - (x5 * x7))) + (x1 * ((x5 * x6) - (x3 * x8)))) + (x2 * ((x3 * x7) - (x4 * x6)))))) (Z1 / (((x0 * ((x4 * x8) - (x5 * x7))) + (x1 * ((x5 * x6) - (x3 * x8)))) + (x2 * ((x3 * x7) - (x4 * x6))))) := Num.of (Sm.div m131.sm m132.sm)
  have m134 : Num 360000001 (cr ((x4 * x8) - (x5 * x7))) ((x4 * x8) - (x5 * x7)) := Num.of (Sm.sub (Sm.mul h4.sm h8.sm) (Sm.mul h5.sm h7.sm))
  have m135 : Num 360000001 (cr ((x5 * x6) - (x3 * x8))) ((x5 * x6) - (x3 * x8)) := Num.of (Sm.sub (Sm.mul h5.sm h6.sm) (Sm.mul h3.sm h8.sm))
  have m136 : Num 360000001 (cr ((x3 * x7) - (x4 * x6))) ((x3 * x7) - (x4 * x6)) := Num.of (Sm.sub (Sm.mul h3.sm h7.sm) (Sm.mul h4.sm h6.sm))
  refine call_step (n_vec_Scale_0 (k0 := ((Z1 / (((x0 * ((x4 * x8) - (x5 * x7))) + (x1 * ((x5 * x6) - (x3 * x8)))) + (x2 * ((x3 * x7) - (x4 * x6))))) * ((x4 * x8) - (x5 * x7)))) (k1 := ((Z1 / (((x0 * ((x4 * x8) - (x5 * x7))) + (x1 * ((x5 * x6) - (x3 * x8)))) + (x2 * ((x3 * x7) - (x4 * x6))))) * ((x5 * x6) - (x3 * x8)))) (k2 := ((Z1 / (((x0 * ((x4 * x8) - (x5 * x7))) + (x1 * ((x5 * x6) - (x3 * x8)))) + (x2 * ((x3 * x7) - (x4 * x6))))) * ((x3 * x7) - (x4 * x6)))) (m133.mono (by decide)) (m134.mono (by decide)) (m135.mono (by decide)) (m136.mono (by decide)) rfl rfl rfl) rfl ?_
  simp only [fa_agg, fa_one, fa_nil, List.cons_append, List.nil_append, List.append_nil]
  have m137 : Num 360000001 (cr ((x7 * x2) - (x8 * x1))) ((x7 * x2) - (x8 * x1)) := Num.of (Sm.sub (Sm.mul h7.sm h2.sm) (Sm.mul h8.sm h1.sm))
  have m138 : Num 360000001 (cr ((x8 * x0) - (x6 * x2))) ((x8 * x0) - (x6 * x2)) := Num.of (Sm.sub (Sm.mul h8.sm h0.sm) (Sm.mul h6.sm h2.sm))
  have m139 : Num 360000001 (cr ((x6 * x1) - (x7 * x0))) ((x6 * x1) - (x7 * x0)) := Num.of (Sm.sub (Sm.mul h6.sm h1.sm) (Sm.mul h7.sm h0.sm))
  refine call_step (n_vec_Scale_0 (k0 := ((Z1 / (((x0 * ((x4 * x8) - (x5 * x7))) + (x1 * ((x5 * x6) - (x3 * x8)))) + (x2 * ((x3 * x7) - (x4 * x6))))) * ((x7 * x2) - (x8 * x1)))) (k1 := ((Z1 / (((x0 * ((x4 * x8) - (x5 * x7))) + (x1 * ((x5 * x6) - (x3 * x8)))) + (x2 * ((x3 * x7) - (x4 * x6))))) * ((x8 * x0) - (x6 * x2)))) (k2 := ((Z1 / (((x0 * ((x4 * x8) - (x5 * x7))) + (x1 * ((x5 * x6) - (x3 * x8)))) + (x2 * ((x3 * x7) - (x4 * x6))))) * ((x6 * x1) - (x7 * x0)))) (m133.mono (by decide)) (m137.mono (by decide)) (m138.mono (by decide)) (m139.mono (by decide)) rfl rfl rfl) rfl ?_
  simp only [fa_agg, fa_one, fa_nil, List.cons_append, List.nil_append, List.append_nil]
  have m140 : Num 360000001 (cr ((x1 * x5) - (x2 * x4))) ((x1 * x5) - (x2 * x4)) := Num.of (Sm.sub (Sm.mul h1.sm h5.sm) (Sm.mul h2.sm h4.sm))
  have m141 : Num 360000001 (cr ((x2 * x3) - (x0 * x5))) ((x2 * x3) - (x0 * x5)) := Num.of (Sm.sub (Sm.mul h2.sm h3.sm) (Sm.mul h0.sm h5.sm))
  have m142 : Num 360000001 (cr ((x0 * x4) - (x1 * x3))) ((x0 * x4) - (x1 * x3)) := Num.of (Sm.sub (Sm.mul h0.sm h4.sm) (Sm.mul h1.sm h3.sm))
  refine call_step (n_vec_Scale_0 (k0 := ((Z1 / (((x0 * ((x4 * x8) - (x5 * x7))) + (x1 * ((x5 * x6) - (x3 * x8)))) + (x2 * ((x3 * x7) - (x4 * x6))))) * ((x1 * x5) - (x2 * x4)))) (k1 := ((Z1 / (((x0 * ((x4 * x8) - (x5 * x7))) + (x1 * ((x5 * x6) - (x3 * x8)))) + (x2 * ((x3 * x7) - (x4 * x6))))) * ((x2 * x3) - (x0 * x5)))) (k2 := ((Z1 / (((x0 * ((x4 * x8) - (x5 * x7))) + (x1 * ((x5 * x6) - (x3 * x8)))) + (x2 * ((x3 * x7) - (x4 * x6))))) * ((x0 * x4) - (x1 * x3)))) (m133.mono (by decide)) (m140.mono (by decide)) (m141.mono (by decide)) (m142.mono (by decide)) rfl rfl rfl) rfl ?_
  simp only [fa_agg, fa_one, fa_nil, List.cons_append, List.nil_append, List.append_nil]
  refine call_step (n_rat_Of (-1) (1) (by decide) (by decide) (by decide) (by decide) (Ym1.trans (by decide +kernel))) rfl ?_
  simp only [fa_agg, fa_one, fa_nil, List.cons_append, List.nil_append, List.append_nil]
  have m143 : Num 1710000007 (cr ((Z1 / (((x0 * ((x4 * x8) - (x5 * x7))) + (x1 * ((x5 * x6) - (x3 * x8)))) + (x2 * ((x3 * x7) - (x4 * x6))))) * ((x4 * x8) - (x5 * x7)))) ((Z1 / (((x0 * ((x4 * x8) - (x5 * x7))) + (x1 * ((x5 * x6) - (x3 * x8)))) + (x2 * ((x3 * x7) - (x4 * x6))))) * ((x4 * x8) - (x5 * x7))) := Num.of (Sm.mul m133.sm m134.sm)
  have m144 : Num 1710000007 (cr ((Z1 / (((x0 * ((x4 * x8) - (x5 * x7))) + (x1 * ((x5 * x6) - (x3 * x8)))) + (x2 * ((x3 * x7) - (x4 * x6))))) * ((x7 * x2) - (x8 * x1)))) ((Z1 / (((x0 * ((x4 * x8) - (x5 * x7))) + (x1 * ((x5 * x6) - (x3 * x8)))) + (x2 * ((x3 * x7) - (x4 * x6))))) * ((x7 * x2) - (x8 * x1))) := Num.of (Sm.mul m133.sm m137.sm)
  have m145 : Num 1710000007 (cr ((Z1 / (((x0 * ((x4 * x8) - (x5 * x7))) + (x1 * ((x5 * x6) - (x3 * x8)))) + (x2 * ((x3 * x7) - (x4 * x6))))) * ((x1 * x5) - (x2 * x4)))) ((Z1 / (((x0 * ((x4 * x8) - (x5 * x7))) + (x1 * ((x5 * x6) - (x3 * x8)))) + (x2 * ((x3 * x7) - (x4 * x6))))) * ((x1 * x5) - (x2 * x4))) := Num.of (Sm.mul m133.sm m140.sm)
  have m146 : Num 1710000007 (cr ((Z1 / (((x0 * ((x4 * x8) - (x5 * x7))) + (x1 * ((x5 * x6) - (x3 * x8)))) + (x2 * ((x3 * x7) - (x4 * x6))))) * ((x5 * x6) - (x3 * x8)))) ((Z1 / (((x0 * ((x4 * x8) - (x5 * x7))) + (x1 * ((x5 * x6) - (x3 * x8)))) + (x2 * ((x3 * x7) - (x4 * x6))))) * ((x5 * x6) - (x3 * x8))) := Num.of (Sm.mul m133.sm m135.sm)
  have m147 : Num 1710000007 (cr ((Z1 / (((x0 * ((x4 * x8) - (x5 * x7))) + (x1 * ((x5 * x6) - (x3 * x8)))) + (x2 * ((x3 * x7) - (x4 * x6))))) * ((x8 * x0) - (x6 * x2)))) ((Z1 / (((x0 * ((x4 * x8) - (x5 * x7))) + (x1 * ((x5 * x6) - (x3 * x8)))) + (x2 * ((x3 * x7) - (x4 * x6))))) * ((x8 * x0) - (x6 * x2))) := Num.of (Sm.mul m133.sm m138.sm)
  have m148 : Num 1710000007 (cr ((Z1 / (((x0 * ((x4 * x8) - (x5 * x7))) + (x1 * ((x5 * x6) - (x3 * x8)))) + (x2 * ((x3 * x7) - (x4 * x6))))) * ((x2 * x3) - (x0 * x5)))) ((Z1 / (((x0 * ((x4 * x8) - (x5 * x7))) + (x1 * ((x5 * x6) - (x3 * x8)))) + (x2 * ((x3 * x7) - (x4 * x6))))) * ((x2 * x3) - (x0 * x5))) := Num.of (Sm.mul m133.sm m141.sm)
  have m149 : Num 1710000007 (cr ((Z1 / (((x0 * ((x4 * x8) - (x5 * x7))) + (x1 * ((x5 * x6) - (x3 * x8)))) + (x2 * ((x3 * x7) - (x4 * x6))))) * ((x3 * x7) - (x4 * x6)))) ((Z1 / (((x0 * ((x4 * x8) - (x5 * x7))) + (x1 * ((x5 * x6) - (x3 * x8)))) + (x2 * ((x3 * x7) - (x4 * x6))))) * ((x3 * x7) - (x4 * x6))) := Num.of (Sm.mul m133.sm m136.sm)
  have m150 : Num 1710000007 (cr ((Z1 / (((x0 * ((x4 * x8) - (x5 * x7))) + (x1 * ((x5 * x6) - (x3 * x8)))) + (x2 * ((x3 * x7) - (x4 * x6))))) * ((x6 * x1) - (x7 * x0)))) ((Z1 / (((x0 * ((x4 * x8) - (x5 * x7))) + (x1 * ((x5 * x6) - (x3 * x8)))) + (x2 * ((x3 * x7) - (x4 * x6))))) * ((x6 * x1) - (x7 * x0))) := Num.of (Sm.mul m133.sm m139.sm)
  have m151 : Num 1710000007 (cr ((Z1 / (((x0 * ((x4 * x8) - (x5 * x7))) + (x1 * ((x5 * x6) - (x3 * x8)))) + (x2 * ((x3 * x7) - (x4 * x6))))) * ((x0 * x4) - (x1 * x3)))) ((Z1 / (((x0 * ((x4 * x8) - (x5 * x7))) + (x1 * ((x5 * x6) - (x3 * x8)))) + (x2 * ((x3 * x7) - (x4 * x6))))) * ((x0 * x4) - (x1 * x3))) := Num.of (Sm.mul m133.sm m142.sm)
  have m152 : Num 1 rz Z0 := Num.zz Y0
  refine call_step (n_affine_Turn_0 (k0 := (((((Z1 / (((x0 * ((x4 * x8) - (x5 * x7))) + (x1 * ((x5 * x6) - (x3 * x8)))) + (x2 * ((x3 * x7) - (x4 * x6))))) * ((x4 * x8) - (x5 * x7))) * x9) + (((Z1 / (((x0 * ((x4 * x8) - (x5 * x7))) + (x1 * ((x5 * x6) - (x3 * x8)))) + (x2 * ((x3 * x7) - (x4 * x6))))) * ((x7 * x2) - (x8 * x1))) * x10)) + (((Z1 / (((x0 * ((x4 * x8) - (x5 * x7))) + (x1 * ((x5 * x6) - (x3 * x8)))) + (x2 * ((x3 * x7) - (x4 * x6))))) * ((x1 * x5) - (x2 * x4))) * x11))) (k1 := (((((Z1 / (((x0 * ((x4 * x8) - (x5 * x7))) + (x1 * ((x5 * x6) - (x3 * x8)))) + (x2 * ((x3 * x7) - (x4 * x6))))) * ((x5 * x6) - (x3 * x8))) * x9) + (((Z1 / (((x0 * ((x4 * x8) - (x5 * x7))) + (x1 * ((x5 * x6) - (x3 * x8)))) + (x2 * ((x3 * x7) - (x4 * x6))))) * ((x8 * x0) - (x6 * x2))) * x10)) + (((Z1 / (((x0 * ((x4 * x8) - (x5 * x7))) + (x1 * ((x5 * x6) - (x3 * x8)))) + (x2 * ((x3 * x7) - (x4 * x6))))) * ((x2 * x3) - (x0 * x5))) * x11))) (k2 := (((((Z1 / (((x0 * ((x4 * x8) - (x5 * x7))) + (x1 * ((x5 * x6) - (x3 * x8)))) + (x2 * ((x3 * x7) - (x4 * x6))))) * ((x3 * x7) - (x4 * x6))) * x9) + (((Z1 / (((x0 * ((x4 * x8) - (x5 * x7))) + (x1 * ((x5 * x6) - (x3 * x8)))) + (x2 * ((x3 * x7) - (x4 * x6))))) * ((x6 * x1) - (x7 * x0))) * x10)) + (((Z1 / (((x0 * ((x4 * x8) - (x5 * x7))) + (x1 * ((x5 * x6) - (x3 * x8)))) + (x2 * ((x3 * x7) - (x4 * x6))))) * ((x0 * x4) - (x1 * x3))) * x11))) (m143.mono (by decide)) (m144.mono (by decide)) (m145.mono (by decide)) (m146.mono (by decide)) (m147.mono (by decide)) (m148.mono (by decide)) (m149.mono (by decide)) (m150.mono (by decide)) (m151.mono (by decide)) (m152.mono (by decide)) (m152.mono (by decide)) (m152.mono (by decide)) (h9.mono (by decide)) (h10.mono (by decide)) (h11.mono (by decide)) rfl rfl rfl) rfl ?_
  simp only [fa_agg, fa_one, fa_nil, List.cons_append, List.nil_append, List.append_nil]
  have m153 : Num 1 (cr Zm1) Zm1 := Num.c Ym1 (by decide +kernel) (by decide +kernel)
  have m154 : Num 5400000023 (cr (((((Z1 / (((x0 * ((x4 * x8) - (x5 * x7))) + (x1 * ((x5 * x6) - (x3 * x8)))) + (x2 * ((x3 * x7) - (x4 * x6))))) * ((x4 * x8) - (x5 * x7))) * x9) + (((Z1 / (((x0 * ((x4 * x8) - (x5 * x7))) + (x1 * ((x5 * x6) - (x3 * x8)))) + (x2 * ((x3 * x7) - (x4 * x6))))) * ((x7 * x2) - (x8 * x1))) * x10)) + (((Z1 / (((x0 * ((x4 * x8) - (x5 * x7))) + (x1 * ((x5 * x6) - (x3 * x8)))) + (x2 * ((x3 * x7) - (x4 * x6))))) * ((x1 * x5) - (x2 * x4))) * x11))) (((((Z1 / (((x0 * ((x4 * x8) - (x5 * x7))) + (x1 * ((x5 * x6) - (x3 * x8)))) + (x2 * ((x3 * x7) - (x4 * x6))))) * ((x4 * x8) - (x5 * x7))) * x9) + (((Z1 / (((x0 * ((x4 * x8) - (x5 * x7))) + (x1 * ((x5 * x6) - (x3 * x8)))) + (x2 * ((x3 * x7) - (x4 * x6))))) * ((x7 * x2) - (x8 * x1))) * x10)) + (((Z1 / (((x0 * ((x4 * x8) - (x5 * x7))) + (x1 * ((x5 * x6) - (x3 * x8)))) + (x2 * ((x3 * x7) - (x4 * x6))))) * ((x1 * x5) - (x2 * x4))) * x11)) := Num.of (Sm.add (Sm.add (Sm.mul m143.sm h9.sm) (Sm.mul m144.sm h10.sm)) (Sm.mul m145.sm h11.sm))
  have m155 : Num 5400000023 (cr (((((Z1 / (((x0 * ((x4 * x8) - (x5 * x7))) + (x1 * ((x5 * x6) - (x3 * x8)))) + (x2 * ((x3 * x7) - (x4 * x6))))) * ((x5 * x6) - (x3 * x8))) * x9) + (((Z1 / (((x0 * ((x4 * x8) - (x5 * x7))) + (x1 * ((x5 * x6) - (x3 * x8)))) + (x2 * ((x3 * x7) - (x4 * x6))))) * ((x8 * x0) - (x6 * x2))) * x10)) + (((Z1 / (((x0 * ((x4 * x8) - (x5 * x7))) + (x1 * ((x5 * x6) - (x3 * x8)))) + (x2 * ((x3 * x7) - (x4 * x6))))) * ((x2 * x3) - (x0 * x5))) * x11))) (((((Z1 / (((x0 * ((x4 * x8) - (x5 * x7))) + (x1 * ((x5 * x6) - (x3 * x8)))) + (x2 * ((x3 * x7) - (x4 * x6))))) * ((x5 * x6) - (x3 * x8))) * x9) + (((Z1 / (((x0 * ((x4 * x8) - (x5 * x7))) + (x1 * ((x5 * x6) - (x3 * x8)))) + (x2 * ((x3 * x7) - (x4 * x6))))) * ((x8 * x0) - (x6 * x2))) * x10)) + (((Z1 / (((x0 * ((x4 * x8) - (x5 * x7))) + (x1 * ((x5 * x6) - (x3 * x8)))) + (x2 * ((x3 * x7) - (x4 * x6))))) * ((x2 * x3) - (x0 * x5))) * x11)) := Num.of (Sm.add (Sm.add (Sm.mul m146.sm h9.sm) (Sm.mul m147.sm h10.sm)) (Sm.mul m148.sm h11.sm))
  have m156 : Num 5400000023 (cr (((((Z1 / (((x0 * ((x4 * x8) - (x5 * x7))) + (x1 * ((x5 * x6) - (x3 * x8)))) + (x2 * ((x3 * x7) - (x4 * x6))))) * ((x3 * x7) - (x4 * x6))) * x9) + (((Z1 / (((x0 * ((x4 * x8) - (x5 * x7))) + (x1 * ((x5 * x6) - (x3 * x8)))) + (x2 * ((x3 * x7) - (x4 * x6))))) * ((x6 * x1) - (x7 * x0))) * x10)) + (((Z1 / (((x0 * ((x4 * x8) - (x5 * x7))) + (x1 * ((x5 * x6) - (x3 * x8)))) + (x2 * ((x3 * x7) - (x4 * x6))))) * ((x0 * x4) - (x1 * x3))) * x11))) (((((Z1 / (((x0 * ((x4 * x8) - (x5 * x7))) + (x1 * ((x5 * x6) - (x3 * x8)))) + (x2 * ((x3 * x7) - (x4 * x6))))) * ((x3 * x7) - (x4 * x6))) * x9) + (((Z1 / (((x0 * ((x4 * x8) - (x5 * x7))) + (x1 * ((x5 * x6) - (x3 * x8)))) + (x2 * ((x3 * x7) - (x4 * x6))))) * ((x6 * x1) - (x7 * x0))) * x10)) + (((Z1 / (((x0 * ((x4 * x8) - (x5 * x7))) + (x1 * ((x5 * x6) - (x3 * x8)))) + (x2 * ((x3 * x7) - (x4 * x6))))) * ((x0 * x4) - (x1 * x3))) * x11)) := Num.of (Sm.add (Sm.add (Sm.mul m149.sm h9.sm) (Sm.mul m150.sm h10.sm)) (Sm.mul m151.sm h11.sm))
  refine call_step (n_vec_Scale_0 (k0 := (Zm1 * (((((Z1 / (((x0 * ((x4 * x8) - (x5 * x7))) + (x1 * ((x5 * x6) - (x3 * x8)))) + (x2 * ((x3 * x7) - (x4 * x6))))) * ((x4 * x8) - (x5 * x7))) * x9) + (((Z1 / (((x0 * ((x4 * x8) - (x5 * x7))) + (x1 * ((x5 * x6) - (x3 * x8)))) + (x2 * ((x3 * x7) - (x4 * x6))))) * ((x7 * x2) - (x8 * x1))) * x10)) + (((Z1 / (((x0 * ((x4 * x8) - (x5 * x7))) + (x1 * ((x5 * x6) - (x3 * x8)))) + (x2 * ((x3 * x7) - (x4 * x6))))) * ((x1 * x5) - (x2 * x4))) * x11)))) (k1 := (Zm1 * (((((Z1 / (((x0 * ((x4 * x8) - (x5 * x7))) + (x1 * ((x5 * x6) - (x3 * x8)))) + (x2 * ((x3 * x7) - (x4 * x6))))) * ((x5 * x6) - (x3 * x8))) * x9) + (((Z1 / (((x0 * ((x4 * x8) - (x5 * x7))) + (x1 * ((x5 * x6) - (x3 * x8)))) + (x2 * ((x3 * x7) - (x4 * x6))))) * ((x8 * x0) - (x6 * x2))) * x10)) + (((Z1 / (((x0 * ((x4 * x8) - (x5 * x7))) + (x1 * ((x5 * x6) - (x3 * x8)))) + (x2 * ((x3 * x7) - (x4 * x6))))) * ((x2 * x3) - (x0 * x5))) * x11)))) (k2 := (Zm1 * (((((Z1 / (((x0 * ((x4 * x8) - (x5 * x7))) + (x1 * ((x5 * x6) - (x3 * x8)))) + (x2 * ((x3 * x7) - (x4 * x6))))) * ((x3 * x7) - (x4 * x6))) * x9) + (((Z1 / (((x0 * ((x4 * x8) - (x5 * x7))) + (x1 * ((x5 * x6) - (x3 * x8)))) + (x2 * ((x3 * x7) - (x4 * x6))))) * ((x6 * x1) - (x7 * x0))) * x10)) + (((Z1 / (((x0 * ((x4 * x8) - (x5 * x7))) + (x1 * ((x5 * x6) - (x3 * x8)))) + (x2 * ((x3 * x7) - (x4 * x6))))) * ((x0 * x4) - (x1 * x3))) * x11)))) (m153.mono (by decide)) (m154.mono (by decide)) (m155.mono (by decide)) (m156.mono (by decide)) rfl rfl rfl) rfl ?_
  simp only [fa_agg, fa_one, fa_nil, List.cons_append, List.nil_append, List.append_nil]
  exact ret_step rfl

theorem n_penumbraref05_Is_0  {x0 x1 x2 x3 x4 x5 : Rat} (h0 : Num 9000000000 (cr x0) x0) (h1 : Num 9000000000 (cr x1) x1) (h2 : Num 9000000000 (cr x2) x2) (h3 : Num 9000000000 (cr x3) x3) (h4 : Num 9000000000 (cr x4) x4) (h5 : Num 9000000000 (cr x5) x5)  (c0 : x0 = x3) (c1 : x1 = x4) (c2 : x2 = x5) : PureCalls prog F.penumbraref05_Is [.agg ([.bool (decide ((x0).num < 0)), nn (x0).num.natAbs, nn (x0).den, .bool (decide ((x1).num < 0)), nn (x1).num.natAbs, nn (x1).den, .bool (decide ((x2).num < 0)), nn (x2).num.natAbs, nn (x2).den]), .agg ([.bool (decide ((x3).num < 0)), nn (x3).num.natAbs, nn (x3).den, .bool (decide ((x4).num < 0)), nn (x4).num.natAbs, nn (x4).den, .bool (decide ((x5).num < 0)), nn (x5).num.natAbs, nn (x5).den])] [.one (.bool true)] := by
  refine symFunc_sound hmix tree_penumbraref05_Is (by kernel_rfl) rfl ?_
  unfold ir_penumbraref05_Is
  simp only [fa_agg, fa_one, fa_nil, List.cons_append, List.nil_append, List.append_nil]
  refine call_step (n_penumbraref03_Is_t (h0.mono (by decide)) (h3.mono (by decide)) c0) rfl ?_
  simp only [fa_agg, fa_one, fa_nil, List.cons_append, List.nil_append, List.append_nil]
  refine itT rfl ?_
  refine call_step (n_penumbraref03_Is_t (h1.mono (by decide)) (h4.mono (by decide)) c1) rfl ?_
  simp only [fa_agg, fa_one, fa_nil, List.cons_append, List.nil_append, List.append_nil]
  refine itT rfl ?_
  refine call_step (n_penumbraref03_Is_t (h2.mono (by decide)) (h5.mono (by decide)) c2) rfl ?_
  simp only [fa_agg, fa_one, fa_nil, List.cons_append, List.nil_append, List.append_nil]
  exact ret_step rfl

theorem n_affine_Area_0  {r0 r1 r2 r3 r4 r5 r6 r7 r8 r9 r10 r11 r12 r13 r14 : RR} {x0 x1 x2 x3 x4 x5 x6 x7 x8 x9 x10 x11 x12 x13 x14 : Rat} {k0 k1 k2 : Rat} (h0 : Num 900000000 r0 x0) (h1 : Num 900000000 r1 x1) (h2 : Num 900000000 r2 x2) (h3 : Num 900000000 r3 x3) (h4 : Num 900000000 r4 x4) (h5 : Num 900000000 r5 x5) (h6 : Num 900000000 r6 x6) (h7 : Num 900000000 r7 x7) (h8 : Num 900000000 r8 x8) (h9 : Num 900000000 r9 x9) (h10 : Num 900000000 r10 x10) (h11 : Num 900000000 r11 x11) (h12 : Num 900000000 r12 x12) (h13 : Num 900000000 r13 x13) (h14 : Num 900000000 r14 x14) (e0 : k0 = (((((x4 * x8) - (x5 * x7)) * x12) + (((x5 * x6) - (x3 * x8)) * x13)) + (((x3 * x7) - (x4 * x6)) * x14))) (e1 : k1 = (((((x7 * x2) - (x8 * x1)) * x12) + (((x8 * x0) - (x6 * x2)) * x13)) + (((x6 * x1) - (x7 * x0)) * x14))) (e2 : k2 = (((((x1 * x5) - (x2 * x4)) * x12) + (((x2 * x3) - (x0 * x5)) * x13)) + (((x0 * x4) - (x1 * x3)) * x14)))  : PureCalls prog F.affine_Area [.agg ([.bool r0.neg, nl r0.num, nl r0.den, .bool r1.neg, nl r1.num, nl r1.den, .bool r2.neg, nl r2.num, nl r2.den, .bool r3.neg, nl r3.num, nl r3.den, .bool r4.neg, nl r4.num, nl r4.den, .bool r5.neg, nl r5.num, nl r5.den, .bool r6.neg, nl r6.num, nl r6.den, .bool r7.neg, nl r7.num, nl r7.den, .bool r8.neg, nl r8.num, nl r8.den, .bool r9.neg, nl r9.num, nl r9.den, .bool r10.neg, nl r10.num, nl r10.den, .bool r11.neg, nl r11.num, nl r11.den]), .agg ([.bool r12.neg, nl r12.num, nl r12.den, .bool r13.neg, nl r13.num, nl r13.den, .bool r14.neg, nl r14.num, nl r14.den])] [.agg ([.bool (decide ((k0).num < 0)), nn (k0).num.natAbs, nn (k0).den, .bool (decide ((k1).num < 0)), nn (k1).num.natAbs, nn (k1).den, .bool (decide ((k2).num < 0)), nn (k2).num.natAbs, nn (k2).den])] := by
  subst e0 e1 e2
  refine symFunc_sound hmix tree_affine_Area (by kernel_rfl) rfl ?_
  unfold ir_affine_Area
  simp only [fa_agg, fa_one, fa_nil, List.cons_append, List.nil_append, List.append_nil]
  refine call_step (n_affine_cofactors_0 (k0 := ((x4 * x8) - (x5 * x7))) (k1 := ((x5 * x6) - (x3 * x8))) (k2 := ((x3 * x7) - (x4 * x6))) (k3 := ((x7 * x2) - (x8 * x1))) (k4 := ((x8 * x0) - (x6 * x2))) (k5 := ((x6 * x1) - (x7 * x0))) (k6 := ((x1 * x5) - (x2 * x4))) (k7 := ((x2 * x3) - (x0 * x5))) (k8 := ((x0 * x4) - (x1 * x3))) (h0.mono (by decide)) (h1.mono (by decide)) (h2.mono (by decide)) (h3.mono (by decide)) (h4.mono (by decide)) (h5.mono (by decide)) (h6.mono (by decide)) (h7.mono (by decide)) (h8.mono (by decide)) (h9.mono (by decide)) (h10.mono (by decide)) (h11.mono (by decide)) rfl rfl rfl rfl rfl rfl rfl rfl rfl) rfl ?_
  simp only [fa_agg, fa_one, fa_nil, List.cons_append, List.nil_append, List.append_nil]
  have m166 : Num 3600000001 (cr ((x4 * x8) - (x5 * x7))) ((x4 * x8) - (x5 * x7)) := Num.of (Sm.sub (Sm.mul h4.sm h8.sm) (Sm.mul h5.sm h7.sm))
  have m167 : Num 3600000001 (cr ((x5 * x6) - (x3 * x8))) ((x5 * x6) - (x3 * x8)) := Num.of (Sm.sub (Sm.mul h5.sm h6.sm) (Sm.mul h3.sm h8.sm))
  have m168 : Num 3600000001 (cr ((x3 * x7) - (x4 * x6))) ((x3 * x7) - (x4 * x6)) := Num.of (Sm.sub (Sm.mul h3.sm h7.sm) (Sm.mul h4.sm h6.sm))
  refine call_step (n_vec_Dot_0 (k0 := (((((x4 * x8) - (x5 * x7)) * x12) + (((x5 * x6) - (x3 * x8)) * x13)) + (((x3 * x7) - (x4 * x6)) * x14))) (m166.mono (by decide)) (m167.mono (by decide)) (m168.mono (by decide)) (h12.mono (by decide)) (h13.mono (by decide)) (h14.mono (by decide)) rfl) rfl ?_
  simp only [fa_agg, fa_one, fa_nil, List.cons_append, List.nil_append, List.append_nil]
  have m169 : Num 3600000001 (cr ((x7 * x2) - (x8 * x1))) ((x7 * x2) - (x8 * x1)) := Num.of (Sm.sub (Sm.mul h7.sm h2.sm) (Sm.mul h8.sm h1.sm))
  have m170 : Num 3600000001 (cr ((x8 * x0) - (x6 * x2))) ((x8 * x0) - (x6 * x2)) := Num.of (Sm.sub (Sm.mul h8.sm h0.sm) (Sm.mul h6.sm h2.sm))
  have m171 : Num 3600000001 (cr ((x6 * x1) - (x7 * x0))) ((x6 * x1) - (x7 * x0)) := Num.of (Sm.sub (Sm.mul h6.sm h1.sm) (Sm.mul h7.sm h0.sm))
  refine call_step (n_vec_Dot_0 (k0 := (((((x7 * x2) - (x8 * x1)) * x12) + (((x8 * x0) - (x6 * x2)) * x13)) + (((x6 * x1) - (x7 * x0)) * x14))) (m169.mono (by decide)) (m170.mono (by decide)) (m171.mono (by decide)) (h12.mono (by decide)) (h13.mono (by decide)) (h14.mono (by decide)) rfl) rfl ?_
  simp only [fa_agg, fa_one, fa_nil, List.cons_append, List.nil_append, List.append_nil]
  have m172 : Num 3600000001 (cr ((x1 * x5) - (x2 * x4))) ((x1 * x5) - (x2 * x4)) := Num.of (Sm.sub (Sm.mul h1.sm h5.sm) (Sm.mul h2.sm h4.sm))
  have m173 : Num 3600000001 (cr ((x2 * x3) - (x0 * x5))) ((x2 * x3) - (x0 * x5)) := Num.of (Sm.sub (Sm.mul h2.sm h3.sm) (Sm.mul h0.sm h5.sm))
  have m174 : Num 3600000001 (cr ((x0 * x4) - (x1 * x3))) ((x0 * x4) - (x1 * x3)) := Num.of (Sm.sub (Sm.mul h0.sm h4.sm) (Sm.mul h1.sm h3.sm))
  refine call_step (n_vec_Dot_0 (k0 := (((((x1 * x5) - (x2 * x4)) * x12) + (((x2 * x3) - (x0 * x5)) * x13)) + (((x0 * x4) - (x1 * x3)) * x14))) (m172.mono (by decide)) (m173.mono (by decide)) (m174.mono (by decide)) (h12.mono (by decide)) (h13.mono (by decide)) (h14.mono (by decide)) rfl) rfl ?_
  simp only [fa_agg, fa_one, fa_nil, List.cons_append, List.nil_append, List.append_nil]
  exact ret_step rfl

theorem n_penumbraref05_Zero_0 {Z0 : Rat} (Y0 : Z0 = (0 : Rat))    : PureCalls prog F.penumbraref05_Zero [] [.agg ([.bool (decide ((Z0).num < 0)), nn (Z0).num.natAbs, nn (Z0).den, .bool (decide ((Z0).num < 0)), nn (Z0).num.natAbs, nn (Z0).den, .bool (decide ((Z0).num < 0)), nn (Z0).num.natAbs, nn (Z0).den])] := by
  refine symFunc_sound hmix tree_penumbraref05_Zero (by kernel_rfl) rfl ?_
  unfold ir_penumbraref05_Zero
  simp only [fa_agg, fa_one, fa_nil, List.cons_append, List.nil_append, List.append_nil]
  refine call_step (n_penumbraref03_Zero Y0) rfl ?_
  simp only [fa_agg, fa_one, fa_nil, List.cons_append, List.nil_append, List.append_nil]
  refine call_step (n_penumbraref03_Zero Y0) rfl ?_
  simp only [fa_agg, fa_one, fa_nil, List.cons_append, List.nil_append, List.append_nil]
  refine call_step (n_penumbraref03_Zero Y0) rfl ?_
  simp only [fa_agg, fa_one, fa_nil, List.cons_append, List.nil_append, List.append_nil]
  exact ret_step rfl

theorem n_penumbraref07_Identity_0 {Z0 Z1 : Rat} (Y0 : Z0 = (0 : Rat)) (Y1 : Z1 = (1 : Rat))    : PureCalls prog F.penumbraref07_Identity [] [.agg ([.bool (decide ((Z1).num < 0)), nn (Z1).num.natAbs, nn (Z1).den, .bool (decide ((Z0).num < 0)), nn (Z0).num.natAbs, nn (Z0).den, .bool (decide ((Z0).num < 0)), nn (Z0).num.natAbs, nn (Z0).den, .bool (decide ((Z0).num < 0)), nn (Z0).num.natAbs, nn (Z0).den, .bool (decide ((Z1).num < 0)), nn (Z1).num.natAbs, nn (Z1).den, .bool (decide ((Z0).num < 0)), nn (Z0).num.natAbs, nn (Z0).den, .bool (decide ((Z0).num < 0)), nn (Z0).num.natAbs, nn (Z0).den, .bool (decide ((Z0).num < 0)), nn (Z0).num.natAbs, nn (Z0).den, .bool (decide ((Z1).num < 0)), nn (Z1).num.natAbs, nn (Z1).den, .bool (decide ((Z0).num < 0)), nn (Z0).num.natAbs, nn (Z0).den, .bool (decide ((Z0).num < 0)), nn (Z0).num.natAbs, nn (Z0).den, .bool (decide ((Z0).num < 0)), nn (Z0).num.natAbs, nn (Z0).den])] := by
  refine symFunc_sound hmix tree_penumbraref07_Identity (by kernel_rfl) rfl ?_
  unfold ir_penumbraref07_Identity
  simp only [fa_agg, fa_one, fa_nil, List.cons_append, List.nil_append, List.append_nil]
  refine call_step (n_penumbraref05_Of (1) (0) (0) (by decide) (by decide) (by decide) (by decide) (by decide) (by decide) (Y1.trans (by decide +kernel)) (Y0.trans (by decide +kernel)) (Y0.trans (by decide +kernel))) rfl ?_
  simp only [fa_agg, fa_one, fa_nil, List.cons_append, List.nil_append, List.append_nil]
  refine call_step (n_penumbraref05_Of (0) (1) (0) (by decide) (by decide) (by decide) (by decide) (by decide) (by decide) (Y0.trans (by decide +kernel)) (Y1.trans (by decide +kernel)) (Y0.trans (by decide +kernel))) rfl ?_
  simp only [fa_agg, fa_one, fa_nil, List.cons_append, List.nil_append, List.append_nil]
  refine call_step (n_penumbraref05_Of (0) (0) (1) (by decide) (by decide) (by decide) (by decide) (by decide) (by decide) (Y0.trans (by decide +kernel)) (Y0.trans (by decide +kernel)) (Y1.trans (by decide +kernel))) rfl ?_
  simp only [fa_agg, fa_one, fa_nil, List.cons_append, List.nil_append, List.append_nil]
  refine call_step (n_penumbraref05_Zero_0 Y0) rfl ?_
  simp only [fa_agg, fa_one, fa_nil, List.cons_append, List.nil_append, List.append_nil]
  exact ret_step rfl

theorem n_penumbraref07_Is_0  {x0 x1 x2 x3 x4 x5 x6 x7 x8 x9 x10 x11 x12 x13 x14 x15 x16 x17 x18 x19 x20 x21 x22 x23 : Rat} (h0 : Num 9000000000 (cr x0) x0) (h1 : Num 9000000000 (cr x1) x1) (h2 : Num 9000000000 (cr x2) x2) (h3 : Num 9000000000 (cr x3) x3) (h4 : Num 9000000000 (cr x4) x4) (h5 : Num 9000000000 (cr x5) x5) (h6 : Num 9000000000 (cr x6) x6) (h7 : Num 9000000000 (cr x7) x7) (h8 : Num 9000000000 (cr x8) x8) (h9 : Num 9000000000 (cr x9) x9) (h10 : Num 9000000000 (cr x10) x10) (h11 : Num 9000000000 (cr x11) x11) (h12 : Num 9000000000 (cr x12) x12) (h13 : Num 9000000000 (cr x13) x13) (h14 : Num 9000000000 (cr x14) x14) (h15 : Num 9000000000 (cr x15) x15) (h16 : Num 9000000000 (cr x16) x16) (h17 : Num 9000000000 (cr x17) x17) (h18 : Num 9000000000 (cr x18) x18) (h19 : Num 9000000000 (cr x19) x19) (h20 : Num 9000000000 (cr x20) x20) (h21 : Num 9000000000 (cr x21) x21) (h22 : Num 9000000000 (cr x22) x22) (h23 : Num 9000000000 (cr x23) x23)  (c0 : x0 = x12) (c1 : x1 = x13) (c2 : x2 = x14) (c3 : x3 = x15) (c4 : x4 = x16) (c5 : x5 = x17) (c6 : x6 = x18) (c7 : x7 = x19) (c8 : x8 = x20) (c9 : x9 = x21) (c10 : x10 = x22) (c11 : x11 = x23) : PureCalls prog F.penumbraref07_Is [.agg ([.bool (decide ((x0).num < 0)), nn (x0).num.natAbs, nn (x0).den, .bool (decide ((x1).num < 0)), nn (x1).num.natAbs, nn (x1).den, .bool (decide ((x2).num < 0)), nn (x2).num.natAbs, nn (x2).den, .bool (decide ((x3).num < 0)), nn (x3).num.natAbs, nn (x3).den, .bool (decide ((x4).num < 0)), nn (x4).num.natAbs, nn (x4).den, .bool (decide ((x5).num < 0)), nn (x5).num.natAbs, nn (x5).den, .bool (decide ((x6).num < 0)), nn (x6).num.natAbs, nn (x6).den, .bool (decide ((x7).num < 0)), nn (x7).num.natAbs, nn (x7).den, .bool (decide ((x8).num < 0)), nn (x8).num.natAbs, nn (x8).den, .bool (decide ((x9).num < 0)), nn (x9).num.natAbs, nn (x9).den, .bool (decide ((x10).num < 0)), nn (x10).num.natAbs, nn (x10).den, .bool (decide ((x11).num < 0)), nn (x11).num.natAbs, nn (x11).den]), .agg ([.bool (decide ((x12).num < 0)), nn (x12).num.natAbs, nn (x12).den, .bool (decide ((x13).num < 0)), nn (x13).num.natAbs, nn (x13).den, .bool (decide ((x14).num < 0)), nn (x14).num.natAbs, nn (x14).den, .bool (decide ((x15).num < 0)), nn (x15).num.natAbs, nn (x15).den, .bool (decide ((x16).num < 0)), nn (x16).num.natAbs, nn (x16).den, .bool (decide ((x17).num < 0)), nn (x17).num.natAbs, nn (x17).den, .bool (decide ((x18).num < 0)), nn (x18).num.natAbs, nn (x18).den, .bool (decide ((x19).num < 0)), nn (x19).num.natAbs, nn (x19).den, .bool (decide ((x20).num < 0)), nn (x20).num.natAbs, nn (x20).den, .bool (decide ((x21).num < 0)), nn (x21).num.natAbs, nn (x21).den, .bool (decide ((x22).num < 0)), nn (x22).num.natAbs, nn (x22).den, .bool (decide ((x23).num < 0)), nn (x23).num.natAbs, nn (x23).den])] [.one (.bool true)] := by
  refine symFunc_sound hmix tree_penumbraref07_Is (by kernel_rfl) rfl ?_
  unfold ir_penumbraref07_Is
  simp only [fa_agg, fa_one, fa_nil, List.cons_append, List.nil_append, List.append_nil]
  refine call_step (n_penumbraref05_Is_0 (h0.mono (by decide)) (h1.mono (by decide)) (h2.mono (by decide)) (h12.mono (by decide)) (h13.mono (by decide)) (h14.mono (by decide)) c0 c1 c2) rfl ?_
  simp only [fa_agg, fa_one, fa_nil, List.cons_append, List.nil_append, List.append_nil]
  refine itT rfl ?_
  refine call_step (n_penumbraref05_Is_0 (h3.mono (by decide)) (h4.mono (by decide)) (h5.mono (by decide)) (h15.mono (by decide)) (h16.mono (by decide)) (h17.mono (by decide)) c3 c4 c5) rfl ?_
  simp only [fa_agg, fa_one, fa_nil, List.cons_append, List.nil_append, List.append_nil]
  refine itT rfl ?_
  refine call_step (n_penumbraref05_Is_0 (h6.mono (by decide)) (h7.mono (by decide)) (h8.mono (by decide)) (h18.mono (by decide)) (h19.mono (by decide)) (h20.mono (by decide)) c6 c7 c8) rfl ?_
  simp only [fa_agg, fa_one, fa_nil, List.cons_append, List.nil_append, List.append_nil]
  refine itT rfl ?_
  refine call_step (n_penumbraref05_Is_0 (h9.mono (by decide)) (h10.mono (by decide)) (h11.mono (by decide)) (h21.mono (by decide)) (h22.mono (by decide)) (h23.mono (by decide)) c9 c10 c11) rfl ?_
  simp only [fa_agg, fa_one, fa_nil, List.cons_append, List.nil_append, List.append_nil]
  exact ret_step rfl

theorem n_penumbralaw07_fixed : PureCalls prog F.penumbralaw07_fixed [] [.one (.bool true)] := by
  obtain ⟨Zm3, Ym3⟩ := ex_eq (-3 : Rat)
  obtain ⟨Zm1, Ym1⟩ := ex_eq (-1 : Rat)
  obtain ⟨Z0, Y0⟩ := ex_eq (0 : Rat)
  obtain ⟨Z1, Y1⟩ := ex_eq (1 : Rat)
  obtain ⟨Z2, Y2⟩ := ex_eq (2 : Rat)
  obtain ⟨Z3, Y3⟩ := ex_eq (3 : Rat)
  obtain ⟨Z5, Y5⟩ := ex_eq (5 : Rat)
  refine symFunc_sound hmix tree_penumbralaw07_fixed (by kernel_rfl) rfl ?_
  unfold ir_penumbralaw07_fixed
  simp only [fa_agg, fa_one, fa_nil, List.cons_append, List.nil_append, List.append_nil]
  refine call_step (n_vec_Of (0) (0) (1) (by decide) (by decide) (by decide) (by decide) (by decide) (by decide) (Y0.trans (by decide +kernel)) (Y0.trans (by decide +kernel)) (Y1.trans (by decide +kernel))) rfl ?_
  simp only [fa_agg, fa_one, fa_nil, List.cons_append, List.nil_append, List.append_nil]
  refine call_step (n_vec_Of (0) (0) (1) (by decide) (by decide) (by decide) (by decide) (by decide) (by decide) (Y0.trans (by decide +kernel)) (Y0.trans (by decide +kernel)) (Y1.trans (by decide +kernel))) rfl ?_
  simp only [fa_agg, fa_one, fa_nil, List.cons_append, List.nil_append, List.append_nil]
  refine call_step (n_rat_Of (-1) (1) (by decide) (by decide) (by decide) (by decide) (Ym1.trans (by decide +kernel))) rfl ?_
  simp only [fa_agg, fa_one, fa_nil, List.cons_append, List.nil_append, List.append_nil]
  have m175 : Num 1 (cr Z0) Z0 := Num.c Y0 (by decide +kernel) (by decide +kernel)
  have m176 : Num 1 (cr Z1) Z1 := Num.c Y1 (by decide +kernel) (by decide +kernel)
  have m177 : Num 1 (cr Zm1) Zm1 := Num.c Ym1 (by decide +kernel) (by decide +kernel)
  refine call_step (n_affine_Stretch_0 (k0 := Z1) (k1 := Z0) (k2 := Z0) (k3 := Z0) (k4 := Z1) (k5 := Z0) (k6 := Z0) (k7 := Z0) (k8 := Zm1) (k9 := Z0) (k10 := Z0) (k11 := Z2) Y0 Y1 (m175.mono (by decide)) (m175.mono (by decide)) (m176.mono (by decide)) (m175.mono (by decide)) (m175.mono (by decide)) (m176.mono (by decide)) (m177.mono (by decide)) (by rw [Y1, Ym1, Y0] <;> decide +kernel) (by rw [Y0, Ym1, Y1] <;> decide +kernel) (by rw [Y0, Ym1, Y1] <;> decide +kernel) (by rw [Y0, Ym1, Y1] <;> decide +kernel) (by rw [Y1, Ym1, Y0] <;> decide +kernel) (by rw [Y0, Ym1, Y1] <;> decide +kernel) (by rw [Y0, Ym1, Y1] <;> decide +kernel) (by rw [Y0, Ym1, Y1] <;> decide +kernel) (by rw [Ym1, Y1] <;> decide +kernel) (by rw [Y0, Ym1, Y1] <;> decide +kernel) (by rw [Y0, Ym1, Y1] <;> decide +kernel) (by rw [Y2, Ym1, Y1, Y0] <;> decide +kernel)) rfl ?_
  simp only [fa_agg, fa_one, fa_nil, List.cons_append, List.nil_append, List.append_nil]
  refine call_step (n_vec_Of (1) (0) (0) (by decide) (by decide) (by decide) (by decide) (by decide) (by decide) (Y1.trans (by decide +kernel)) (Y0.trans (by decide +kernel)) (Y0.trans (by decide +kernel))) rfl ?_
  simp only [fa_agg, fa_one, fa_nil, List.cons_append, List.nil_append, List.append_nil]
  refine call_step (n_vec_Of (1) (0) (0) (by decide) (by decide) (by decide) (by decide) (by decide) (by decide) (Y1.trans (by decide +kernel)) (Y0.trans (by decide +kernel)) (Y0.trans (by decide +kernel))) rfl ?_
  simp only [fa_agg, fa_one, fa_nil, List.cons_append, List.nil_append, List.append_nil]
  refine call_step (n_vec_Of (0) (0) (1) (by decide) (by decide) (by decide) (by decide) (by decide) (by decide) (Y0.trans (by decide +kernel)) (Y0.trans (by decide +kernel)) (Y1.trans (by decide +kernel))) rfl ?_
  simp only [fa_agg, fa_one, fa_nil, List.cons_append, List.nil_append, List.append_nil]
  have m178 : Num 1 rz Z0 := Num.zz Y0
  refine call_step (n_affine_Inverse_0 (k0 := Z0) Y0 Y1 (m176.mono (by decide)) (m175.mono (by decide)) (m175.mono (by decide)) (m176.mono (by decide)) (m175.mono (by decide)) (m175.mono (by decide)) (m175.mono (by decide)) (m175.mono (by decide)) (m176.mono (by decide)) (m178.mono (by decide)) (m178.mono (by decide)) (m178.mono (by decide)) (by rw [Y0, Y1] <;> decide +kernel) rfl) rfl ?_
  simp only [fa_agg, fa_one, fa_nil, List.cons_append, List.nil_append, List.append_nil]
  refine call_step (n_vec_Of (2) (3) (5) (by decide) (by decide) (by decide) (by decide) (by decide) (by decide) (Y2.trans (by decide +kernel)) (Y3.trans (by decide +kernel)) (Y5.trans (by decide +kernel))) rfl ?_
  simp only [fa_agg, fa_one, fa_nil, List.cons_append, List.nil_append, List.append_nil]
  have m179 : Num 1 (cr Z2) Z2 := Num.c Y2 (by decide +kernel) (by decide +kernel)
  have m180 : Num 1 (cr Z3) Z3 := Num.c Y3 (by decide +kernel) (by decide +kernel)
  have m181 : Num 1 (cr Z5) Z5 := Num.c Y5 (by decide +kernel) (by decide +kernel)
  refine call_step (n_affine_Apply_0 (k0 := Z2) (k1 := Z3) (k2 := Zm3) (m176.mono (by decide)) (m175.mono (by decide)) (m175.mono (by decide)) (m175.mono (by decide)) (m176.mono (by decide)) (m175.mono (by decide)) (m175.mono (by decide)) (m175.mono (by decide)) (m177.mono (by decide)) (m175.mono (by decide)) (m175.mono (by decide)) (m179.mono (by decide)) (m179.mono (by decide)) (m180.mono (by decide)) (m181.mono (by decide)) (by rw [Y2, Y1, Y0, Y3, Y5] <;> decide +kernel) (by rw [Y3, Y0, Y2, Y1, Y5] <;> decide +kernel) (by rw [Ym3, Y0, Y2, Y3, Ym1, Y5] <;> decide +kernel)) rfl ?_
  simp only [fa_agg, fa_one, fa_nil, List.cons_append, List.nil_append, List.append_nil]
  refine call_step (n_penumbraref05_Of (2) (3) (-3) (by decide) (by decide) (by decide) (by decide) (by decide) (by decide) (Y2.trans (by decide +kernel)) (Y3.trans (by decide +kernel)) (Ym3.trans (by decide +kernel))) rfl ?_
  simp only [fa_agg, fa_one, fa_nil, List.cons_append, List.nil_append, List.append_nil]
  have m182 : Num 1 (cr Zm3) Zm3 := Num.c Ym3 (by decide +kernel) (by decide +kernel)
  refine call_step (n_penumbraref05_Is_0 (m179.mono (by decide)) (m180.mono (by decide)) (m182.mono (by decide)) (m179.mono (by decide)) (m180.mono (by decide)) (m182.mono (by decide)) rfl rfl rfl) rfl ?_
  simp only [fa_agg, fa_one, fa_nil, List.cons_append, List.nil_append, List.append_nil]
  refine itT rfl ?_
  refine call_step (n_vec_Of (0) (0) (1) (by decide) (by decide) (by decide) (by decide) (by decide) (by decide) (Y0.trans (by decide +kernel)) (Y0.trans (by decide +kernel)) (Y1.trans (by decide +kernel))) rfl ?_
  simp only [fa_agg, fa_one, fa_nil, List.cons_append, List.nil_append, List.append_nil]
  refine call_step (n_affine_Area_0 (k0 := Z0) (k1 := Z0) (k2 := Z1) (m176.mono (by decide)) (m175.mono (by decide)) (m175.mono (by decide)) (m175.mono (by decide)) (m176.mono (by decide)) (m175.mono (by decide)) (m175.mono (by decide)) (m175.mono (by decide)) (m177.mono (by decide)) (m175.mono (by decide)) (m175.mono (by decide)) (m179.mono (by decide)) (m175.mono (by decide)) (m175.mono (by decide)) (m176.mono (by decide)) (by rw [Y0, Y1, Ym1] <;> decide +kernel) (by rw [Y0, Ym1, Y1] <;> decide +kernel) (by rw [Y1, Y0] <;> decide +kernel)) rfl ?_
  simp only [fa_agg, fa_one, fa_nil, List.cons_append, List.nil_append, List.append_nil]
  refine call_step (n_penumbraref05_Of (0) (0) (1) (by decide) (by decide) (by decide) (by decide) (by decide) (by decide) (Y0.trans (by decide +kernel)) (Y0.trans (by decide +kernel)) (Y1.trans (by decide +kernel))) rfl ?_
  simp only [fa_agg, fa_one, fa_nil, List.cons_append, List.nil_append, List.append_nil]
  refine call_step (n_penumbraref05_Is_0 (m175.mono (by decide)) (m175.mono (by decide)) (m176.mono (by decide)) (m175.mono (by decide)) (m175.mono (by decide)) (m176.mono (by decide)) rfl rfl rfl) rfl ?_
  simp only [fa_agg, fa_one, fa_nil, List.cons_append, List.nil_append, List.append_nil]
  refine itT rfl ?_
  refine call_step (n_vec_Of (1) (0) (0) (by decide) (by decide) (by decide) (by decide) (by decide) (by decide) (Y1.trans (by decide +kernel)) (Y0.trans (by decide +kernel)) (Y0.trans (by decide +kernel))) rfl ?_
  simp only [fa_agg, fa_one, fa_nil, List.cons_append, List.nil_append, List.append_nil]
  refine call_step (n_affine_Area_0 (k0 := Zm1) (k1 := Z0) (k2 := Z0) (m176.mono (by decide)) (m175.mono (by decide)) (m175.mono (by decide)) (m175.mono (by decide)) (m176.mono (by decide)) (m175.mono (by decide)) (m175.mono (by decide)) (m175.mono (by decide)) (m177.mono (by decide)) (m175.mono (by decide)) (m175.mono (by decide)) (m179.mono (by decide)) (m176.mono (by decide)) (m175.mono (by decide)) (m175.mono (by decide)) (by rw [Ym1, Y1, Y0] <;> decide +kernel) (by rw [Y0, Ym1, Y1] <;> decide +kernel) (by rw [Y0, Y1] <;> decide +kernel)) rfl ?_
  simp only [fa_agg, fa_one, fa_nil, List.cons_append, List.nil_append, List.append_nil]
  refine call_step (n_penumbraref05_Of (-1) (0) (0) (by decide) (by decide) (by decide) (by decide) (by decide) (by decide) (Ym1.trans (by decide +kernel)) (Y0.trans (by decide +kernel)) (Y0.trans (by decide +kernel))) rfl ?_
  simp only [fa_agg, fa_one, fa_nil, List.cons_append, List.nil_append, List.append_nil]
  refine call_step (n_penumbraref05_Is_0 (m177.mono (by decide)) (m175.mono (by decide)) (m175.mono (by decide)) (m177.mono (by decide)) (m175.mono (by decide)) (m175.mono (by decide)) rfl rfl rfl) rfl ?_
  simp only [fa_agg, fa_one, fa_nil, List.cons_append, List.nil_append, List.append_nil]
  refine itT rfl ?_
  refine primS (.bool true) rfl ?_
  refine itT rfl ?_
  refine call_step (n_affine_Identity_0 Y0 Y1) rfl ?_
  simp only [fa_agg, fa_one, fa_nil, List.cons_append, List.nil_append, List.append_nil]
  refine call_step (n_penumbraref07_Identity_0 Y0 Y1) rfl ?_
  simp only [fa_agg, fa_one, fa_nil, List.cons_append, List.nil_append, List.append_nil]
  refine call_step (n_penumbraref07_Is_0 (m176.mono (by decide)) (m175.mono (by decide)) (m175.mono (by decide)) (m175.mono (by decide)) (m176.mono (by decide)) (m175.mono (by decide)) (m175.mono (by decide)) (m175.mono (by decide)) (m176.mono (by decide)) (m175.mono (by decide)) (m175.mono (by decide)) (m175.mono (by decide)) (m176.mono (by decide)) (m175.mono (by decide)) (m175.mono (by decide)) (m175.mono (by decide)) (m176.mono (by decide)) (m175.mono (by decide)) (m175.mono (by decide)) (m175.mono (by decide)) (m176.mono (by decide)) (m175.mono (by decide)) (m175.mono (by decide)) (m175.mono (by decide)) rfl rfl rfl rfl rfl rfl rfl rfl rfl rfl rfl rfl) rfl ?_
  simp only [fa_agg, fa_one, fa_nil, List.cons_append, List.nil_append, List.append_nil]
  exact ret_step rfl

theorem n_vec_Read_0  {r0 r1 r2 : RR} {x0 x1 x2 : Rat} (h0 : Num 9000000000 r0 x0) (h1 : Num 9000000000 r1 x1) (h2 : Num 9000000000 r2 x2)   : PureCalls prog F.vec_Read [.agg ([.bool r0.neg, nl r0.num, nl r0.den, .bool r1.neg, nl r1.num, nl r1.den, .bool r2.neg, nl r2.num, nl r2.den])] [.agg ([.bool (decide ((x0).num < 0)), nn (x0).num.natAbs, nn (x0).den, .bool (decide ((x1).num < 0)), nn (x1).num.natAbs, nn (x1).den, .bool (decide ((x2).num < 0)), nn (x2).num.natAbs, nn (x2).den])] := by
  refine symFunc_sound hmix tree_vec_Read (by kernel_rfl) rfl ?_
  unfold ir_vec_Read
  simp only [fa_agg, fa_one, fa_nil, List.cons_append, List.nil_append, List.append_nil]
  refine call_step (n_rat_Read (h0.mono (by decide))) rfl ?_
  simp only [fa_agg, fa_one, fa_nil, List.cons_append, List.nil_append, List.append_nil]
  refine call_step (n_rat_Read (h1.mono (by decide))) rfl ?_
  simp only [fa_agg, fa_one, fa_nil, List.cons_append, List.nil_append, List.append_nil]
  refine call_step (n_rat_Read (h2.mono (by decide))) rfl ?_
  simp only [fa_agg, fa_one, fa_nil, List.cons_append, List.nil_append, List.append_nil]
  exact ret_step rfl

end Go.Px.Na

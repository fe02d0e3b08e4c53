/- Fb: contracts over directions, maps, spots: the program's functions. -/
import Derived.Test.YtnohcccgfefnkaaGreatFr0
import Derived.Test.YtnohcccgfefnkaaGreatPx24
import Derived.Test.YtnohcccgfefnkaaGreatProg
import Derived.Tactics
set_option maxRecDepth 20000
set_option maxHeartbeats 40000000
set_option linter.unusedVariables false
set_option linter.unusedSimpArgs false
namespace Go.Px
open Go.RowKit
def ir_vec_Dot : IR :=
 .prim (.mk 2) [.var 0, .var 1, .var 2, .var 9, .var 10, .var 11] <|
 .call F.rat_Product [.one (.var 18)] [.agg 3] <|
 .prim (.mk 2) [.var 3, .var 4, .var 5, .var 12, .var 13, .var 14] <|
 .call F.rat_Product [.one (.var 22)] [.agg 3] <|
 .prim (.mk 2) [.var 6, .var 7, .var 8, .var 15, .var 16, .var 17] <|
 .call F.rat_Product [.one (.var 26)] [.agg 3] <|
 .prim (.mk 3) [.var 19, .var 20, .var 21, .var 23, .var 24, .var 25, .var 27, .var 28, .var 29] <|
 .call F.rat_Sum [.one (.var 30)] [.agg 3] <|
 .ret [.agg [.var 31, .var 32, .var 33]]

def ir_vec_Sub : IR :=
 .call F.rat_Sub [.agg [.var 0, .var 1, .var 2], .agg [.var 9, .var 10, .var 11]] [.agg 3] <|
 .call F.rat_Sub [.agg [.var 3, .var 4, .var 5], .agg [.var 12, .var 13, .var 14]] [.agg 3] <|
 .call F.rat_Sub [.agg [.var 6, .var 7, .var 8], .agg [.var 15, .var 16, .var 17]] [.agg 3] <|
 .ret [.agg [.var 18, .var 19, .var 20, .var 21, .var 22, .var 23, .var 24, .var 25, .var 26]]

def ir_vec_Scale : IR :=
 .prim (.mk 2) [.var 0, .var 1, .var 2, .var 3, .var 4, .var 5] <|
 .call F.rat_Product [.one (.var 12)] [.agg 3] <|
 .prim (.mk 2) [.var 0, .var 1, .var 2, .var 6, .var 7, .var 8] <|
 .call F.rat_Product [.one (.var 16)] [.agg 3] <|
 .prim (.mk 2) [.var 0, .var 1, .var 2, .var 9, .var 10, .var 11] <|
 .call F.rat_Product [.one (.var 20)] [.agg 3] <|
 .ret [.agg [.var 13, .var 14, .var 15, .var 17, .var 18, .var 19, .var 21, .var 22, .var 23]]

def ir_vec_minor : IR :=
 .prim (.mk 2) [.var 0, .var 1, .var 2, .var 9, .var 10, .var 11] <|
 .call F.rat_Product [.one (.var 12)] [.agg 3] <|
 .prim (.mk 2) [.var 3, .var 4, .var 5, .var 6, .var 7, .var 8] <|
 .call F.rat_Product [.one (.var 16)] [.agg 3] <|
 .call F.rat_Sub [.agg [.var 13, .var 14, .var 15], .agg [.var 17, .var 18, .var 19]] [.agg 3] <|
 .ret [.agg [.var 20, .var 21, .var 22]]

def ir_vec_Cross : IR :=
 .call F.vec_minor [.agg [.var 3, .var 4, .var 5], .agg [.var 6, .var 7, .var 8], .agg [.var 12, .var 13, .var 14], .agg [.var 15, .var 16, .var 17]] [.agg 3] <|
 .call F.vec_minor [.agg [.var 6, .var 7, .var 8], .agg [.var 0, .var 1, .var 2], .agg [.var 15, .var 16, .var 17], .agg [.var 9, .var 10, .var 11]] [.agg 3] <|
 .call F.vec_minor [.agg [.var 0, .var 1, .var 2], .agg [.var 3, .var 4, .var 5], .agg [.var 9, .var 10, .var 11], .agg [.var 12, .var 13, .var 14]] [.agg 3] <|
 .ret [.agg [.var 18, .var 19, .var 20, .var 21, .var 22, .var 23, .var 24, .var 25, .var 26]]

def ir_vec_Read : IR :=
 .call F.rat_Read [.agg [.var 0, .var 1, .var 2]] [.agg 3] <|
 .call F.rat_Read [.agg [.var 3, .var 4, .var 5]] [.agg 3] <|
 .call F.rat_Read [.agg [.var 6, .var 7, .var 8]] [.agg 3] <|
 .ret [.agg [.var 9, .var 10, .var 11, .var 12, .var 13, .var 14, .var 15, .var 16, .var 17]]

def ir_affine_Identity : IR :=
 .call F.vec_Of [.one (.int .i64 (1)), .one (.int .i64 (0)), .one (.int .i64 (0))] [.agg 9] <|
 .call F.vec_Of [.one (.int .i64 (0)), .one (.int .i64 (1)), .one (.int .i64 (0))] [.agg 9] <|
 .call F.vec_Of [.one (.int .i64 (0)), .one (.int .i64 (0)), .one (.int .i64 (1))] [.agg 9] <|
 .call F.vec_Of [.one (.int .i64 (0)), .one (.int .i64 (0)), .one (.int .i64 (0))] [.agg 9] <|
 .ret [.agg [.var 0, .var 1, .var 2, .var 3, .var 4, .var 5, .var 6, .var 7, .var 8, .var 9, .var 10, .var 11, .var 12, .var 13, .var 14, .var 15, .var 16, .var 17, .var 18, .var 19, .var 20, .var 21, .var 22, .var 23, .var 24, .var 25, .var 26, .var 27, .var 28, .var 29, .var 30, .var 31, .var 32, .var 33, .var 34, .var 35]]

def ir_affine_Turn : IR :=
 .call F.vec_Dot [.agg [.var 0, .var 1, .var 2, .var 3, .var 4, .var 5, .var 6, .var 7, .var 8], .agg [.var 36, .var 37, .var 38, .var 39, .var 40, .var 41, .var 42, .var 43, .var 44]] [.agg 3] <|
 .call F.vec_Dot [.agg [.var 9, .var 10, .var 11, .var 12, .var 13, .var 14, .var 15, .var 16, .var 17], .agg [.var 36, .var 37, .var 38, .var 39, .var 40, .var 41, .var 42, .var 43, .var 44]] [.agg 3] <|
 .call F.vec_Dot [.agg [.var 18, .var 19, .var 20, .var 21, .var 22, .var 23, .var 24, .var 25, .var 26], .agg [.var 36, .var 37, .var 38, .var 39, .var 40, .var 41, .var 42, .var 43, .var 44]] [.agg 3] <|
 .ret [.agg [.var 45, .var 46, .var 47, .var 48, .var 49, .var 50, .var 51, .var 52, .var 53]]

def ir_affine_Apply : IR :=
 .call F.affine_Turn [.agg [.var 0, .var 1, .var 2, .var 3, .var 4, .var 5, .var 6, .var 7, .var 8, .var 9, .var 10, .var 11, .var 12, .var 13, .var 14, .var 15, .var 16, .var 17, .var 18, .var 19, .var 20, .var 21, .var 22, .var 23, .var 24, .var 25, .var 26, .var 27, .var 28, .var 29, .var 30, .var 31, .var 32, .var 33, .var 34, .var 35], .agg [.var 36, .var 37, .var 38, .var 39, .var 40, .var 41, .var 42, .var 43, .var 44]] [.agg 9] <|
 .prim (.mk 2) [.var 45, .var 46, .var 47, .var 48, .var 49, .var 50, .var 51, .var 52, .var 53, .var 27, .var 28, .var 29, .var 30, .var 31, .var 32, .var 33, .var 34, .var 35] <|
 .call F.vec_Sum [.one (.var 54)] [.agg 9] <|
 .ret [.agg [.var 55, .var 56, .var 57, .var 58, .var 59, .var 60, .var 61, .var 62, .var 63]]

def ir_affine_cofactors : IR :=
 .call F.vec_Cross [.agg [.var 9, .var 10, .var 11, .var 12, .var 13, .var 14, .var 15, .var 16, .var 17], .agg [.var 18, .var 19, .var 20, .var 21, .var 22, .var 23, .var 24, .var 25, .var 26]] [.agg 9] <|
 .call F.vec_Cross [.agg [.var 18, .var 19, .var 20, .var 21, .var 22, .var 23, .var 24, .var 25, .var 26], .agg [.var 0, .var 1, .var 2, .var 3, .var 4, .var 5, .var 6, .var 7, .var 8]] [.agg 9] <|
 .call F.vec_Cross [.agg [.var 0, .var 1, .var 2, .var 3, .var 4, .var 5, .var 6, .var 7, .var 8], .agg [.var 9, .var 10, .var 11, .var 12, .var 13, .var 14, .var 15, .var 16, .var 17]] [.agg 9] <|
 .ret [.agg [.var 36, .var 37, .var 38, .var 39, .var 40, .var 41, .var 42, .var 43, .var 44, .var 45, .var 46, .var 47, .var 48, .var 49, .var 50, .var 51, .var 52, .var 53, .var 54, .var 55, .var 56, .var 57, .var 58, .var 59, .var 60, .var 61, .var 62]]

def ir_affine_Area : IR :=
 .call F.affine_cofactors [.agg [.var 0, .var 1, .var 2, .var 3, .var 4, .var 5, .var 6, .var 7, .var 8, .var 9, .var 10, .var 11, .var 12, .var 13, .var 14, .var 15, .var 16, .var 17, .var 18, .var 19, .var 20, .var 21, .var 22, .var 23, .var 24, .var 25, .var 26, .var 27, .var 28, .var 29, .var 30, .var 31, .var 32, .var 33, .var 34, .var 35]] [.agg 27] <|
 .call F.vec_Dot [.agg [.var 45, .var 46, .var 47, .var 48, .var 49, .var 50, .var 51, .var 52, .var 53], .agg [.var 36, .var 37, .var 38, .var 39, .var 40, .var 41, .var 42, .var 43, .var 44]] [.agg 3] <|
 .call F.vec_Dot [.agg [.var 54, .var 55, .var 56, .var 57, .var 58, .var 59, .var 60, .var 61, .var 62], .agg [.var 36, .var 37, .var 38, .var 39, .var 40, .var 41, .var 42, .var 43, .var 44]] [.agg 3] <|
 .call F.vec_Dot [.agg [.var 63, .var 64, .var 65, .var 66, .var 67, .var 68, .var 69, .var 70, .var 71], .agg [.var 36, .var 37, .var 38, .var 39, .var 40, .var 41, .var 42, .var 43, .var 44]] [.agg 3] <|
 .ret [.agg [.var 72, .var 73, .var 74, .var 75, .var 76, .var 77, .var 78, .var 79, .var 80]]

def ir_affine_Det : IR :=
 .call F.vec_Cross [.agg [.var 9, .var 10, .var 11, .var 12, .var 13, .var 14, .var 15, .var 16, .var 17], .agg [.var 18, .var 19, .var 20, .var 21, .var 22, .var 23, .var 24, .var 25, .var 26]] [.agg 9] <|
 .call F.vec_Dot [.agg [.var 0, .var 1, .var 2, .var 3, .var 4, .var 5, .var 6, .var 7, .var 8], .agg [.var 36, .var 37, .var 38, .var 39, .var 40, .var 41, .var 42, .var 43, .var 44]] [.agg 3] <|
 .ret [.agg [.var 45, .var 46, .var 47]]

def ir_frame_Of : IR :=
 .call F.vec_Of [.one (.int .i64 (1)), .one (.int .i64 (0)), .one (.int .i64 (0))] [.agg 9] <|
 .call F.vec_Of [.one (.int .i64 (0)), .one (.int .i64 (1)), .one (.int .i64 (0))] [.agg 9] <|
 .call F.vec_Of [.one (.int .i64 (0)), .one (.int .i64 (0)), .one (.int .i64 (1))] [.agg 9] <|
 .call F.vec_Of [.one (.int .i64 (0)), .one (.int .i64 (0)), .one (.int .i64 (0))] [.agg 9] <|
 .call F.vec_Dot [.agg [.var 0, .var 1, .var 2, .var 3, .var 4, .var 5, .var 6, .var 7, .var 8], .agg [.var 0, .var 1, .var 2, .var 3, .var 4, .var 5, .var 6, .var 7, .var 8]] [.agg 3] <|
 .call F.rat_Of [.one (.int .i64 (1)), .one (.int .i64 (1))] [.agg 3] <|
 .call F.rat_Same [.agg [.var 45, .var 46, .var 47], .agg [.var 48, .var 49, .var 50]] [.one] <|
 .prim .not [.var 51] <|
 .ite (.var 52) (
  .ret [.agg [.var 36, .var 37, .var 38, .var 39, .var 40, .var 41, .var 42, .var 43, .var 44, .var 36, .var 37, .var 38, .var 39, .var 40, .var 41, .var 42, .var 43, .var 44, .var 36, .var 37, .var 38, .var 39, .var 40, .var 41, .var 42, .var 43, .var 44], .one (.bol false)]) (
  .call F.vec_Sub [.agg [.var 27, .var 28, .var 29, .var 30, .var 31, .var 32, .var 33, .var 34, .var 35], .agg [.var 0, .var 1, .var 2, .var 3, .var 4, .var 5, .var 6, .var 7, .var 8]] [.agg 9] <|
  .call F.rat_Of [.one (.int .i64 (-2)), .one (.int .i64 (1))] [.agg 3] <|
  .call F.vec_Dot [.agg [.var 53, .var 54, .var 55, .var 56, .var 57, .var 58, .var 59, .var 60, .var 61], .agg [.var 53, .var 54, .var 55, .var 56, .var 57, .var 58, .var 59, .var 60, .var 61]] [.agg 3] <|
  .call F.rat_Div [.agg [.var 62, .var 63, .var 64], .agg [.var 65, .var 66, .var 67]] [.agg 3, .one] <|
  .prim .not [.var 71] <|
  .ite (.var 72) (
   .ret [.agg [.var 9, .var 10, .var 11, .var 12, .var 13, .var 14, .var 15, .var 16, .var 17, .var 18, .var 19, .var 20, .var 21, .var 22, .var 23, .var 24, .var 25, .var 26, .var 27, .var 28, .var 29, .var 30, .var 31, .var 32, .var 33, .var 34, .var 35], .one (.bol true)]) (
   .prim (.mk 2) [.var 68, .var 69, .var 70, .var 53, .var 54, .var 55] <|
   .call F.rat_Product [.one (.var 73)] [.agg 3] <|
   .call F.vec_Scale [.agg [.var 74, .var 75, .var 76], .agg [.var 53, .var 54, .var 55, .var 56, .var 57, .var 58, .var 59, .var 60, .var 61]] [.agg 9] <|
   .prim (.mk 2) [.var 9, .var 10, .var 11, .var 12, .var 13, .var 14, .var 15, .var 16, .var 17, .var 77, .var 78, .var 79, .var 80, .var 81, .var 82, .var 83, .var 84, .var 85] <|
   .call F.vec_Sum [.one (.var 86)] [.agg 9] <|
   .prim (.mk 2) [.var 68, .var 69, .var 70, .var 56, .var 57, .var 58] <|
   .call F.rat_Product [.one (.var 96)] [.agg 3] <|
   .call F.vec_Scale [.agg [.var 97, .var 98, .var 99], .agg [.var 53, .var 54, .var 55, .var 56, .var 57, .var 58, .var 59, .var 60, .var 61]] [.agg 9] <|
   .prim (.mk 2) [.var 18, .var 19, .var 20, .var 21, .var 22, .var 23, .var 24, .var 25, .var 26, .var 100, .var 101, .var 102, .var 103, .var 104, .var 105, .var 106, .var 107, .var 108] <|
   .call F.vec_Sum [.one (.var 109)] [.agg 9] <|
   .call F.vec_Read [.agg [.var 0, .var 1, .var 2, .var 3, .var 4, .var 5, .var 6, .var 7, .var 8]] [.agg 9] <|
   .ret [.agg [.var 87, .var 88, .var 89, .var 90, .var 91, .var 92, .var 93, .var 94, .var 95, .var 110, .var 111, .var 112, .var 113, .var 114, .var 115, .var 116, .var 117, .var 118, .var 119, .var 120, .var 121, .var 122, .var 123, .var 124, .var 125, .var 126, .var 127], .one (.bol true)]))

def ir_frame_In : IR :=
 .call F.vec_Dot [.agg [.var 27, .var 28, .var 29, .var 30, .var 31, .var 32, .var 33, .var 34, .var 35], .agg [.var 0, .var 1, .var 2, .var 3, .var 4, .var 5, .var 6, .var 7, .var 8]] [.agg 3] <|
 .call F.vec_Dot [.agg [.var 27, .var 28, .var 29, .var 30, .var 31, .var 32, .var 33, .var 34, .var 35], .agg [.var 9, .var 10, .var 11, .var 12, .var 13, .var 14, .var 15, .var 16, .var 17]] [.agg 3] <|
 .call F.vec_Dot [.agg [.var 27, .var 28, .var 29, .var 30, .var 31, .var 32, .var 33, .var 34, .var 35], .agg [.var 18, .var 19, .var 20, .var 21, .var 22, .var 23, .var 24, .var 25, .var 26]] [.agg 3] <|
 .ret [.agg [.var 36, .var 37, .var 38, .var 39, .var 40, .var 41, .var 42, .var 43, .var 44]]

def ir_frame_Slopes : IR :=
 .call F.frame_In [.agg [.var 0, .var 1, .var 2, .var 3, .var 4, .var 5, .var 6, .var 7, .var 8, .var 9, .var 10, .var 11, .var 12, .var 13, .var 14, .var 15, .var 16, .var 17, .var 18, .var 19, .var 20, .var 21, .var 22, .var 23, .var 24, .var 25, .var 26], .agg [.var 27, .var 28, .var 29, .var 30, .var 31, .var 32, .var 33, .var 34, .var 35]] [.agg 9] <|
 .call F.rat_Div [.agg [.var 36, .var 37, .var 38], .agg [.var 42, .var 43, .var 44]] [.agg 3, .one] <|
 .call F.rat_Div [.agg [.var 39, .var 40, .var 41], .agg [.var 42, .var 43, .var 44]] [.agg 3, .one] <|
 .ret [.agg [.var 45, .var 46, .var 47], .agg [.var 49, .var 50, .var 51], .agg [.var 42, .var 43, .var 44], .one (.var 48)]

def ir_warp_one : IR :=
 .call F.rat_Of [.one (.int .i64 (1)), .one (.int .i64 (1))] [.agg 3] <|
 .ret [.agg [.var 0, .var 1, .var 2]]

def ir_warp_over : IR :=
 .call F.rat_Div [.agg [.var 0, .var 1, .var 2], .agg [.var 3, .var 4, .var 5]] [.agg 3, .one] <|
 .ret [.agg [.var 6, .var 7, .var 8]]

def ir_warp_Density : IR :=
 .call F.warp_one [] [.agg 3] <|
 .call F.rat_Abs [.agg [.var 0, .var 1, .var 2]] [.agg 3] <|
 .prim (.mk 2) [.var 3, .var 4, .var 5, .var 6, .var 7, .var 8] <|
 .call F.rat_Sum [.one (.var 9)] [.agg 3] <|
 .call F.rat_Of [.one (.int .i64 (1)), .one (.int .i64 (2))] [.agg 3] <|
 .prim (.mk 2) [.var 10, .var 11, .var 12, .var 10, .var 11, .var 12] <|
 .call F.rat_Product [.one (.var 16)] [.agg 3] <|
 .call F.warp_over [.agg [.var 13, .var 14, .var 15], .agg [.var 17, .var 18, .var 19]] [.agg 3] <|
 .ret [.agg [.var 20, .var 21, .var 22]]

def ir_dens_over : IR :=
 .call F.rat_Div [.agg [.var 0, .var 1, .var 2], .agg [.var 3, .var 4, .var 5]] [.agg 3, .one] <|
 .ret [.agg [.var 6, .var 7, .var 8]]

def ir_dens_cube : IR :=
 .prim (.mk 3) [.var 0, .var 1, .var 2, .var 0, .var 1, .var 2, .var 0, .var 1, .var 2] <|
 .call F.rat_Product [.one (.var 3)] [.agg 3] <|
 .ret [.agg [.var 4, .var 5, .var 6]]

def ir_dens_seen : IR :=
 .call F.frame_Of [.agg [.var 9, .var 10, .var 11, .var 12, .var 13, .var 14, .var 15, .var 16, .var 17]] [.agg 27, .one] <|
 .prim .not [.var 99] <|
 .ite (.var 100) (
  .ret [.agg [.bol false, .nil, .nil, .bol false, .nil, .nil, .bol false, .nil, .nil, .bol false, .nil, .nil, .bol false, .nil, .nil, .bol false, .nil, .nil, .bol false, .nil, .nil, .bol false, .nil, .nil, .bol false, .nil, .nil, .bol false, .nil, .nil, .bol false, .nil, .nil, .bol false, .nil, .nil, .bol false, .nil, .nil, .bol false, .nil, .nil], .one (.bol false)]) (
  .call F.vec_Dot [.agg [.var 27, .var 28, .var 29, .var 30, .var 31, .var 32, .var 33, .var 34, .var 35], .agg [.var 27, .var 28, .var 29, .var 30, .var 31, .var 32, .var 33, .var 34, .var 35]] [.agg 3] <|
  .call F.rat_Of [.one (.int .i64 (1)), .one (.int .i64 (1))] [.agg 3] <|
  .call F.rat_Same [.agg [.var 101, .var 102, .var 103], .agg [.var 104, .var 105, .var 106]] [.one] <|
  .prim .not [.var 107] <|
  .ite (.var 108) (
   .ret [.agg [.bol false, .nil, .nil, .bol false, .nil, .nil, .bol false, .nil, .nil, .bol false, .nil, .nil, .bol false, .nil, .nil, .bol false, .nil, .nil, .bol false, .nil, .nil, .bol false, .nil, .nil, .bol false, .nil, .nil, .bol false, .nil, .nil, .bol false, .nil, .nil, .bol false, .nil, .nil, .bol false, .nil, .nil, .bol false, .nil, .nil], .one (.bol false)]) (
   .call F.affine_Apply [.agg [.var 36, .var 37, .var 38, .var 39, .var 40, .var 41, .var 42, .var 43, .var 44, .var 45, .var 46, .var 47, .var 48, .var 49, .var 50, .var 51, .var 52, .var 53, .var 54, .var 55, .var 56, .var 57, .var 58, .var 59, .var 60, .var 61, .var 62, .var 63, .var 64, .var 65, .var 66, .var 67, .var 68, .var 69, .var 70, .var 71], .agg [.var 18, .var 19, .var 20, .var 21, .var 22, .var 23, .var 24, .var 25, .var 26]] [.agg 9] <|
   .call F.vec_Sub [.agg [.var 109, .var 110, .var 111, .var 112, .var 113, .var 114, .var 115, .var 116, .var 117], .agg [.var 0, .var 1, .var 2, .var 3, .var 4, .var 5, .var 6, .var 7, .var 8]] [.agg 9] <|
   .call F.vec_Dot [.agg [.var 118, .var 119, .var 120, .var 121, .var 122, .var 123, .var 124, .var 125, .var 126], .agg [.var 9, .var 10, .var 11, .var 12, .var 13, .var 14, .var 15, .var 16, .var 17]] [.agg 3] <|
   .call F.affine_Area [.agg [.var 36, .var 37, .var 38, .var 39, .var 40, .var 41, .var 42, .var 43, .var 44, .var 45, .var 46, .var 47, .var 48, .var 49, .var 50, .var 51, .var 52, .var 53, .var 54, .var 55, .var 56, .var 57, .var 58, .var 59, .var 60, .var 61, .var 62, .var 63, .var 64, .var 65, .var 66, .var 67, .var 68, .var 69, .var 70, .var 71], .agg [.var 27, .var 28, .var 29, .var 30, .var 31, .var 32, .var 33, .var 34, .var 35]] [.agg 9] <|
   .call F.vec_Dot [.agg [.var 130, .var 131, .var 132, .var 133, .var 134, .var 135, .var 136, .var 137, .var 138], .agg [.var 118, .var 119, .var 120, .var 121, .var 122, .var 123, .var 124, .var 125, .var 126]] [.agg 3] <|
   .call F.rat_Abs [.agg [.var 139, .var 140, .var 141]] [.agg 3] <|
   .call F.rat_Sign [.agg [.var 127, .var 128, .var 129]] [.one] <|
   .prim (.bin .gtr) [.var 145, .int .i64 (0)] <|
   .ite (.var 146) (
    .call F.rat_Sign [.agg [.var 139, .var 140, .var 141]] [.one] <|
    .call F.affine_Det [.agg [.var 36, .var 37, .var 38, .var 39, .var 40, .var 41, .var 42, .var 43, .var 44, .var 45, .var 46, .var 47, .var 48, .var 49, .var 50, .var 51, .var 52, .var 53, .var 54, .var 55, .var 56, .var 57, .var 58, .var 59, .var 60, .var 61, .var 62, .var 63, .var 64, .var 65, .var 66, .var 67, .var 68, .var 69, .var 70, .var 71]] [.agg 3] <|
    .call F.rat_Sign [.agg [.var 148, .var 149, .var 150]] [.one] <|
    .prim (.bin .mul) [.var 147, .var 151] <|
    .prim (.bin .lss) [.var 152, .int .i64 (0)] <|
    .ret [.agg [.var 72, .var 73, .var 74, .var 75, .var 76, .var 77, .var 78, .var 79, .var 80, .var 81, .var 82, .var 83, .var 84, .var 85, .var 86, .var 87, .var 88, .var 89, .var 90, .var 91, .var 92, .var 93, .var 94, .var 95, .var 96, .var 97, .var 98, .var 118, .var 119, .var 120, .var 121, .var 122, .var 123, .var 124, .var 125, .var 126, .var 127, .var 128, .var 129, .var 142, .var 143, .var 144], .one (.var 153)]) (
    .ret [.agg [.var 72, .var 73, .var 74, .var 75, .var 76, .var 77, .var 78, .var 79, .var 80, .var 81, .var 82, .var 83, .var 84, .var 85, .var 86, .var 87, .var 88, .var 89, .var 90, .var 91, .var 92, .var 93, .var 94, .var 95, .var 96, .var 97, .var 98, .var 118, .var 119, .var 120, .var 121, .var 122, .var 123, .var 124, .var 125, .var 126, .var 127, .var 128, .var 129, .var 142, .var 143, .var 144], .one (.bol false)])))

def ir_dens_Ahead : IR :=
 .call F.dens_seen [.agg [.var 0, .var 1, .var 2, .var 3, .var 4, .var 5, .var 6, .var 7, .var 8, .var 9, .var 10, .var 11, .var 12, .var 13, .var 14, .var 15, .var 16, .var 17], .agg [.var 18, .var 19, .var 20, .var 21, .var 22, .var 23, .var 24, .var 25, .var 26, .var 27, .var 28, .var 29, .var 30, .var 31, .var 32, .var 33, .var 34, .var 35], .agg [.var 36, .var 37, .var 38, .var 39, .var 40, .var 41, .var 42, .var 43, .var 44, .var 45, .var 46, .var 47, .var 48, .var 49, .var 50, .var 51, .var 52, .var 53, .var 54, .var 55, .var 56, .var 57, .var 58, .var 59, .var 60, .var 61, .var 62, .var 63, .var 64, .var 65, .var 66, .var 67, .var 68, .var 69, .var 70, .var 71]] [.agg 42, .one] <|
 .prim .not [.var 114] <|
 .ite (.var 115) (
  .call F.rat_Of [.one (.int .i64 (0)), .one (.int .i64 (1))] [.agg 3] <|
  .ret [.agg [.var 116, .var 117, .var 118]]) (
  .call F.frame_Slopes [.agg [.var 72, .var 73, .var 74, .var 75, .var 76, .var 77, .var 78, .var 79, .var 80, .var 81, .var 82, .var 83, .var 84, .var 85, .var 86, .var 87, .var 88, .var 89, .var 90, .var 91, .var 92, .var 93, .var 94, .var 95, .var 96, .var 97, .var 98], .agg [.var 99, .var 100, .var 101, .var 102, .var 103, .var 104, .var 105, .var 106, .var 107]] [.agg 3, .agg 3, .agg 3, .one] <|
  .call F.warp_Density [.agg [.var 116, .var 117, .var 118]] [.agg 3] <|
  .call F.warp_Density [.agg [.var 119, .var 120, .var 121]] [.agg 3] <|
  .prim (.mk 3) [.var 126, .var 127, .var 128, .var 129, .var 130, .var 131, .var 111, .var 112, .var 113] <|
  .call F.rat_Product [.one (.var 132)] [.agg 3] <|
  .call F.dens_cube [.agg [.var 108, .var 109, .var 110]] [.agg 3] <|
  .call F.dens_over [.agg [.var 133, .var 134, .var 135], .agg [.var 136, .var 137, .var 138]] [.agg 3] <|
  .ret [.agg [.var 139, .var 140, .var 141]])

theorem tree_vec_Dot : symFunc Go.Proofs.Tryz.prog H0 400 F.vec_Dot [.agg 9, .agg 9] = some ir_vec_Dot := by kernel_rfl
theorem tree_vec_Sub : symFunc Go.Proofs.Tryz.prog H0 400 F.vec_Sub [.agg 9, .agg 9] = some ir_vec_Sub := by kernel_rfl
theorem tree_vec_Scale : symFunc Go.Proofs.Tryz.prog H0 400 F.vec_Scale [.agg 3, .agg 9] = some ir_vec_Scale := by kernel_rfl
theorem tree_vec_minor : symFunc Go.Proofs.Tryz.prog H0 400 F.vec_minor [.agg 3, .agg 3, .agg 3, .agg 3] = some ir_vec_minor := by kernel_rfl
theorem tree_vec_Cross : symFunc Go.Proofs.Tryz.prog H0 400 F.vec_Cross [.agg 9, .agg 9] = some ir_vec_Cross := by kernel_rfl
theorem tree_vec_Read : symFunc Go.Proofs.Tryz.prog H0 400 F.vec_Read [.agg 9] = some ir_vec_Read := by kernel_rfl
theorem tree_affine_Identity : symFunc Go.Proofs.Tryz.prog H0 400 F.affine_Identity [] = some ir_affine_Identity := by kernel_rfl
theorem tree_affine_Turn : symFunc Go.Proofs.Tryz.prog H0 400 F.affine_Turn [.agg 36, .agg 9] = some ir_affine_Turn := by kernel_rfl
theorem tree_affine_Apply : symFunc Go.Proofs.Tryz.prog H0 400 F.affine_Apply [.agg 36, .agg 9] = some ir_affine_Apply := by kernel_rfl
theorem tree_affine_cofactors : symFunc Go.Proofs.Tryz.prog H0 400 F.affine_cofactors [.agg 36] = some ir_affine_cofactors := by kernel_rfl
theorem tree_affine_Area : symFunc Go.Proofs.Tryz.prog H0 400 F.affine_Area [.agg 36, .agg 9] = some ir_affine_Area := by kernel_rfl
theorem tree_affine_Det : symFunc Go.Proofs.Tryz.prog H0 400 F.affine_Det [.agg 36] = some ir_affine_Det := by kernel_rfl
theorem tree_frame_Of : symFunc Go.Proofs.Tryz.prog H0 400 F.frame_Of [.agg 9] = some ir_frame_Of := by kernel_rfl
theorem tree_frame_In : symFunc Go.Proofs.Tryz.prog H0 400 F.frame_In [.agg 27, .agg 9] = some ir_frame_In := by kernel_rfl
theorem tree_frame_Slopes : symFunc Go.Proofs.Tryz.prog H0 400 F.frame_Slopes [.agg 27, .agg 9] = some ir_frame_Slopes := by kernel_rfl
theorem tree_warp_one : symFunc Go.Proofs.Tryz.prog H0 400 F.warp_one [] = some ir_warp_one := by kernel_rfl
theorem tree_warp_over : symFunc Go.Proofs.Tryz.prog H0 400 F.warp_over [.agg 3, .agg 3] = some ir_warp_over := by kernel_rfl
theorem tree_warp_Density : symFunc Go.Proofs.Tryz.prog H0 400 F.warp_Density [.agg 3] = some ir_warp_Density := by kernel_rfl
theorem tree_dens_over : symFunc Go.Proofs.Tryz.prog H0 400 F.dens_over [.agg 3, .agg 3] = some ir_dens_over := by kernel_rfl
theorem tree_dens_cube : symFunc Go.Proofs.Tryz.prog H0 400 F.dens_cube [.agg 3] = some ir_dens_cube := by kernel_rfl
theorem tree_dens_seen : symFunc Go.Proofs.Tryz.prog H0 400 F.dens_seen [.agg 18, .agg 18, .agg 36] = some ir_dens_seen := by kernel_rfl
theorem tree_dens_Ahead : symFunc Go.Proofs.Tryz.prog H0 400 F.dens_Ahead [.agg 18, .agg 18, .agg 36] = some ir_dens_Ahead := by kernel_rfl
end Go.Px
namespace Go.Px.Na
open Go.RowKit
open Go.Proofs.Tryz (prog)
section
variable {L M : Nat} {r s : RR} {x y : Rat}
theorem f_vec_Dot {a b : RV} {u v : V3} (h : NV L a u) (g : NV M b v) (hl : L ≤ 60000000000 ∧ M ≤ 60000000000) : PureCalls prog F.vec_Dot [.agg (gW a.l), .agg (gW b.l)] [.agg (gD [u.dot v])] := by
  replace h := h.mono hl.1
  replace g := g.mono hl.2
  refine symFunc_sound hmix tree_vec_Dot (by kernel_rfl) rfl ?_
  unfold ir_vec_Dot
  simp only [JJ]
  refine primS (rlN2 h.x g.x) rfl ?_
  refine cs1 (n_rat_Product_2 (h.x.mono (by decide)) (g.x.mono (by decide)) rfl) ?_
  simp only [JJ]
  have m1 := Num.of (Sm.mul h.x.sm g.x.sm)
  refine primS (rlN2 h.y g.y) rfl ?_
  refine cs1 (n_rat_Product_2 (h.y.mono (by decide)) (g.y.mono (by decide)) rfl) ?_
  simp only [JJ]
  have m2 := Num.of (Sm.mul h.y.sm g.y.sm)
  refine primS (rlN2 h.z g.z) rfl ?_
  refine cs1 (n_rat_Product_2 (h.z.mono (by decide)) (g.z.mono (by decide)) rfl) ?_
  simp only [JJ]
  have m3 := Num.of (Sm.mul h.z.sm g.z.sm)
  refine primS (rlN3 m1 m2 m3) rfl ?_
  refine cs1 (n_rat_Sum_3 (m1.mono (by decide)) (m2.mono (by decide)) (m3.mono (by decide)) rfl) ?_
  simp only [JJ]
  have m4 := Num.of (Sm.add (Sm.add m1.sm m2.sm) m3.sm)
  exact ret_step rfl
theorem f_vec_Sub {a b : RV} {u v : V3} (h : NV L a u) (g : NV M b v) (hl : L ≤ 60000000000 ∧ M ≤ 60000000000) : PureCalls prog F.vec_Sub [.agg (gW a.l), .agg (gW b.l)] [.agg (gD [(u.sub v).x, (u.sub v).y, (u.sub v).z])] := by
  replace h := h.mono hl.1
  replace g := g.mono hl.2
  refine symFunc_sound hmix tree_vec_Sub (by kernel_rfl) rfl ?_
  unfold ir_vec_Sub
  simp only [JJ]
  refine call_step (f_rat_Sub h.x g.x (by decide)) rfl ?_
  simp only [JJ]
  have m1 := Num.of (Sm.sub h.x.sm g.x.sm)
  refine call_step (f_rat_Sub h.y g.y (by decide)) rfl ?_
  simp only [JJ]
  have m2 := Num.of (Sm.sub h.y.sm g.y.sm)
  refine call_step (f_rat_Sub h.z g.z (by decide)) rfl ?_
  simp only [JJ]
  have m3 := Num.of (Sm.sub h.z.sm g.z.sm)
  exact ret_step rfl
theorem f_vec_Scale {a : RR} {b : RV} {u : Rat} {v : V3} (h : Num L a u) (g : NV M b v) (hl : L ≤ 60000000000 ∧ M ≤ 60000000000) : PureCalls prog F.vec_Scale [.agg (gW [a]), .agg (gW b.l)] [.agg (gD [(V3.smul u v).x, (V3.smul u v).y, (V3.smul u v).z])] := by
  replace h := h.mono hl.1
  replace g := g.mono hl.2
  refine symFunc_sound hmix tree_vec_Scale (by kernel_rfl) rfl ?_
  unfold ir_vec_Scale
  simp only [JJ]
  refine primS (rlN2 h g.x) rfl ?_
  refine cs1 (n_rat_Product_2 (h.mono (by decide)) (g.x.mono (by decide)) rfl) ?_
  simp only [JJ]
  have m1 := Num.of (Sm.mul h.sm g.x.sm)
  refine primS (rlN2 h g.y) rfl ?_
  refine cs1 (n_rat_Product_2 (h.mono (by decide)) (g.y.mono (by decide)) rfl) ?_
  simp only [JJ]
  have m2 := Num.of (Sm.mul h.sm g.y.sm)
  refine primS (rlN2 h g.z) rfl ?_
  refine cs1 (n_rat_Product_2 (h.mono (by decide)) (g.z.mono (by decide)) rfl) ?_
  simp only [JJ]
  have m3 := Num.of (Sm.mul h.sm g.z.sm)
  exact ret_step rfl
theorem f_vec_minor {L0 L1 L2 L3 : Nat} {r0 r1 r2 r3 : RR} {x0 x1 x2 x3 : Rat} (h0 : Num L0 r0 x0) (h1 : Num L1 r1 x1) (h2 : Num L2 r2 x2) (h3 : Num L3 r3 x3) (hl : L0 ≤ 20000000000 ∧ L1 ≤ 20000000000 ∧ L2 ≤ 20000000000 ∧ L3 ≤ 20000000000) : PureCalls prog F.vec_minor [.agg (gW [r0]), .agg (gW [r1]), .agg (gW [r2]), .agg (gW [r3])] [.agg (gD [x0 * x3 - x1 * x2])] := by
  replace h0 := h0.mono hl.1
  replace h1 := h1.mono hl.2.1
  replace h2 := h2.mono hl.2.2.1
  replace h3 := h3.mono hl.2.2.2
  refine symFunc_sound hmix tree_vec_minor (by kernel_rfl) rfl ?_
  unfold ir_vec_minor
  simp only [JJ]
  refine primS (rlN2 h0 h3) rfl ?_
  refine cs1 (n_rat_Product_2 (h0.mono (by decide)) (h3.mono (by decide)) rfl) ?_
  simp only [JJ]
  have m1 := Num.of (Sm.mul h0.sm h3.sm)
  refine primS (rlN2 h1 h2) rfl ?_
  refine cs1 (n_rat_Product_2 (h1.mono (by decide)) (h2.mono (by decide)) rfl) ?_
  simp only [JJ]
  have m2 := Num.of (Sm.mul h1.sm h2.sm)
  refine call_step (f_rat_Sub m1 m2 (by decide)) rfl ?_
  simp only [JJ]
  have m3 := Num.of (Sm.sub m1.sm m2.sm)
  exact ret_step rfl
theorem f_vec_Cross {a b : RV} {u v : V3} (h : NV L a u) (g : NV M b v) (hl : L ≤ 20000000000 ∧ M ≤ 20000000000) : PureCalls prog F.vec_Cross [.agg (gW a.l), .agg (gW b.l)] [.agg (gD [(u.cross v).x, (u.cross v).y, (u.cross v).z])] := by
  replace h := h.mono hl.1
  replace g := g.mono hl.2
  refine symFunc_sound hmix tree_vec_Cross (by kernel_rfl) rfl ?_
  unfold ir_vec_Cross
  simp only [JJ]
  refine call_step (f_vec_minor h.y h.z g.y g.z (by decide)) rfl ?_
  simp only [JJ]
  have m1 := Num.of ((Sm.mul h.y.sm g.z.sm).sub (Sm.mul h.z.sm g.y.sm))
  refine call_step (f_vec_minor h.z h.x g.z g.x (by decide)) rfl ?_
  simp only [JJ]
  have m2 := Num.of ((Sm.mul h.z.sm g.x.sm).sub (Sm.mul h.x.sm g.z.sm))
  refine call_step (f_vec_minor h.x h.y g.x g.y (by decide)) rfl ?_
  simp only [JJ]
  have m3 := Num.of ((Sm.mul h.x.sm g.y.sm).sub (Sm.mul h.y.sm g.x.sm))
  exact ret_step rfl
theorem f_vec_Read {a : RV} {u : V3} (h : NV L a u) (hl : L ≤ LL) : PureCalls prog F.vec_Read [.agg (gW a.l)] [.agg (gD [u.x, u.y, u.z])] := by
  replace h := h.mono hl
  refine symFunc_sound hmix tree_vec_Read (by kernel_rfl) rfl ?_
  unfold ir_vec_Read
  simp only [JJ]
  refine call_step (f_rat_Read h.x (by decide)) rfl ?_
  simp only [JJ]
  have m1 := Num.of (h.x.sm)
  refine call_step (f_rat_Read h.y (by decide)) rfl ?_
  simp only [JJ]
  have m2 := Num.of (h.y.sm)
  refine call_step (f_rat_Read h.z (by decide)) rfl ?_
  simp only [JJ]
  have m3 := Num.of (h.z.sm)
  exact ret_step rfl
theorem f_affine_Identity : PureCalls prog F.affine_Identity [] [.agg (gD idm.l)] := by
  refine symFunc_sound hmix tree_affine_Identity (by kernel_rfl) rfl ?_
  unfold ir_affine_Identity
  simp only [JJ]
  refine cs3 (n_vec_Of (o0 := 1) (o1 := 0) (o2 := 0) (1) (0) (0) (by decide) (by decide) (by decide) (by decide) (by decide) (by decide) (by decide +kernel) (by decide +kernel) (by decide +kernel)) ?_
  simp only [JJ]
  have m1 := NV.of Se1
  refine cs3 (n_vec_Of (o0 := 0) (o1 := 1) (o2 := 0) (0) (1) (0) (by decide) (by decide) (by decide) (by decide) (by decide) (by decide) (by decide +kernel) (by decide +kernel) (by decide +kernel)) ?_
  simp only [JJ]
  have m2 := NV.of Se2
  refine cs3 (n_vec_Of (o0 := 0) (o1 := 0) (o2 := 1) (0) (0) (1) (by decide) (by decide) (by decide) (by decide) (by decide) (by decide) (by decide +kernel) (by decide +kernel) (by decide +kernel)) ?_
  simp only [JJ]
  have m3 := NV.of Se3
  refine cs3 (n_vec_Of (o0 := 0) (o1 := 0) (o2 := 0) (0) (0) (0) (by decide) (by decide) (by decide) (by decide) (by decide) (by decide) (by decide +kernel) (by decide +kernel) (by decide +kernel)) ?_
  simp only [JJ]
  have m4 := NV.of So3
  exact ret_step rfl
theorem f_affine_Turn {m : RM} {a : RV} {u : M4} {v : V3} (h : NM L m u) (g : NV M a v) (hl : L ≤ 60000000000 ∧ M ≤ 60000000000) : PureCalls prog F.affine_Turn [.agg (gW m.l), .agg (gW a.l)] [.agg (gD [(u.turn v).x, (u.turn v).y, (u.turn v).z])] := by
  replace h := h.mono hl.1
  replace g := g.mono hl.2
  refine symFunc_sound hmix tree_affine_Turn (by kernel_rfl) rfl ?_
  unfold ir_affine_Turn
  simp only [JJ]
  refine call_step (f_vec_Dot h.X g (by decide)) rfl ?_
  simp only [JJ]
  have m1 := Num.of (SV.dot h.X.sm g.sm)
  refine call_step (f_vec_Dot h.Y g (by decide)) rfl ?_
  simp only [JJ]
  have m2 := Num.of (SV.dot h.Y.sm g.sm)
  refine call_step (f_vec_Dot h.Z g (by decide)) rfl ?_
  simp only [JJ]
  have m3 := Num.of (SV.dot h.Z.sm g.sm)
  exact ret_step rfl
theorem f_affine_Apply {m : RM} {a : RV} {u : M4} {v : V3} (h : NM L m u) (g : NV M a v) (hl : L ≤ 1000000000 ∧ M ≤ 1000000000) : PureCalls prog F.affine_Apply [.agg (gW m.l), .agg (gW a.l)] [.agg (gD [(u.app v).x, (u.app v).y, (u.app v).z])] := by
  replace h := h.mono hl.1
  replace g := g.mono hl.2
  refine symFunc_sound hmix tree_affine_Apply (by kernel_rfl) rfl ?_
  unfold ir_affine_Apply
  simp only [JJ]
  refine call_step (f_affine_Turn h g (by decide)) rfl ?_
  simp only [JJ]
  have m1 := NV.of (SM.turn h.sm g.sm)
  refine primS (rlV2 m1 h.W) rfl ?_
  refine cs3 (f_vec_Sum_2 m1 h.W (by decide)) ?_
  simp only [JJ]
  have m2 := NV.of (SV.add m1.sm h.W.sm)
  exact ret_step rfl
/-- The rows by which areas are taken. -/
def M4.cof (m : M4) : Fr := ⟨m.Y.cross m.Z, m.Z.cross m.X, m.X.cross m.Y⟩
theorem SM.cof {m : M4} (h : SM L m) : SF (4 * L + 1) m.cof := ⟨(h.Y.cross h.Z).mono (by omega), (h.Z.cross h.X).mono (by omega), (h.X.cross h.Y).mono (by omega)⟩
theorem f_affine_cofactors {m : RM} {u : M4} (h : NM L m u) (hl : L ≤ 10000000000) : PureCalls prog F.affine_cofactors [.agg (gW m.l)] [.agg (gD u.cof.l)] := by
  replace h := h.mono hl
  refine symFunc_sound hmix tree_affine_cofactors (by kernel_rfl) rfl ?_
  unfold ir_affine_cofactors
  simp only [JJ]
  refine call_step (f_vec_Cross h.Y h.Z (by decide)) rfl ?_
  simp only [JJ]
  have m1 := NV.of (SV.cross h.Y.sm h.Z.sm)
  refine call_step (f_vec_Cross h.Z h.X (by decide)) rfl ?_
  simp only [JJ]
  have m2 := NV.of (SV.cross h.Z.sm h.X.sm)
  refine call_step (f_vec_Cross h.X h.Y (by decide)) rfl ?_
  simp only [JJ]
  have m3 := NV.of (SV.cross h.X.sm h.Y.sm)
  exact ret_step rfl
theorem f_affine_Area {m : RM} {a : RV} {u : M4} {v : V3} (h : NM L m u) (g : NV M a v) (hl : L ≤ 10000000000 ∧ M ≤ 10000000000) : PureCalls prog F.affine_Area [.agg (gW m.l), .agg (gW a.l)] [.agg (gD [(u.area v).x, (u.area v).y, (u.area v).z])] := by
  replace h := h.mono hl.1
  replace g := g.mono hl.2
  refine symFunc_sound hmix tree_affine_Area (by kernel_rfl) rfl ?_
  unfold ir_affine_Area
  simp only [JJ]
  refine call_step (f_affine_cofactors h (by decide)) rfl ?_
  simp only [JJ]
  have m1 := NF.of (SM.cof h.sm)
  refine call_step (f_vec_Dot m1.A g (by decide)) rfl ?_
  simp only [JJ]
  have m2 := Num.of (SV.dot m1.A.sm g.sm)
  refine call_step (f_vec_Dot m1.B g (by decide)) rfl ?_
  simp only [JJ]
  have m3 := Num.of (SV.dot m1.B.sm g.sm)
  refine call_step (f_vec_Dot m1.N g (by decide)) rfl ?_
  simp only [JJ]
  have m4 := Num.of (SV.dot m1.N.sm g.sm)
  exact ret_step rfl
theorem f_affine_Det {m : RM} {u : M4} (h : NM L m u) (hl : L ≤ 10000000000) : PureCalls prog F.affine_Det [.agg (gW m.l)] [.agg (gD [u.det])] := by
  replace h := h.mono hl
  refine symFunc_sound hmix tree_affine_Det (by kernel_rfl) rfl ?_
  unfold ir_affine_Det
  simp only [JJ]
  refine call_step (f_vec_Cross h.Y h.Z (by decide)) rfl ?_
  simp only [JJ]
  have m1 := NV.of (SV.cross h.Y.sm h.Z.sm)
  refine call_step (f_vec_Dot h.X m1 (by decide)) rfl ?_
  simp only [JJ]
  have m2 := Num.of (SV.dot h.X.sm m1.sm)
  exact ret_step rfl
theorem f_frame_Of_n {a : RV} {n : V3} (c : ¬n.dot n = 1) (h : NV L a n) (hl : L ≤ 1000000000) : PureCalls prog F.frame_Of [.agg (gW a.l)] [.agg (gD (⟨o3, o3, o3⟩ : Fr).l), .one (.bool false)] := by
  replace h := h.mono hl
  refine symFunc_sound hmix tree_frame_Of (by kernel_rfl) rfl ?_
  unfold ir_frame_Of
  simp only [JJ]
  refine cs3 (n_vec_Of (o0 := 1) (o1 := 0) (o2 := 0) (1) (0) (0) (by decide) (by decide) (by decide) (by decide) (by decide) (by decide) (by decide +kernel) (by decide +kernel) (by decide +kernel)) ?_
  simp only [JJ]
  have m1 := NV.of Se1
  refine cs3 (n_vec_Of (o0 := 0) (o1 := 1) (o2 := 0) (0) (1) (0) (by decide) (by decide) (by decide) (by decide) (by decide) (by decide) (by decide +kernel) (by decide +kernel) (by decide +kernel)) ?_
  simp only [JJ]
  have m2 := NV.of Se2
  refine cs3 (n_vec_Of (o0 := 0) (o1 := 0) (o2 := 1) (0) (0) (1) (by decide) (by decide) (by decide) (by decide) (by decide) (by decide) (by decide +kernel) (by decide +kernel) (by decide +kernel)) ?_
  simp only [JJ]
  have m3 := NV.of Se3
  refine cs3 (n_vec_Of (o0 := 0) (o1 := 0) (o2 := 0) (0) (0) (0) (by decide) (by decide) (by decide) (by decide) (by decide) (by decide) (by decide +kernel) (by decide +kernel) (by decide +kernel)) ?_
  simp only [JJ]
  have m4 := NV.of So3
  refine call_step (f_vec_Dot h h (by decide)) rfl ?_
  simp only [JJ]
  have m5 := Num.of (SV.dot h.sm h.sm)
  refine cs1 (n_rat_Of (k0 := (1)) (1) (1) (by decide) (by decide) (by decide) (by decide) (by decide +kernel)) ?_
  simp only [JJ]
  have m6 : Num 1 (cr (1)) (1) := Num.of Sm1
  refine call_step (f_rat_Same m5 m6 (by decide)) rfl ?_
  simp only [JJ]
  refine primS (.bool (!_)) rfl ?_
  refine itN rfl (fun i1 => ?_) (fun i1 => ?_)
  · first | exact absurd ‹n.dot n = 1› c | exact ret_step rfl
  · refine call_step (f_vec_Sub m3 h (by decide)) rfl ?_
    simp only [JJ]
    have m7 := NV.of (SV.sub m3.sm h.sm)
    refine cs1 (n_rat_Of (k0 := (-2)) (-2) (1) (by decide) (by decide) (by decide) (by decide) (by decide +kernel)) ?_
    simp only [JJ]
    have m8 : Num 1 (cr (-2)) (-2) := Num.of Smm2
    refine call_step (f_vec_Dot m7 m7 (by decide)) rfl ?_
    simp only [JJ]
    have m9 := Num.of (SV.dot m7.sm m7.sm)
    refine call_step (f_rat_Div m8 m9 (by decide)) rfl ?_
    simp only [JJ]
    have m10 := Num.of (Sm.div m8.sm m9.sm)
    refine primS (.bool (!_)) rfl ?_
    refine itN rfl (fun i2 => ?_) (fun i2 => ?_)
    · first | exact absurd ‹n.dot n = 1› c | exact ret_step rfl
    · refine primS (rlN2 m10 m7.x) rfl ?_
      refine cs1 (n_rat_Product_2 (m10.mono (by decide)) (m7.x.mono (by decide)) rfl) ?_
      simp only [JJ]
      have m11 := Num.of (Sm.mul m10.sm m7.x.sm)
      refine call_step (f_vec_Scale m11 m7 (by decide)) rfl ?_
      simp only [JJ]
      have m12 := NV.of (SV.smul m11.sm m7.sm)
      refine primS (rlV2 m1 m12) rfl ?_
      refine cs3 (f_vec_Sum_2 m1 m12 (by decide)) ?_
      simp only [JJ]
      have m13 := NV.of (SV.add m1.sm m12.sm)
      refine primS (rlN2 m10 m7.y) rfl ?_
      refine cs1 (n_rat_Product_2 (m10.mono (by decide)) (m7.y.mono (by decide)) rfl) ?_
      simp only [JJ]
      have m14 := Num.of (Sm.mul m10.sm m7.y.sm)
      refine call_step (f_vec_Scale m14 m7 (by decide)) rfl ?_
      simp only [JJ]
      have m15 := NV.of (SV.smul m14.sm m7.sm)
      refine primS (rlV2 m2 m15) rfl ?_
      refine cs3 (f_vec_Sum_2 m2 m15 (by decide)) ?_
      simp only [JJ]
      have m16 := NV.of (SV.add m2.sm m15.sm)
      refine call_step (f_vec_Read h (by decide)) rfl ?_
      simp only [JJ]
      have m17 := NV.of (h.sm)
      first | exact absurd ‹n.dot n = 1› c | exact ret_step rfl
theorem frm_z {n : V3} (hq : (fw n).dot (fw n) = 0) : frm n = ⟨e1, e2, e3⟩ := by
  have hx : (fw n).x = 0 := sq3_0 rfl hq
  have hy : (fw n).y = 0 := sq3_1 rfl hq
  have hz : (fw n).z = 0 := sq3_2 rfl hq
  have h3 : n = e3 := by
    cases n
    simp only [fw, V3.sub] at hx hy hz
    congr 1 <;> grind
  subst h3
  unfold frm
  have : V3.smul (fk e3 * (fw e3).x) (fw e3) = o3 := by rw [hx]; simp [V3.smul]
  rw [this]
  have : V3.smul (fk e3 * (fw e3).y) (fw e3) = o3 := by rw [hy]; simp [V3.smul]
  rw [this]
  simp [V3.add]
  decide +kernel
theorem f_frame_Of_t {a : RV} {n : V3} (c : n.dot n = 1) (h : NV L a n) (hl : L ≤ 1000000000) : PureCalls prog F.frame_Of [.agg (gW a.l)] [.agg (gD (frm n).l), .one (.bool true)] := by
  replace h := h.mono hl
  refine symFunc_sound hmix tree_frame_Of (by kernel_rfl) rfl ?_
  unfold ir_frame_Of
  simp only [JJ]
  refine cs3 (n_vec_Of (o0 := 1) (o1 := 0) (o2 := 0) (1) (0) (0) (by decide) (by decide) (by decide) (by decide) (by decide) (by decide) (by decide +kernel) (by decide +kernel) (by decide +kernel)) ?_
  simp only [JJ]
  have m1 := NV.of Se1
  refine cs3 (n_vec_Of (o0 := 0) (o1 := 1) (o2 := 0) (0) (1) (0) (by decide) (by decide) (by decide) (by decide) (by decide) (by decide) (by decide +kernel) (by decide +kernel) (by decide +kernel)) ?_
  simp only [JJ]
  have m2 := NV.of Se2
  refine cs3 (n_vec_Of (o0 := 0) (o1 := 0) (o2 := 1) (0) (0) (1) (by decide) (by decide) (by decide) (by decide) (by decide) (by decide) (by decide +kernel) (by decide +kernel) (by decide +kernel)) ?_
  simp only [JJ]
  have m3 := NV.of Se3
  refine cs3 (n_vec_Of (o0 := 0) (o1 := 0) (o2 := 0) (0) (0) (0) (by decide) (by decide) (by decide) (by decide) (by decide) (by decide) (by decide +kernel) (by decide +kernel) (by decide +kernel)) ?_
  simp only [JJ]
  have m4 := NV.of So3
  refine call_step (f_vec_Dot h h (by decide)) rfl ?_
  simp only [JJ]
  have m5 := Num.of (SV.dot h.sm h.sm)
  refine cs1 (n_rat_Of (k0 := (1)) (1) (1) (by decide) (by decide) (by decide) (by decide) (by decide +kernel)) ?_
  simp only [JJ]
  have m6 : Num 1 (cr (1)) (1) := Num.of Sm1
  refine call_step (f_rat_Same m5 m6 (by decide)) rfl ?_
  simp only [JJ]
  refine primS (.bool (!_)) rfl ?_
  refine itN rfl (fun i1 => ?_) (fun i1 => ?_)
  · first | exact absurd c ‹¬n.dot n = 1› | exact ret_step rfl | (have z := frm_z (Classical.not_not.1 ‹¬¬_›); exact ret_step (by rw [z]; rfl))
  · refine call_step (f_vec_Sub m3 h (by decide)) rfl ?_
    simp only [JJ]
    have m7 := NV.of (SV.sub m3.sm h.sm)
    refine cs1 (n_rat_Of (k0 := (-2)) (-2) (1) (by decide) (by decide) (by decide) (by decide) (by decide +kernel)) ?_
    simp only [JJ]
    have m8 : Num 1 (cr (-2)) (-2) := Num.of Smm2
    refine call_step (f_vec_Dot m7 m7 (by decide)) rfl ?_
    simp only [JJ]
    have m9 := Num.of (SV.dot m7.sm m7.sm)
    refine call_step (f_rat_Div m8 m9 (by decide)) rfl ?_
    simp only [JJ]
    have m10 := Num.of (Sm.div m8.sm m9.sm)
    refine primS (.bool (!_)) rfl ?_
    refine itN rfl (fun i2 => ?_) (fun i2 => ?_)
    · first | exact absurd c ‹¬n.dot n = 1› | exact ret_step rfl | (have z := frm_z (Classical.not_not.1 ‹¬¬_›); exact ret_step (by rw [z]; rfl))
    · refine primS (rlN2 m10 m7.x) rfl ?_
      refine cs1 (n_rat_Product_2 (m10.mono (by decide)) (m7.x.mono (by decide)) rfl) ?_
      simp only [JJ]
      have m11 := Num.of (Sm.mul m10.sm m7.x.sm)
      refine call_step (f_vec_Scale m11 m7 (by decide)) rfl ?_
      simp only [JJ]
      have m12 := NV.of (SV.smul m11.sm m7.sm)
      refine primS (rlV2 m1 m12) rfl ?_
      refine cs3 (f_vec_Sum_2 m1 m12 (by decide)) ?_
      simp only [JJ]
      have m13 := NV.of (SV.add m1.sm m12.sm)
      refine primS (rlN2 m10 m7.y) rfl ?_
      refine cs1 (n_rat_Product_2 (m10.mono (by decide)) (m7.y.mono (by decide)) rfl) ?_
      simp only [JJ]
      have m14 := Num.of (Sm.mul m10.sm m7.y.sm)
      refine call_step (f_vec_Scale m14 m7 (by decide)) rfl ?_
      simp only [JJ]
      have m15 := NV.of (SV.smul m14.sm m7.sm)
      refine primS (rlV2 m2 m15) rfl ?_
      refine cs3 (f_vec_Sum_2 m2 m15 (by decide)) ?_
      simp only [JJ]
      have m16 := NV.of (SV.add m2.sm m15.sm)
      refine call_step (f_vec_Read h (by decide)) rfl ?_
      simp only [JJ]
      have m17 := NV.of (h.sm)
      first | exact absurd c ‹¬n.dot n = 1› | exact ret_step rfl | (have z := frm_z (Classical.not_not.1 ‹¬¬_›); exact ret_step (by rw [z]; rfl))
def inn (u : Fr) (v : V3) : V3 := ⟨v.dot u.A, v.dot u.B, v.dot u.N⟩
theorem SF.in_ {u : Fr} {v : V3} (h : SF L u) (g : SV M v) : SV (3 * (M + L) + 2) (inn u v) := ⟨g.dot h.A, g.dot h.B, g.dot h.N⟩
theorem f_frame_In {f : RF} {a : RV} {u : Fr} {v : V3} (h : NF L f u) (g : NV M a v) (hl : L ≤ 60000000000 ∧ M ≤ 60000000000) : PureCalls prog F.frame_In [.agg (gW f.l), .agg (gW a.l)] [.agg (gD [v.dot u.A, v.dot u.B, v.dot u.N])] := by
  replace h := h.mono hl.1
  replace g := g.mono hl.2
  refine symFunc_sound hmix tree_frame_In (by kernel_rfl) rfl ?_
  unfold ir_frame_In
  simp only [JJ]
  refine call_step (f_vec_Dot g h.A (by decide)) rfl ?_
  simp only [JJ]
  have m1 := Num.of (SV.dot g.sm h.A.sm)
  refine call_step (f_vec_Dot g h.B (by decide)) rfl ?_
  simp only [JJ]
  have m2 := Num.of (SV.dot g.sm h.B.sm)
  refine call_step (f_vec_Dot g h.N (by decide)) rfl ?_
  simp only [JJ]
  have m3 := Num.of (SV.dot g.sm h.N.sm)
  exact ret_step rfl
theorem SF.slA {u : Fr} {v : V3} (h : SF L u) (g : SV M v) : Sm (3 * (M + L) + 2 + (3 * (M + L) + 2)) (v.dot u.A / v.dot u.N) := (g.dot h.A).div (g.dot h.N)
theorem SF.slB {u : Fr} {v : V3} (h : SF L u) (g : SV M v) : Sm (3 * (M + L) + 2 + (3 * (M + L) + 2)) (v.dot u.B / v.dot u.N) := (g.dot h.B).div (g.dot h.N)
theorem f_frame_Slopes {f : RF} {a : RV} {u : Fr} {v : V3} (h : NF L f u) (g : NV M a v) (hl : L ≤ 10000000000 ∧ M ≤ 10000000000) : PureCalls prog F.frame_Slopes [.agg (gW f.l), .agg (gW a.l)] [.agg (gD [v.dot u.A / v.dot u.N]), .agg (gD [v.dot u.B / v.dot u.N]), .agg (gD [v.dot u.N]), .one (.bool (decide (¬v.dot u.N = 0)))] := by
  replace h := h.mono hl.1
  replace g := g.mono hl.2
  refine symFunc_sound hmix tree_frame_Slopes (by kernel_rfl) rfl ?_
  unfold ir_frame_Slopes
  simp only [JJ]
  refine call_step (f_frame_In h g (by decide)) rfl ?_
  simp only [JJ]
  have m1 := NV.of (SF.in_ h.sm g.sm)
  refine call_step (f_rat_Div m1.x m1.z (by decide)) rfl ?_
  simp only [JJ]
  have m2 := Num.of (Sm.div m1.x.sm m1.z.sm)
  refine call_step (f_rat_Div m1.y m1.z (by decide)) rfl ?_
  simp only [JJ]
  have m3 := Num.of (Sm.div m1.y.sm m1.z.sm)
  exact ret_step rfl
theorem f_warp_one : PureCalls prog F.warp_one [] [.agg (gD [1])] := by
  refine symFunc_sound hmix tree_warp_one (by kernel_rfl) rfl ?_
  unfold ir_warp_one
  simp only [JJ]
  refine cs1 (n_rat_Of (k0 := (1)) (1) (1) (by decide) (by decide) (by decide) (by decide) (by decide +kernel)) ?_
  simp only [JJ]
  have m1 : Num 1 (cr (1)) (1) := Num.of Sm1
  exact ret_step rfl
theorem f_warp_over (h : Num L r x) (g : Num M s y) (hl : L ≤ LL ∧ M ≤ LL) : PureCalls prog F.warp_over [.agg (gW [r]), .agg (gW [s])] [.agg (gD [x / y])] := by
  replace h := h.mono hl.1
  replace g := g.mono hl.2
  refine symFunc_sound hmix tree_warp_over (by kernel_rfl) rfl ?_
  unfold ir_warp_over
  simp only [JJ]
  refine call_step (f_rat_Div h g (by decide)) rfl ?_
  simp only [JJ]
  have m1 := Num.of (Sm.div h.sm g.sm)
  exact ret_step rfl
theorem f_dens_over (h : Num L r x) (g : Num M s y) (hl : L ≤ LL ∧ M ≤ LL) : PureCalls prog F.dens_over [.agg (gW [r]), .agg (gW [s])] [.agg (gD [x / y])] := by
  replace h := h.mono hl.1
  replace g := g.mono hl.2
  refine symFunc_sound hmix tree_dens_over (by kernel_rfl) rfl ?_
  unfold ir_dens_over
  simp only [JJ]
  refine call_step (f_rat_Div h g (by decide)) rfl ?_
  simp only [JJ]
  have m1 := Num.of (Sm.div h.sm g.sm)
  exact ret_step rfl
theorem f_warp_Density (h : Num L r x) (hl : L ≤ 20000000000) : PureCalls prog F.warp_Density [.agg (gW [r])] [.agg (gD [dns x])] := by
  replace h := h.mono hl
  refine symFunc_sound hmix tree_warp_Density (by kernel_rfl) rfl ?_
  unfold ir_warp_Density
  simp only [JJ]
  refine call_step (f_warp_one) rfl ?_
  simp only [JJ]
  have m1 := Num.of (Sm1)
  refine call_step (f_rat_Abs h (by decide)) rfl ?_
  simp only [JJ]
  have m2 := Num.of (Sm.abs h.sm)
  refine primS (rlN2 m1 m2) rfl ?_
  refine cs1 (n_rat_Sum_2 (m1.mono (by decide)) (m2.mono (by decide)) rfl) ?_
  simp only [JJ]
  have m3 := Num.of (Sm.add m1.sm m2.sm)
  refine cs1 (n_rat_Of (k0 := (1 / 2)) (1) (2) (by decide) (by decide) (by decide) (by decide) (by decide +kernel)) ?_
  simp only [JJ]
  have m4 : Num 1 (cr (1 / 2)) (1 / 2) := Num.of Smh
  refine primS (rlN2 m3 m3) rfl ?_
  refine cs1 (n_rat_Product_2 (m3.mono (by decide)) (m3.mono (by decide)) rfl) ?_
  simp only [JJ]
  have m5 := Num.of (Sm.mul m3.sm m3.sm)
  refine call_step (f_warp_over m4 m5 (by decide)) rfl ?_
  simp only [JJ]
  have m6 := Num.of (Sm.div m4.sm m5.sm)
  exact ret_step rfl
theorem f_dens_cube (h : Num L r x) (hl : L ≤ 60000000000) : PureCalls prog F.dens_cube [.agg (gW [r])] [.agg (gD [x * x * x])] := by
  replace h := h.mono hl
  refine symFunc_sound hmix tree_dens_cube (by kernel_rfl) rfl ?_
  unfold ir_dens_cube
  simp only [JJ]
  refine primS (rlN3 h h h) rfl ?_
  refine cs1 (n_rat_Product_3 (h.mono (by decide)) (h.mono (by decide)) (h.mono (by decide)) rfl) ?_
  simp only [JJ]
  have m1 := Num.of (Sm.mul (Sm.mul h.sm h.sm) h.sm)
  exact ret_step rfl
variable {L2 : Nat} {a b : RS} {m : RM} {p q : Sp} {u : M4}
/-- What is told of spots that are none. -/
abbrev nov : AV := .agg (gW [rz, rz, rz, rz, rz, rz, rz, rz, rz, rz, rz, rz, rz, rz])
theorem f_dens_seen_n (c : ¬units p q) (h : NS L a p) (g : NS M b q) (k : NM L2 m u) (hl : L ≤ 100000000 ∧ M ≤ 100000000 ∧ L2 ≤ 100000000) : PureCalls prog F.dens_seen [.agg (gW a.l), .agg (gW b.l), .agg (gW m.l)] [nov, .one (.bool false)] := by
  replace h := h.mono hl.1
  replace g := g.mono hl.2.1
  replace k := k.mono hl.2.2
  by_cases c1 : p.N.dot p.N = 1
  · refine symFunc_sound hmix tree_dens_seen (by kernel_rfl) rfl ?_
    unfold ir_dens_seen
    simp only [JJ]
    refine call_step (f_frame_Of_t c1 h.N (by decide)) rfl ?_
    simp only [JJ]
    have m1 := NF.of (SV.frm h.N.sm)
    refine primS (.bool false) rfl ?_
    refine itF rfl ?_
    refine call_step (f_vec_Dot g.N g.N (by decide)) rfl ?_
    simp only [JJ]
    have m2 := Num.of (SV.dot g.N.sm g.N.sm)
    refine cs1 (n_rat_Of (k0 := (1)) (1) (1) (by decide) (by decide) (by decide) (by decide) (by decide +kernel)) ?_
    simp only [JJ]
    have m3 : Num 1 (cr (1)) (1) := Num.of Sm1
    refine call_step (f_rat_Same m2 m3 (by decide)) rfl ?_
    simp only [JJ]
    refine primS (.bool (!_)) rfl ?_
    refine itN rfl (fun i1 => ?_) (fun i1 => ?_)
    · first | exact absurd ⟨c1, ‹_›⟩ c | exact ret_step rfl
    · refine call_step (f_affine_Apply k g.P (by decide)) rfl ?_
      simp only [JJ]
      have m4 := NV.of (SM.app k.sm g.P.sm)
      refine call_step (f_vec_Sub m4 h.P (by decide)) rfl ?_
      simp only [JJ]
      have m5 := NV.of (SV.sub m4.sm h.P.sm)
      refine call_step (f_vec_Dot m5 h.N (by decide)) rfl ?_
      simp only [JJ]
      have m6 := Num.of (SV.dot m5.sm h.N.sm)
      refine call_step (f_affine_Area k g.N (by decide)) rfl ?_
      simp only [JJ]
      have m7 := NV.of (SM.area k.sm g.N.sm)
      refine call_step (f_vec_Dot m7 m5 (by decide)) rfl ?_
      simp only [JJ]
      have m8 := Num.of (SV.dot m7.sm m5.sm)
      refine call_step (f_rat_Abs m8 (by decide)) rfl ?_
      simp only [JJ]
      have m9 := Num.of (Sm.abs m8.sm)
      refine call_step (f_rat_Sign m6 (by decide)) rfl ?_
      simp only [JJ]
      refine primS (.bool (decide _)) pr_gt ?_
      refine itD rfl (fun i2 => ?_) (fun i2 => ?_)
      · refine call_step (f_rat_Sign m8 (by decide)) rfl ?_
        simp only [JJ]
        refine call_step (f_affine_Det k (by decide)) rfl ?_
        simp only [JJ]
        have m10 := Num.of (SM.det k.sm)
        refine call_step (f_rat_Sign m10 (by decide)) rfl ?_
        simp only [JJ]
        refine primS (.int .i64 _) pr_mul ?_
        refine primS (.bool (decide _)) pr_lt ?_
        first | exact absurd ⟨c1, ‹_›⟩ c | exact ret_step rfl
      · first | exact absurd ⟨c1, ‹_›⟩ c | exact ret_step rfl
  · refine symFunc_sound hmix tree_dens_seen (by kernel_rfl) rfl ?_
    unfold ir_dens_seen
    simp only [JJ]
    refine call_step (f_frame_Of_n c1 h.N (by decide)) rfl ?_
    simp only [JJ]
    have m1 := NF.of (SF0)
    refine primS (.bool true) rfl ?_
    refine itT rfl ?_
    exact ret_step rfl
theorem f_dens_seen_t (c : units p q) (h : NS L a p) (g : NS M b q) (k : NM L2 m u) (hl : L ≤ 100000000 ∧ M ≤ 100000000 ∧ L2 ≤ 100000000) : PureCalls prog F.dens_seen [.agg (gW a.l), .agg (gW b.l), .agg (gW m.l)] [.agg (gD ((frm p.N).l ++ (way p q u).l ++ [wz p q u, (wc p q u).abs])), .one (.bool (decide (0 < wz p q u ∧ wc p q u * u.det < 0)))] := by
  replace h := h.mono hl.1
  replace g := g.mono hl.2.1
  replace k := k.mono hl.2.2
  refine symFunc_sound hmix tree_dens_seen (by kernel_rfl) rfl ?_
  unfold ir_dens_seen
  simp only [JJ]
  refine call_step (f_frame_Of_t c.1 h.N (by decide)) rfl ?_
  simp only [JJ]
  have m1 := NF.of (SV.frm h.N.sm)
  refine primS (.bool false) rfl ?_
  refine itF rfl ?_
  refine call_step (f_vec_Dot g.N g.N (by decide)) rfl ?_
  simp only [JJ]
  have m2 := Num.of (SV.dot g.N.sm g.N.sm)
  refine cs1 (n_rat_Of (k0 := (1)) (1) (1) (by decide) (by decide) (by decide) (by decide) (by decide +kernel)) ?_
  simp only [JJ]
  have m3 : Num 1 (cr (1)) (1) := Num.of Sm1
  refine call_step (f_rat_Same m2 m3 (by decide)) rfl ?_
  simp only [JJ]
  refine primS (.bool (!_)) rfl ?_
  refine itN rfl (fun i1 => ?_) (fun i1 => ?_)
  · first | exact absurd c.2 ‹_› | exact ret_step (by rw [show decide (0 < wz p q u ∧ wc p q u * u.det < 0) = decide (wc p q u * u.det < 0) from decide_eq_decide.2 (and_iff_right (by assumption))]; rfl) | exact ret_step (by rw [show decide (0 < wz p q u ∧ wc p q u * u.det < 0) = false from decide_eq_false (fun z => absurd z.1 (by assumption))]; rfl)
  · refine call_step (f_affine_Apply k g.P (by decide)) rfl ?_
    simp only [JJ]
    have m4 := NV.of (SM.app k.sm g.P.sm)
    refine call_step (f_vec_Sub m4 h.P (by decide)) rfl ?_
    simp only [JJ]
    have m5 := NV.of (SV.sub m4.sm h.P.sm)
    refine call_step (f_vec_Dot m5 h.N (by decide)) rfl ?_
    simp only [JJ]
    have m6 := Num.of (SV.dot m5.sm h.N.sm)
    refine call_step (f_affine_Area k g.N (by decide)) rfl ?_
    simp only [JJ]
    have m7 := NV.of (SM.area k.sm g.N.sm)
    refine call_step (f_vec_Dot m7 m5 (by decide)) rfl ?_
    simp only [JJ]
    have m8 := Num.of (SV.dot m7.sm m5.sm)
    refine call_step (f_rat_Abs m8 (by decide)) rfl ?_
    simp only [JJ]
    have m9 := Num.of (Sm.abs m8.sm)
    refine call_step (f_rat_Sign m6 (by decide)) rfl ?_
    simp only [JJ]
    refine primS (.bool (decide _)) pr_gt ?_
    refine itD rfl (fun i2 => ?_) (fun i2 => ?_)
    · refine call_step (f_rat_Sign m8 (by decide)) rfl ?_
      simp only [JJ]
      refine call_step (f_affine_Det k (by decide)) rfl ?_
      simp only [JJ]
      have m10 := Num.of (SM.det k.sm)
      refine call_step (f_rat_Sign m10 (by decide)) rfl ?_
      simp only [JJ]
      refine primS (.int .i64 _) pr_mul ?_
      refine primS (.bool (decide _)) pr_lt ?_
      first | exact absurd c.2 ‹_› | exact ret_step (by rw [show decide (0 < wz p q u ∧ wc p q u * u.det < 0) = decide (wc p q u * u.det < 0) from decide_eq_decide.2 (and_iff_right (by assumption))]; rfl) | exact ret_step (by rw [show decide (0 < wz p q u ∧ wc p q u * u.det < 0) = false from decide_eq_false (fun z => absurd z.1 (by assumption))]; rfl)
    · first | exact absurd c.2 ‹_› | exact ret_step (by rw [show decide (0 < wz p q u ∧ wc p q u * u.det < 0) = decide (wc p q u * u.det < 0) from decide_eq_decide.2 (and_iff_right (by assumption))]; rfl) | exact ret_step (by rw [show decide (0 < wz p q u ∧ wc p q u * u.det < 0) = false from decide_eq_false (fun z => absurd z.1 (by assumption))]; rfl)
/-- How densely, how strongly a spot is met. -/
theorem f_dens_Ahead (h : NS L a p) (g : NS M b q) (k : NM L2 m u) (hl : L ≤ 100000000 ∧ M ≤ 100000000 ∧ L2 ≤ 100000000) : PureCalls prog F.dens_Ahead [.agg (gW a.l), .agg (gW b.l), .agg (gW m.l)] [.agg (gD [ahd p q u])] := by
  replace h := h.mono hl.1
  replace g := g.mono hl.2.1
  replace k := k.mono hl.2.2
  by_cases c : units p q
  · refine symFunc_sound hmix tree_dens_Ahead (by kernel_rfl) rfl ?_
    unfold ir_dens_Ahead
    simp only [JJ]
    refine call_step (f_dens_seen_t c h g k (by decide)) rfl ?_
    simp only [JJ]
    have m1 := NF.of (SV.frm (h.sm).N)
    have m2 := NV.of (SS.way h.sm g.sm k.sm)
    have m3 := Num.of (SS.wz h.sm g.sm k.sm)
    have m4 := Num.of (Sm.abs (SS.wc h.sm g.sm k.sm))
    refine primS (.bool (!_)) rfl ?_
    refine itN rfl (fun i1 => ?_) (fun i1 => ?_)
    · refine cs1 (n_rat_Of (k0 := (0)) (0) (1) (by decide) (by decide) (by decide) (by decide) (by decide +kernel)) ?_
      simp only [JJ]
      have m5 : Num 1 (cr (0)) (0) := Num.of Sm0
      first | (have z : ¬seen p q u := fun z => absurd z.2 ‹_›; exact ret_step (by rw [show ahd p q u = 0 from if_neg z]; rfl)) | (have z : seen p q u := ⟨c, ‹_›⟩; exact ret_step (by rw [show ahd p q u = _ from if_pos z]; rfl))
    · refine call_step (f_frame_Slopes m1 m2 (by decide)) rfl ?_
      simp only [JJ]
      have m5 := Num.of (SF.slA m1.sm m2.sm)
      have m6 := Num.of (SF.slB m1.sm m2.sm)
      have m7 := Num.of (SV.dot m2.sm (m1.sm).N)
      refine call_step (f_warp_Density m5 (by decide)) rfl ?_
      simp only [JJ]
      have m8 := Num.of (Sm.dns m5.sm)
      refine call_step (f_warp_Density m6 (by decide)) rfl ?_
      simp only [JJ]
      have m9 := Num.of (Sm.dns m6.sm)
      refine primS (rlN3 m8 m9 m4) rfl ?_
      refine cs1 (n_rat_Product_3 (m8.mono (by decide)) (m9.mono (by decide)) (m4.mono (by decide)) rfl) ?_
      simp only [JJ]
      have m10 := Num.of (Sm.mul (Sm.mul m8.sm m9.sm) m4.sm)
      refine call_step (f_dens_cube m3 (by decide)) rfl ?_
      simp only [JJ]
      have m11 := Num.of ((m3.sm.mul m3.sm).mul m3.sm)
      refine call_step (f_dens_over m10 m11 (by decide)) rfl ?_
      simp only [JJ]
      have m12 := Num.of (Sm.div m10.sm m11.sm)
      first | (have z : ¬seen p q u := fun z => absurd z.2 ‹_›; exact ret_step (by rw [show ahd p q u = 0 from if_neg z]; rfl)) | (have z : seen p q u := ⟨c, ‹_›⟩; exact ret_step (by rw [show ahd p q u = _ from if_pos z]; rfl))
  · have z : ahd p q u = 0 := if_neg fun z => c z.1
    rw [z]
    refine symFunc_sound hmix tree_dens_Ahead (by kernel_rfl) rfl ?_
    unfold ir_dens_Ahead
    simp only [JJ]
    refine call_step (f_dens_seen_n c h g k (by decide)) rfl ?_
    simp only [JJ]
    refine primS (.bool true) rfl ?_
    refine itT rfl ?_
    refine cs1 (n_rat_Of (k0 := (0)) (0) (1) (by decide) (by decide) (by decide) (by decide) (by decide +kernel)) ?_
    simp only [JJ]
    have m1 : Num 1 (cr (0)) (0) := Num.of Sm0
    exact ret_step rfl
end
end Go.Px.Na

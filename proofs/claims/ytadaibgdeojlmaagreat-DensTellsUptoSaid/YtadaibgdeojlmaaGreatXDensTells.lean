/- XDensTells: the trees of functions and their contracts, as programs of mine printed them. -/
import Derived.Test.YtadaibgdeojlmaaGreatLs
import Derived.Test.YtadaibgdeojlmaaGreatPx24
import Derived.Test.YtadaibgdeojlmaaGreatProg
import Derived.Tactics
set_option maxRecDepth 20000
set_option maxHeartbeats 40000000
set_option linter.unusedVariables false
set_option linter.unusedSimpArgs false
namespace Go.Px
open Go.RowKit
def ir_affine_Identity : IR :=
 .call F.vec_Of [.one (.int .i64 (1)), .one (.int .i64 (0)), .one (.int .i64 (0))] [.agg 9] <|
 .call F.vec_Of [.one (.int .i64 (0)), .one (.int .i64 (1)), .one (.int .i64 (0))] [.agg 9] <|
 .call F.vec_Of [.one (.int .i64 (0)), .one (.int .i64 (0)), .one (.int .i64 (1))] [.agg 9] <|
 .call F.vec_Of [.one (.int .i64 (0)), .one (.int .i64 (0)), .one (.int .i64 (0))] [.agg 9] <|
 .ret [.agg [.var 0, .var 1, .var 2, .var 3, .var 4, .var 5, .var 6, .var 7, .var 8, .var 9, .var 10, .var 11, .var 12, .var 13, .var 14, .var 15, .var 16, .var 17, .var 18, .var 19, .var 20, .var 21, .var 22, .var 23, .var 24, .var 25, .var 26, .var 27, .var 28, .var 29, .var 30, .var 31, .var 32, .var 33, .var 34, .var 35]]

def ir_vec_Dot : IR :=
 .prim (.mk 2) [.var 0, .var 1, .var 2, .var 9, .var 10, .var 11] <|
 .call F.rat_Product [.one (.var 18)] [.agg 3] <|
 .prim (.mk 2) [.var 3, .var 4, .var 5, .var 12, .var 13, .var 14] <|
 .call F.rat_Product [.one (.var 22)] [.agg 3] <|
 .prim (.mk 2) [.var 6, .var 7, .var 8, .var 15, .var 16, .var 17] <|
 .call F.rat_Product [.one (.var 26)] [.agg 3] <|
 .prim (.mk 3) [.var 19, .var 20, .var 21, .var 23, .var 24, .var 25, .var 27, .var 28, .var 29] <|
 .call F.rat_Sum [.one (.var 30)] [.agg 3] <|
 .ret [.agg [.var 31, .var 32, .var 33]]

def ir_vec_Sub : IR :=
 .call F.rat_Sub [.agg [.var 0, .var 1, .var 2], .agg [.var 9, .var 10, .var 11]] [.agg 3] <|
 .call F.rat_Sub [.agg [.var 3, .var 4, .var 5], .agg [.var 12, .var 13, .var 14]] [.agg 3] <|
 .call F.rat_Sub [.agg [.var 6, .var 7, .var 8], .agg [.var 15, .var 16, .var 17]] [.agg 3] <|
 .ret [.agg [.var 18, .var 19, .var 20, .var 21, .var 22, .var 23, .var 24, .var 25, .var 26]]

def ir_vec_Scale : IR :=
 .prim (.mk 2) [.var 0, .var 1, .var 2, .var 3, .var 4, .var 5] <|
 .call F.rat_Product [.one (.var 12)] [.agg 3] <|
 .prim (.mk 2) [.var 0, .var 1, .var 2, .var 6, .var 7, .var 8] <|
 .call F.rat_Product [.one (.var 16)] [.agg 3] <|
 .prim (.mk 2) [.var 0, .var 1, .var 2, .var 9, .var 10, .var 11] <|
 .call F.rat_Product [.one (.var 20)] [.agg 3] <|
 .ret [.agg [.var 13, .var 14, .var 15, .var 17, .var 18, .var 19, .var 21, .var 22, .var 23]]

def ir_vec_Read : IR :=
 .call F.rat_Read [.agg [.var 0, .var 1, .var 2]] [.agg 3] <|
 .call F.rat_Read [.agg [.var 3, .var 4, .var 5]] [.agg 3] <|
 .call F.rat_Read [.agg [.var 6, .var 7, .var 8]] [.agg 3] <|
 .ret [.agg [.var 9, .var 10, .var 11, .var 12, .var 13, .var 14, .var 15, .var 16, .var 17]]

def ir_frame_Of : IR :=
 .call F.vec_Of [.one (.int .i64 (1)), .one (.int .i64 (0)), .one (.int .i64 (0))] [.agg 9] <|
 .call F.vec_Of [.one (.int .i64 (0)), .one (.int .i64 (1)), .one (.int .i64 (0))] [.agg 9] <|
 .call F.vec_Of [.one (.int .i64 (0)), .one (.int .i64 (0)), .one (.int .i64 (1))] [.agg 9] <|
 .call F.vec_Of [.one (.int .i64 (0)), .one (.int .i64 (0)), .one (.int .i64 (0))] [.agg 9] <|
 .call F.vec_Dot [.agg [.var 0, .var 1, .var 2, .var 3, .var 4, .var 5, .var 6, .var 7, .var 8], .agg [.var 0, .var 1, .var 2, .var 3, .var 4, .var 5, .var 6, .var 7, .var 8]] [.agg 3] <|
 .call F.rat_Of [.one (.int .i64 (1)), .one (.int .i64 (1))] [.agg 3] <|
 .call F.rat_Same [.agg [.var 45, .var 46, .var 47], .agg [.var 48, .var 49, .var 50]] [.one] <|
 .prim .not [.var 51] <|
 .ite (.var 52) (
  .ret [.agg [.var 36, .var 37, .var 38, .var 39, .var 40, .var 41, .var 42, .var 43, .var 44, .var 36, .var 37, .var 38, .var 39, .var 40, .var 41, .var 42, .var 43, .var 44, .var 36, .var 37, .var 38, .var 39, .var 40, .var 41, .var 42, .var 43, .var 44], .one (.bol false)]) (
  .call F.vec_Sub [.agg [.var 27, .var 28, .var 29, .var 30, .var 31, .var 32, .var 33, .var 34, .var 35], .agg [.var 0, .var 1, .var 2, .var 3, .var 4, .var 5, .var 6, .var 7, .var 8]] [.agg 9] <|
  .call F.rat_Of [.one (.int .i64 (-2)), .one (.int .i64 (1))] [.agg 3] <|
  .call F.vec_Dot [.agg [.var 53, .var 54, .var 55, .var 56, .var 57, .var 58, .var 59, .var 60, .var 61], .agg [.var 53, .var 54, .var 55, .var 56, .var 57, .var 58, .var 59, .var 60, .var 61]] [.agg 3] <|
  .call F.rat_Div [.agg [.var 62, .var 63, .var 64], .agg [.var 65, .var 66, .var 67]] [.agg 3, .one] <|
  .prim .not [.var 71] <|
  .ite (.var 72) (
   .ret [.agg [.var 9, .var 10, .var 11, .var 12, .var 13, .var 14, .var 15, .var 16, .var 17, .var 18, .var 19, .var 20, .var 21, .var 22, .var 23, .var 24, .var 25, .var 26, .var 27, .var 28, .var 29, .var 30, .var 31, .var 32, .var 33, .var 34, .var 35], .one (.bol true)]) (
   .prim (.mk 2) [.var 68, .var 69, .var 70, .var 53, .var 54, .var 55] <|
   .call F.rat_Product [.one (.var 73)] [.agg 3] <|
   .call F.vec_Scale [.agg [.var 74, .var 75, .var 76], .agg [.var 53, .var 54, .var 55, .var 56, .var 57, .var 58, .var 59, .var 60, .var 61]] [.agg 9] <|
   .prim (.mk 2) [.var 9, .var 10, .var 11, .var 12, .var 13, .var 14, .var 15, .var 16, .var 17, .var 77, .var 78, .var 79, .var 80, .var 81, .var 82, .var 83, .var 84, .var 85] <|
   .call F.vec_Sum [.one (.var 86)] [.agg 9] <|
   .prim (.mk 2) [.var 68, .var 69, .var 70, .var 56, .var 57, .var 58] <|
   .call F.rat_Product [.one (.var 96)] [.agg 3] <|
   .call F.vec_Scale [.agg [.var 97, .var 98, .var 99], .agg [.var 53, .var 54, .var 55, .var 56, .var 57, .var 58, .var 59, .var 60, .var 61]] [.agg 9] <|
   .prim (.mk 2) [.var 18, .var 19, .var 20, .var 21, .var 22, .var 23, .var 24, .var 25, .var 26, .var 100, .var 101, .var 102, .var 103, .var 104, .var 105, .var 106, .var 107, .var 108] <|
   .call F.vec_Sum [.one (.var 109)] [.agg 9] <|
   .call F.vec_Read [.agg [.var 0, .var 1, .var 2, .var 3, .var 4, .var 5, .var 6, .var 7, .var 8]] [.agg 9] <|
   .ret [.agg [.var 87, .var 88, .var 89, .var 90, .var 91, .var 92, .var 93, .var 94, .var 95, .var 110, .var 111, .var 112, .var 113, .var 114, .var 115, .var 116, .var 117, .var 118, .var 119, .var 120, .var 121, .var 122, .var 123, .var 124, .var 125, .var 126, .var 127], .one (.bol true)]))

def ir_affine_Turn : IR :=
 .call F.vec_Dot [.agg [.var 0, .var 1, .var 2, .var 3, .var 4, .var 5, .var 6, .var 7, .var 8], .agg [.var 36, .var 37, .var 38, .var 39, .var 40, .var 41, .var 42, .var 43, .var 44]] [.agg 3] <|
 .call F.vec_Dot [.agg [.var 9, .var 10, .var 11, .var 12, .var 13, .var 14, .var 15, .var 16, .var 17], .agg [.var 36, .var 37, .var 38, .var 39, .var 40, .var 41, .var 42, .var 43, .var 44]] [.agg 3] <|
 .call F.vec_Dot [.agg [.var 18, .var 19, .var 20, .var 21, .var 22, .var 23, .var 24, .var 25, .var 26], .agg [.var 36, .var 37, .var 38, .var 39, .var 40, .var 41, .var 42, .var 43, .var 44]] [.agg 3] <|
 .ret [.agg [.var 45, .var 46, .var 47, .var 48, .var 49, .var 50, .var 51, .var 52, .var 53]]

def ir_affine_Apply : IR :=
 .call F.affine_Turn [.agg [.var 0, .var 1, .var 2, .var 3, .var 4, .var 5, .var 6, .var 7, .var 8, .var 9, .var 10, .var 11, .var 12, .var 13, .var 14, .var 15, .var 16, .var 17, .var 18, .var 19, .var 20, .var 21, .var 22, .var 23, .var 24, .var 25, .var 26, .var 27, .var 28, .var 29, .var 30, .var 31, .var 32, .var 33, .var 34, .var 35], .agg [.var 36, .var 37, .var 38, .var 39, .var 40, .var 41, .var 42, .var 43, .var 44]] [.agg 9] <|
 .prim (.mk 2) [.var 45, .var 46, .var 47, .var 48, .var 49, .var 50, .var 51, .var 52, .var 53, .var 27, .var 28, .var 29, .var 30, .var 31, .var 32, .var 33, .var 34, .var 35] <|
 .call F.vec_Sum [.one (.var 54)] [.agg 9] <|
 .ret [.agg [.var 55, .var 56, .var 57, .var 58, .var 59, .var 60, .var 61, .var 62, .var 63]]

def ir_vec_minor : IR :=
 .prim (.mk 2) [.var 0, .var 1, .var 2, .var 9, .var 10, .var 11] <|
 .call F.rat_Product [.one (.var 12)] [.agg 3] <|
 .prim (.mk 2) [.var 3, .var 4, .var 5, .var 6, .var 7, .var 8] <|
 .call F.rat_Product [.one (.var 16)] [.agg 3] <|
 .call F.rat_Sub [.agg [.var 13, .var 14, .var 15], .agg [.var 17, .var 18, .var 19]] [.agg 3] <|
 .ret [.agg [.var 20, .var 21, .var 22]]

def ir_vec_Cross : IR :=
 .call F.vec_minor [.agg [.var 3, .var 4, .var 5], .agg [.var 6, .var 7, .var 8], .agg [.var 12, .var 13, .var 14], .agg [.var 15, .var 16, .var 17]] [.agg 3] <|
 .call F.vec_minor [.agg [.var 6, .var 7, .var 8], .agg [.var 0, .var 1, .var 2], .agg [.var 15, .var 16, .var 17], .agg [.var 9, .var 10, .var 11]] [.agg 3] <|
 .call F.vec_minor [.agg [.var 0, .var 1, .var 2], .agg [.var 3, .var 4, .var 5], .agg [.var 9, .var 10, .var 11], .agg [.var 12, .var 13, .var 14]] [.agg 3] <|
 .ret [.agg [.var 18, .var 19, .var 20, .var 21, .var 22, .var 23, .var 24, .var 25, .var 26]]

def ir_affine_cofactors : IR :=
 .call F.vec_Cross [.agg [.var 9, .var 10, .var 11, .var 12, .var 13, .var 14, .var 15, .var 16, .var 17], .agg [.var 18, .var 19, .var 20, .var 21, .var 22, .var 23, .var 24, .var 25, .var 26]] [.agg 9] <|
 .call F.vec_Cross [.agg [.var 18, .var 19, .var 20, .var 21, .var 22, .var 23, .var 24, .var 25, .var 26], .agg [.var 0, .var 1, .var 2, .var 3, .var 4, .var 5, .var 6, .var 7, .var 8]] [.agg 9] <|
 .call F.vec_Cross [.agg [.var 0, .var 1, .var 2, .var 3, .var 4, .var 5, .var 6, .var 7, .var 8], .agg [.var 9, .var 10, .var 11, .var 12, .var 13, .var 14, .var 15, .var 16, .var 17]] [.agg 9] <|
 .ret [.agg [.var 36, .var 37, .var 38, .var 39, .var 40, .var 41, .var 42, .var 43, .var 44, .var 45, .var 46, .var 47, .var 48, .var 49, .var 50, .var 51, .var 52, .var 53, .var 54, .var 55, .var 56, .var 57, .var 58, .var 59, .var 60, .var 61, .var 62]]

def ir_affine_Area : IR :=
 .call F.affine_cofactors [.agg [.var 0, .var 1, .var 2, .var 3, .var 4, .var 5, .var 6, .var 7, .var 8, .var 9, .var 10, .var 11, .var 12, .var 13, .var 14, .var 15, .var 16, .var 17, .var 18, .var 19, .var 20, .var 21, .var 22, .var 23, .var 24, .var 25, .var 26, .var 27, .var 28, .var 29, .var 30, .var 31, .var 32, .var 33, .var 34, .var 35]] [.agg 27] <|
 .call F.vec_Dot [.agg [.var 45, .var 46, .var 47, .var 48, .var 49, .var 50, .var 51, .var 52, .var 53], .agg [.var 36, .var 37, .var 38, .var 39, .var 40, .var 41, .var 42, .var 43, .var 44]] [.agg 3] <|
 .call F.vec_Dot [.agg [.var 54, .var 55, .var 56, .var 57, .var 58, .var 59, .var 60, .var 61, .var 62], .agg [.var 36, .var 37, .var 38, .var 39, .var 40, .var 41, .var 42, .var 43, .var 44]] [.agg 3] <|
 .call F.vec_Dot [.agg [.var 63, .var 64, .var 65, .var 66, .var 67, .var 68, .var 69, .var 70, .var 71], .agg [.var 36, .var 37, .var 38, .var 39, .var 40, .var 41, .var 42, .var 43, .var 44]] [.agg 3] <|
 .ret [.agg [.var 72, .var 73, .var 74, .var 75, .var 76, .var 77, .var 78, .var 79, .var 80]]

def ir_affine_Det : IR :=
 .call F.vec_Cross [.agg [.var 9, .var 10, .var 11, .var 12, .var 13, .var 14, .var 15, .var 16, .var 17], .agg [.var 18, .var 19, .var 20, .var 21, .var 22, .var 23, .var 24, .var 25, .var 26]] [.agg 9] <|
 .call F.vec_Dot [.agg [.var 0, .var 1, .var 2, .var 3, .var 4, .var 5, .var 6, .var 7, .var 8], .agg [.var 36, .var 37, .var 38, .var 39, .var 40, .var 41, .var 42, .var 43, .var 44]] [.agg 3] <|
 .ret [.agg [.var 45, .var 46, .var 47]]

def ir_dens_seen : IR :=
 .call F.frame_Of [.agg [.var 9, .var 10, .var 11, .var 12, .var 13, .var 14, .var 15, .var 16, .var 17]] [.agg 27, .one] <|
 .prim .not [.var 99] <|
 .ite (.var 100) (
  .ret [.agg [.bol false, .nil, .nil, .bol false, .nil, .nil, .bol false, .nil, .nil, .bol false, .nil, .nil, .bol false, .nil, .nil, .bol false, .nil, .nil, .bol false, .nil, .nil, .bol false, .nil, .nil, .bol false, .nil, .nil, .bol false, .nil, .nil, .bol false, .nil, .nil, .bol false, .nil, .nil, .bol false, .nil, .nil, .bol false, .nil, .nil], .one (.bol false)]) (
  .call F.vec_Dot [.agg [.var 27, .var 28, .var 29, .var 30, .var 31, .var 32, .var 33, .var 34, .var 35], .agg [.var 27, .var 28, .var 29, .var 30, .var 31, .var 32, .var 33, .var 34, .var 35]] [.agg 3] <|
  .call F.rat_Of [.one (.int .i64 (1)), .one (.int .i64 (1))] [.agg 3] <|
  .call F.rat_Same [.agg [.var 101, .var 102, .var 103], .agg [.var 104, .var 105, .var 106]] [.one] <|
  .prim .not [.var 107] <|
  .ite (.var 108) (
   .ret [.agg [.bol false, .nil, .nil, .bol false, .nil, .nil, .bol false, .nil, .nil, .bol false, .nil, .nil, .bol false, .nil, .nil, .bol false, .nil, .nil, .bol false, .nil, .nil, .bol false, .nil, .nil, .bol false, .nil, .nil, .bol false, .nil, .nil, .bol false, .nil, .nil, .bol false, .nil, .nil, .bol false, .nil, .nil, .bol false, .nil, .nil], .one (.bol false)]) (
   .call F.affine_Apply [.agg [.var 36, .var 37, .var 38, .var 39, .var 40, .var 41, .var 42, .var 43, .var 44, .var 45, .var 46, .var 47, .var 48, .var 49, .var 50, .var 51, .var 52, .var 53, .var 54, .var 55, .var 56, .var 57, .var 58, .var 59, .var 60, .var 61, .var 62, .var 63, .var 64, .var 65, .var 66, .var 67, .var 68, .var 69, .var 70, .var 71], .agg [.var 18, .var 19, .var 20, .var 21, .var 22, .var 23, .var 24, .var 25, .var 26]] [.agg 9] <|
   .call F.vec_Sub [.agg [.var 109, .var 110, .var 111, .var 112, .var 113, .var 114, .var 115, .var 116, .var 117], .agg [.var 0, .var 1, .var 2, .var 3, .var 4, .var 5, .var 6, .var 7, .var 8]] [.agg 9] <|
   .call F.vec_Dot [.agg [.var 118, .var 119, .var 120, .var 121, .var 122, .var 123, .var 124, .var 125, .var 126], .agg [.var 9, .var 10, .var 11, .var 12, .var 13, .var 14, .var 15, .var 16, .var 17]] [.agg 3] <|
   .call F.affine_Area [.agg [.var 36, .var 37, .var 38, .var 39, .var 40, .var 41, .var 42, .var 43, .var 44, .var 45, .var 46, .var 47, .var 48, .var 49, .var 50, .var 51, .var 52, .var 53, .var 54, .var 55, .var 56, .var 57, .var 58, .var 59, .var 60, .var 61, .var 62, .var 63, .var 64, .var 65, .var 66, .var 67, .var 68, .var 69, .var 70, .var 71], .agg [.var 27, .var 28, .var 29, .var 30, .var 31, .var 32, .var 33, .var 34, .var 35]] [.agg 9] <|
   .call F.vec_Dot [.agg [.var 130, .var 131, .var 132, .var 133, .var 134, .var 135, .var 136, .var 137, .var 138], .agg [.var 118, .var 119, .var 120, .var 121, .var 122, .var 123, .var 124, .var 125, .var 126]] [.agg 3] <|
   .call F.rat_Abs [.agg [.var 139, .var 140, .var 141]] [.agg 3] <|
   .call F.rat_Sign [.agg [.var 127, .var 128, .var 129]] [.one] <|
   .prim (.bin .gtr) [.var 145, .int .i64 (0)] <|
   .ite (.var 146) (
    .call F.rat_Sign [.agg [.var 139, .var 140, .var 141]] [.one] <|
    .call F.affine_Det [.agg [.var 36, .var 37, .var 38, .var 39, .var 40, .var 41, .var 42, .var 43, .var 44, .var 45, .var 46, .var 47, .var 48, .var 49, .var 50, .var 51, .var 52, .var 53, .var 54, .var 55, .var 56, .var 57, .var 58, .var 59, .var 60, .var 61, .var 62, .var 63, .var 64, .var 65, .var 66, .var 67, .var 68, .var 69, .var 70, .var 71]] [.agg 3] <|
    .call F.rat_Sign [.agg [.var 148, .var 149, .var 150]] [.one] <|
    .prim (.bin .mul) [.var 147, .var 151] <|
    .prim (.bin .lss) [.var 152, .int .i64 (0)] <|
    .ret [.agg [.var 72, .var 73, .var 74, .var 75, .var 76, .var 77, .var 78, .var 79, .var 80, .var 81, .var 82, .var 83, .var 84, .var 85, .var 86, .var 87, .var 88, .var 89, .var 90, .var 91, .var 92, .var 93, .var 94, .var 95, .var 96, .var 97, .var 98, .var 118, .var 119, .var 120, .var 121, .var 122, .var 123, .var 124, .var 125, .var 126, .var 127, .var 128, .var 129, .var 142, .var 143, .var 144], .one (.var 153)]) (
    .ret [.agg [.var 72, .var 73, .var 74, .var 75, .var 76, .var 77, .var 78, .var 79, .var 80, .var 81, .var 82, .var 83, .var 84, .var 85, .var 86, .var 87, .var 88, .var 89, .var 90, .var 91, .var 92, .var 93, .var 94, .var 95, .var 96, .var 97, .var 98, .var 118, .var 119, .var 120, .var 121, .var 122, .var 123, .var 124, .var 125, .var 126, .var 127, .var 128, .var 129, .var 142, .var 143, .var 144], .one (.bol false)])))

def ir_frame_In : IR :=
 .call F.vec_Dot [.agg [.var 27, .var 28, .var 29, .var 30, .var 31, .var 32, .var 33, .var 34, .var 35], .agg [.var 0, .var 1, .var 2, .var 3, .var 4, .var 5, .var 6, .var 7, .var 8]] [.agg 3] <|
 .call F.vec_Dot [.agg [.var 27, .var 28, .var 29, .var 30, .var 31, .var 32, .var 33, .var 34, .var 35], .agg [.var 9, .var 10, .var 11, .var 12, .var 13, .var 14, .var 15, .var 16, .var 17]] [.agg 3] <|
 .call F.vec_Dot [.agg [.var 27, .var 28, .var 29, .var 30, .var 31, .var 32, .var 33, .var 34, .var 35], .agg [.var 18, .var 19, .var 20, .var 21, .var 22, .var 23, .var 24, .var 25, .var 26]] [.agg 3] <|
 .ret [.agg [.var 36, .var 37, .var 38, .var 39, .var 40, .var 41, .var 42, .var 43, .var 44]]

def ir_frame_Slopes : IR :=
 .call F.frame_In [.agg [.var 0, .var 1, .var 2, .var 3, .var 4, .var 5, .var 6, .var 7, .var 8, .var 9, .var 10, .var 11, .var 12, .var 13, .var 14, .var 15, .var 16, .var 17, .var 18, .var 19, .var 20, .var 21, .var 22, .var 23, .var 24, .var 25, .var 26], .agg [.var 27, .var 28, .var 29, .var 30, .var 31, .var 32, .var 33, .var 34, .var 35]] [.agg 9] <|
 .call F.rat_Div [.agg [.var 36, .var 37, .var 38], .agg [.var 42, .var 43, .var 44]] [.agg 3, .one] <|
 .call F.rat_Div [.agg [.var 39, .var 40, .var 41], .agg [.var 42, .var 43, .var 44]] [.agg 3, .one] <|
 .ret [.agg [.var 45, .var 46, .var 47], .agg [.var 49, .var 50, .var 51], .agg [.var 42, .var 43, .var 44], .one (.var 48)]

def ir_warp_one : IR :=
 .call F.rat_Of [.one (.int .i64 (1)), .one (.int .i64 (1))] [.agg 3] <|
 .ret [.agg [.var 0, .var 1, .var 2]]

def ir_warp_over : IR :=
 .call F.rat_Div [.agg [.var 0, .var 1, .var 2], .agg [.var 3, .var 4, .var 5]] [.agg 3, .one] <|
 .ret [.agg [.var 6, .var 7, .var 8]]

def ir_warp_Density : IR :=
 .call F.warp_one [] [.agg 3] <|
 .call F.rat_Abs [.agg [.var 0, .var 1, .var 2]] [.agg 3] <|
 .prim (.mk 2) [.var 3, .var 4, .var 5, .var 6, .var 7, .var 8] <|
 .call F.rat_Sum [.one (.var 9)] [.agg 3] <|
 .call F.rat_Of [.one (.int .i64 (1)), .one (.int .i64 (2))] [.agg 3] <|
 .prim (.mk 2) [.var 10, .var 11, .var 12, .var 10, .var 11, .var 12] <|
 .call F.rat_Product [.one (.var 16)] [.agg 3] <|
 .call F.warp_over [.agg [.var 13, .var 14, .var 15], .agg [.var 17, .var 18, .var 19]] [.agg 3] <|
 .ret [.agg [.var 20, .var 21, .var 22]]

def ir_dens_cube : IR :=
 .prim (.mk 3) [.var 0, .var 1, .var 2, .var 0, .var 1, .var 2, .var 0, .var 1, .var 2] <|
 .call F.rat_Product [.one (.var 3)] [.agg 3] <|
 .ret [.agg [.var 4, .var 5, .var 6]]

def ir_dens_over : IR :=
 .call F.rat_Div [.agg [.var 0, .var 1, .var 2], .agg [.var 3, .var 4, .var 5]] [.agg 3, .one] <|
 .ret [.agg [.var 6, .var 7, .var 8]]

def ir_dens_Ahead : IR :=
 .call F.dens_seen [.agg [.var 0, .var 1, .var 2, .var 3, .var 4, .var 5, .var 6, .var 7, .var 8, .var 9, .var 10, .var 11, .var 12, .var 13, .var 14, .var 15, .var 16, .var 17], .agg [.var 18, .var 19, .var 20, .var 21, .var 22, .var 23, .var 24, .var 25, .var 26, .var 27, .var 28, .var 29, .var 30, .var 31, .var 32, .var 33, .var 34, .var 35], .agg [.var 36, .var 37, .var 38, .var 39, .var 40, .var 41, .var 42, .var 43, .var 44, .var 45, .var 46, .var 47, .var 48, .var 49, .var 50, .var 51, .var 52, .var 53, .var 54, .var 55, .var 56, .var 57, .var 58, .var 59, .var 60, .var 61, .var 62, .var 63, .var 64, .var 65, .var 66, .var 67, .var 68, .var 69, .var 70, .var 71]] [.agg 42, .one] <|
 .prim .not [.var 114] <|
 .ite (.var 115) (
  .call F.rat_Of [.one (.int .i64 (0)), .one (.int .i64 (1))] [.agg 3] <|
  .ret [.agg [.var 116, .var 117, .var 118]]) (
  .call F.frame_Slopes [.agg [.var 72, .var 73, .var 74, .var 75, .var 76, .var 77, .var 78, .var 79, .var 80, .var 81, .var 82, .var 83, .var 84, .var 85, .var 86, .var 87, .var 88, .var 89, .var 90, .var 91, .var 92, .var 93, .var 94, .var 95, .var 96, .var 97, .var 98], .agg [.var 99, .var 100, .var 101, .var 102, .var 103, .var 104, .var 105, .var 106, .var 107]] [.agg 3, .agg 3, .agg 3, .one] <|
  .call F.warp_Density [.agg [.var 116, .var 117, .var 118]] [.agg 3] <|
  .call F.warp_Density [.agg [.var 119, .var 120, .var 121]] [.agg 3] <|
  .prim (.mk 3) [.var 126, .var 127, .var 128, .var 129, .var 130, .var 131, .var 111, .var 112, .var 113] <|
  .call F.rat_Product [.one (.var 132)] [.agg 3] <|
  .call F.dens_cube [.agg [.var 108, .var 109, .var 110]] [.agg 3] <|
  .call F.dens_over [.agg [.var 133, .var 134, .var 135], .agg [.var 136, .var 137, .var 138]] [.agg 3] <|
  .ret [.agg [.var 139, .var 140, .var 141]])

def ir_dens_Transfer : IR :=
 .call F.dens_seen [.agg [.var 0, .var 1, .var 2, .var 3, .var 4, .var 5, .var 6, .var 7, .var 8, .var 9, .var 10, .var 11, .var 12, .var 13, .var 14, .var 15, .var 16, .var 17], .agg [.var 18, .var 19, .var 20, .var 21, .var 22, .var 23, .var 24, .var 25, .var 26, .var 27, .var 28, .var 29, .var 30, .var 31, .var 32, .var 33, .var 34, .var 35], .agg [.var 36, .var 37, .var 38, .var 39, .var 40, .var 41, .var 42, .var 43, .var 44, .var 45, .var 46, .var 47, .var 48, .var 49, .var 50, .var 51, .var 52, .var 53, .var 54, .var 55, .var 56, .var 57, .var 58, .var 59, .var 60, .var 61, .var 62, .var 63, .var 64, .var 65, .var 66, .var 67, .var 68, .var 69, .var 70, .var 71]] [.agg 42, .one] <|
 .prim .not [.var 114] <|
 .ite (.var 115) (
  .call F.rat_Of [.one (.int .i64 (0)), .one (.int .i64 (1))] [.agg 3] <|
  .ret [.agg [.var 116, .var 117, .var 118]]) (
  .call F.vec_Dot [.agg [.var 99, .var 100, .var 101, .var 102, .var 103, .var 104, .var 105, .var 106, .var 107], .agg [.var 99, .var 100, .var 101, .var 102, .var 103, .var 104, .var 105, .var 106, .var 107]] [.agg 3] <|
  .prim (.mk 2) [.var 108, .var 109, .var 110, .var 111, .var 112, .var 113] <|
  .call F.rat_Product [.one (.var 119)] [.agg 3] <|
  .prim (.mk 2) [.var 116, .var 117, .var 118, .var 116, .var 117, .var 118] <|
  .call F.rat_Product [.one (.var 123)] [.agg 3] <|
  .call F.dens_over [.agg [.var 120, .var 121, .var 122], .agg [.var 124, .var 125, .var 126]] [.agg 3] <|
  .ret [.agg [.var 127, .var 128, .var 129]])

def ir_penumbralaw16_fixed : IR :=
 .call F.vec_Of [.one (.int .i64 (0)), .one (.int .i64 (0)), .one (.int .i64 (0))] [.agg 9] <|
 .call F.vec_Of [.one (.int .i64 (0)), .one (.int .i64 (0)), .one (.int .i64 (1))] [.agg 9] <|
 .call F.vec_Of [.one (.int .i64 (0)), .one (.int .i64 (0)), .one (.int .i64 (2))] [.agg 9] <|
 .call F.vec_Of [.one (.int .i64 (0)), .one (.int .i64 (0)), .one (.int .i64 (-1))] [.agg 9] <|
 .call F.vec_Of [.one (.int .i64 (0)), .one (.int .i64 (0)), .one (.int .i64 (2))] [.agg 9] <|
 .call F.vec_Of [.one (.int .i64 (0)), .one (.int .i64 (0)), .one (.int .i64 (1))] [.agg 9] <|
 .call F.affine_Identity [] [.agg 36] <|
 .call F.dens_Ahead [.agg [.var 0, .var 1, .var 2, .var 3, .var 4, .var 5, .var 6, .var 7, .var 8, .var 9, .var 10, .var 11, .var 12, .var 13, .var 14, .var 15, .var 16, .var 17], .agg [.var 18, .var 19, .var 20, .var 21, .var 22, .var 23, .var 24, .var 25, .var 26, .var 27, .var 28, .var 29, .var 30, .var 31, .var 32, .var 33, .var 34, .var 35], .agg [.var 54, .var 55, .var 56, .var 57, .var 58, .var 59, .var 60, .var 61, .var 62, .var 63, .var 64, .var 65, .var 66, .var 67, .var 68, .var 69, .var 70, .var 71, .var 72, .var 73, .var 74, .var 75, .var 76, .var 77, .var 78, .var 79, .var 80, .var 81, .var 82, .var 83, .var 84, .var 85, .var 86, .var 87, .var 88, .var 89]] [.agg 3] <|
 .call F.penumbraref03_Of [.one (.int .i64 (1)), .one (.int .i64 (16))] [.agg 3] <|
 .call F.penumbraref03_Is [.agg [.var 90, .var 91, .var 92], .agg [.var 93, .var 94, .var 95]] [.one] <|
 .ite (.var 96) (
  .call F.dens_Transfer [.agg [.var 0, .var 1, .var 2, .var 3, .var 4, .var 5, .var 6, .var 7, .var 8, .var 9, .var 10, .var 11, .var 12, .var 13, .var 14, .var 15, .var 16, .var 17], .agg [.var 18, .var 19, .var 20, .var 21, .var 22, .var 23, .var 24, .var 25, .var 26, .var 27, .var 28, .var 29, .var 30, .var 31, .var 32, .var 33, .var 34, .var 35], .agg [.var 54, .var 55, .var 56, .var 57, .var 58, .var 59, .var 60, .var 61, .var 62, .var 63, .var 64, .var 65, .var 66, .var 67, .var 68, .var 69, .var 70, .var 71, .var 72, .var 73, .var 74, .var 75, .var 76, .var 77, .var 78, .var 79, .var 80, .var 81, .var 82, .var 83, .var 84, .var 85, .var 86, .var 87, .var 88, .var 89]] [.agg 3] <|
  .call F.penumbraref03_Of [.one (.int .i64 (1)), .one (.int .i64 (4))] [.agg 3] <|
  .call F.penumbraref03_Is [.agg [.var 97, .var 98, .var 99], .agg [.var 100, .var 101, .var 102]] [.one] <|
  .ite (.var 103) (
   .call F.dens_Ahead [.agg [.var 0, .var 1, .var 2, .var 3, .var 4, .var 5, .var 6, .var 7, .var 8, .var 9, .var 10, .var 11, .var 12, .var 13, .var 14, .var 15, .var 16, .var 17], .agg [.var 36, .var 37, .var 38, .var 39, .var 40, .var 41, .var 42, .var 43, .var 44, .var 45, .var 46, .var 47, .var 48, .var 49, .var 50, .var 51, .var 52, .var 53], .agg [.var 54, .var 55, .var 56, .var 57, .var 58, .var 59, .var 60, .var 61, .var 62, .var 63, .var 64, .var 65, .var 66, .var 67, .var 68, .var 69, .var 70, .var 71, .var 72, .var 73, .var 74, .var 75, .var 76, .var 77, .var 78, .var 79, .var 80, .var 81, .var 82, .var 83, .var 84, .var 85, .var 86, .var 87, .var 88, .var 89]] [.agg 3] <|
   .call F.penumbraref03_Zero [] [.agg 3] <|
   .call F.penumbraref03_Is [.agg [.var 104, .var 105, .var 106], .agg [.var 107, .var 108, .var 109]] [.one] <|
   .ite (.var 110) (
    .call F.dens_Transfer [.agg [.var 0, .var 1, .var 2, .var 3, .var 4, .var 5, .var 6, .var 7, .var 8, .var 9, .var 10, .var 11, .var 12, .var 13, .var 14, .var 15, .var 16, .var 17], .agg [.var 36, .var 37, .var 38, .var 39, .var 40, .var 41, .var 42, .var 43, .var 44, .var 45, .var 46, .var 47, .var 48, .var 49, .var 50, .var 51, .var 52, .var 53], .agg [.var 54, .var 55, .var 56, .var 57, .var 58, .var 59, .var 60, .var 61, .var 62, .var 63, .var 64, .var 65, .var 66, .var 67, .var 68, .var 69, .var 70, .var 71, .var 72, .var 73, .var 74, .var 75, .var 76, .var 77, .var 78, .var 79, .var 80, .var 81, .var 82, .var 83, .var 84, .var 85, .var 86, .var 87, .var 88, .var 89]] [.agg 3] <|
    .call F.penumbraref03_Zero [] [.agg 3] <|
    .call F.penumbraref03_Is [.agg [.var 111, .var 112, .var 113], .agg [.var 114, .var 115, .var 116]] [.one] <|
    .ret [.one (.var 117)]) (
    .ret [.one (.bol false)])) (
   .ret [.one (.bol false)])) (
  .ret [.one (.bol false)])

def ir_penumbraref05_Cross : IR :=
 .call F.penumbraref03_Mul [.agg [.var 3, .var 4, .var 5], .agg [.var 15, .var 16, .var 17]] [.agg 3] <|
 .call F.penumbraref03_Mul [.agg [.var 6, .var 7, .var 8], .agg [.var 12, .var 13, .var 14]] [.agg 3] <|
 .call F.penumbraref03_Sub [.agg [.var 18, .var 19, .var 20], .agg [.var 21, .var 22, .var 23]] [.agg 3] <|
 .call F.penumbraref03_Mul [.agg [.var 6, .var 7, .var 8], .agg [.var 9, .var 10, .var 11]] [.agg 3] <|
 .call F.penumbraref03_Mul [.agg [.var 0, .var 1, .var 2], .agg [.var 15, .var 16, .var 17]] [.agg 3] <|
 .call F.penumbraref03_Sub [.agg [.var 27, .var 28, .var 29], .agg [.var 30, .var 31, .var 32]] [.agg 3] <|
 .call F.penumbraref03_Mul [.agg [.var 0, .var 1, .var 2], .agg [.var 12, .var 13, .var 14]] [.agg 3] <|
 .call F.penumbraref03_Mul [.agg [.var 3, .var 4, .var 5], .agg [.var 9, .var 10, .var 11]] [.agg 3] <|
 .call F.penumbraref03_Sub [.agg [.var 36, .var 37, .var 38], .agg [.var 39, .var 40, .var 41]] [.agg 3] <|
 .ret [.agg [.var 24, .var 25, .var 26, .var 33, .var 34, .var 35, .var 42, .var 43, .var 44]]

def ir_penumbraref05_Dot : IR :=
 .call F.penumbraref03_Mul [.agg [.var 0, .var 1, .var 2], .agg [.var 9, .var 10, .var 11]] [.agg 3] <|
 .call F.penumbraref03_Mul [.agg [.var 3, .var 4, .var 5], .agg [.var 12, .var 13, .var 14]] [.agg 3] <|
 .call F.penumbraref03_Add [.agg [.var 18, .var 19, .var 20], .agg [.var 21, .var 22, .var 23]] [.agg 3] <|
 .call F.penumbraref03_Mul [.agg [.var 6, .var 7, .var 8], .agg [.var 15, .var 16, .var 17]] [.agg 3] <|
 .call F.penumbraref03_Add [.agg [.var 24, .var 25, .var 26], .agg [.var 27, .var 28, .var 29]] [.agg 3] <|
 .ret [.agg [.var 30, .var 31, .var 32]]

def ir_penumbraref07_Det : IR :=
 .call F.penumbraref05_Cross [.agg [.var 9, .var 10, .var 11, .var 12, .var 13, .var 14, .var 15, .var 16, .var 17], .agg [.var 18, .var 19, .var 20, .var 21, .var 22, .var 23, .var 24, .var 25, .var 26]] [.agg 9] <|
 .call F.penumbraref05_Dot [.agg [.var 0, .var 1, .var 2, .var 3, .var 4, .var 5, .var 6, .var 7, .var 8], .agg [.var 36, .var 37, .var 38, .var 39, .var 40, .var 41, .var 42, .var 43, .var 44]] [.agg 3] <|
 .ret [.agg [.var 45, .var 46, .var 47]]

def ir_penumbraref07_Turn : IR :=
 .call F.penumbraref05_Dot [.agg [.var 0, .var 1, .var 2, .var 3, .var 4, .var 5, .var 6, .var 7, .var 8], .agg [.var 36, .var 37, .var 38, .var 39, .var 40, .var 41, .var 42, .var 43, .var 44]] [.agg 3] <|
 .call F.penumbraref05_Dot [.agg [.var 9, .var 10, .var 11, .var 12, .var 13, .var 14, .var 15, .var 16, .var 17], .agg [.var 36, .var 37, .var 38, .var 39, .var 40, .var 41, .var 42, .var 43, .var 44]] [.agg 3] <|
 .call F.penumbraref05_Dot [.agg [.var 18, .var 19, .var 20, .var 21, .var 22, .var 23, .var 24, .var 25, .var 26], .agg [.var 36, .var 37, .var 38, .var 39, .var 40, .var 41, .var 42, .var 43, .var 44]] [.agg 3] <|
 .ret [.agg [.var 45, .var 46, .var 47, .var 48, .var 49, .var 50, .var 51, .var 52, .var 53]]

def ir_penumbraref05_Add : IR :=
 .call F.penumbraref03_Add [.agg [.var 0, .var 1, .var 2], .agg [.var 9, .var 10, .var 11]] [.agg 3] <|
 .call F.penumbraref03_Add [.agg [.var 3, .var 4, .var 5], .agg [.var 12, .var 13, .var 14]] [.agg 3] <|
 .call F.penumbraref03_Add [.agg [.var 6, .var 7, .var 8], .agg [.var 15, .var 16, .var 17]] [.agg 3] <|
 .ret [.agg [.var 18, .var 19, .var 20, .var 21, .var 22, .var 23, .var 24, .var 25, .var 26]]

def ir_penumbraref07_Apply : IR :=
 .call F.penumbraref07_Turn [.agg [.var 0, .var 1, .var 2, .var 3, .var 4, .var 5, .var 6, .var 7, .var 8, .var 9, .var 10, .var 11, .var 12, .var 13, .var 14, .var 15, .var 16, .var 17, .var 18, .var 19, .var 20, .var 21, .var 22, .var 23, .var 24, .var 25, .var 26, .var 27, .var 28, .var 29, .var 30, .var 31, .var 32, .var 33, .var 34, .var 35], .agg [.var 36, .var 37, .var 38, .var 39, .var 40, .var 41, .var 42, .var 43, .var 44]] [.agg 9] <|
 .call F.penumbraref05_Add [.agg [.var 45, .var 46, .var 47, .var 48, .var 49, .var 50, .var 51, .var 52, .var 53], .agg [.var 27, .var 28, .var 29, .var 30, .var 31, .var 32, .var 33, .var 34, .var 35]] [.agg 9] <|
 .ret [.agg [.var 54, .var 55, .var 56, .var 57, .var 58, .var 59, .var 60, .var 61, .var 62]]

def ir_penumbraref05_Sub : IR :=
 .call F.penumbraref03_Sub [.agg [.var 0, .var 1, .var 2], .agg [.var 9, .var 10, .var 11]] [.agg 3] <|
 .call F.penumbraref03_Sub [.agg [.var 3, .var 4, .var 5], .agg [.var 12, .var 13, .var 14]] [.agg 3] <|
 .call F.penumbraref03_Sub [.agg [.var 6, .var 7, .var 8], .agg [.var 15, .var 16, .var 17]] [.agg 3] <|
 .ret [.agg [.var 18, .var 19, .var 20, .var 21, .var 22, .var 23, .var 24, .var 25, .var 26]]

def ir_penumbraref16_Way : IR :=
 .call F.penumbraref07_Apply [.agg [.var 36, .var 37, .var 38, .var 39, .var 40, .var 41, .var 42, .var 43, .var 44, .var 45, .var 46, .var 47, .var 48, .var 49, .var 50, .var 51, .var 52, .var 53, .var 54, .var 55, .var 56, .var 57, .var 58, .var 59, .var 60, .var 61, .var 62, .var 63, .var 64, .var 65, .var 66, .var 67, .var 68, .var 69, .var 70, .var 71], .agg [.var 18, .var 19, .var 20, .var 21, .var 22, .var 23, .var 24, .var 25, .var 26]] [.agg 9] <|
 .call F.penumbraref05_Sub [.agg [.var 72, .var 73, .var 74, .var 75, .var 76, .var 77, .var 78, .var 79, .var 80], .agg [.var 0, .var 1, .var 2, .var 3, .var 4, .var 5, .var 6, .var 7, .var 8]] [.agg 9] <|
 .ret [.agg [.var 81, .var 82, .var 83, .var 84, .var 85, .var 86, .var 87, .var 88, .var 89]]

def ir_penumbraref07_Area : IR :=
 .call F.penumbraref05_Cross [.agg [.var 9, .var 10, .var 11, .var 12, .var 13, .var 14, .var 15, .var 16, .var 17], .agg [.var 18, .var 19, .var 20, .var 21, .var 22, .var 23, .var 24, .var 25, .var 26]] [.agg 9] <|
 .call F.penumbraref05_Dot [.agg [.var 45, .var 46, .var 47, .var 48, .var 49, .var 50, .var 51, .var 52, .var 53], .agg [.var 36, .var 37, .var 38, .var 39, .var 40, .var 41, .var 42, .var 43, .var 44]] [.agg 3] <|
 .call F.penumbraref05_Cross [.agg [.var 18, .var 19, .var 20, .var 21, .var 22, .var 23, .var 24, .var 25, .var 26], .agg [.var 0, .var 1, .var 2, .var 3, .var 4, .var 5, .var 6, .var 7, .var 8]] [.agg 9] <|
 .call F.penumbraref05_Dot [.agg [.var 57, .var 58, .var 59, .var 60, .var 61, .var 62, .var 63, .var 64, .var 65], .agg [.var 36, .var 37, .var 38, .var 39, .var 40, .var 41, .var 42, .var 43, .var 44]] [.agg 3] <|
 .call F.penumbraref05_Cross [.agg [.var 0, .var 1, .var 2, .var 3, .var 4, .var 5, .var 6, .var 7, .var 8], .agg [.var 9, .var 10, .var 11, .var 12, .var 13, .var 14, .var 15, .var 16, .var 17]] [.agg 9] <|
 .call F.penumbraref05_Dot [.agg [.var 69, .var 70, .var 71, .var 72, .var 73, .var 74, .var 75, .var 76, .var 77], .agg [.var 36, .var 37, .var 38, .var 39, .var 40, .var 41, .var 42, .var 43, .var 44]] [.agg 3] <|
 .ret [.agg [.var 54, .var 55, .var 56, .var 66, .var 67, .var 68, .var 78, .var 79, .var 80]]

def ir_penumbraref16_Wide : IR :=
 .call F.penumbraref07_Area [.agg [.var 36, .var 37, .var 38, .var 39, .var 40, .var 41, .var 42, .var 43, .var 44, .var 45, .var 46, .var 47, .var 48, .var 49, .var 50, .var 51, .var 52, .var 53, .var 54, .var 55, .var 56, .var 57, .var 58, .var 59, .var 60, .var 61, .var 62, .var 63, .var 64, .var 65, .var 66, .var 67, .var 68, .var 69, .var 70, .var 71], .agg [.var 27, .var 28, .var 29, .var 30, .var 31, .var 32, .var 33, .var 34, .var 35]] [.agg 9] <|
 .call F.penumbraref16_Way [.agg [.var 0, .var 1, .var 2, .var 3, .var 4, .var 5, .var 6, .var 7, .var 8, .var 9, .var 10, .var 11, .var 12, .var 13, .var 14, .var 15, .var 16, .var 17], .agg [.var 18, .var 19, .var 20, .var 21, .var 22, .var 23, .var 24, .var 25, .var 26, .var 27, .var 28, .var 29, .var 30, .var 31, .var 32, .var 33, .var 34, .var 35], .agg [.var 36, .var 37, .var 38, .var 39, .var 40, .var 41, .var 42, .var 43, .var 44, .var 45, .var 46, .var 47, .var 48, .var 49, .var 50, .var 51, .var 52, .var 53, .var 54, .var 55, .var 56, .var 57, .var 58, .var 59, .var 60, .var 61, .var 62, .var 63, .var 64, .var 65, .var 66, .var 67, .var 68, .var 69, .var 70, .var 71]] [.agg 9] <|
 .call F.penumbraref05_Dot [.agg [.var 72, .var 73, .var 74, .var 75, .var 76, .var 77, .var 78, .var 79, .var 80], .agg [.var 81, .var 82, .var 83, .var 84, .var 85, .var 86, .var 87, .var 88, .var 89]] [.agg 3] <|
 .ret [.agg [.var 90, .var 91, .var 92]]

def ir_penumbraref16_unit : IR :=
 .call F.penumbraref05_Dot [.agg [.var 0, .var 1, .var 2, .var 3, .var 4, .var 5, .var 6, .var 7, .var 8], .agg [.var 0, .var 1, .var 2, .var 3, .var 4, .var 5, .var 6, .var 7, .var 8]] [.agg 3] <|
 .call F.penumbraref03_One [] [.agg 3] <|
 .call F.penumbraref03_Is [.agg [.var 9, .var 10, .var 11], .agg [.var 12, .var 13, .var 14]] [.one] <|
 .ret [.one (.var 15)]

def ir_penumbraref16_Seen : IR :=
 .call F.penumbraref07_Det [.agg [.var 36, .var 37, .var 38, .var 39, .var 40, .var 41, .var 42, .var 43, .var 44, .var 45, .var 46, .var 47, .var 48, .var 49, .var 50, .var 51, .var 52, .var 53, .var 54, .var 55, .var 56, .var 57, .var 58, .var 59, .var 60, .var 61, .var 62, .var 63, .var 64, .var 65, .var 66, .var 67, .var 68, .var 69, .var 70, .var 71]] [.agg 3] <|
 .call F.penumbraref16_Way [.agg [.var 0, .var 1, .var 2, .var 3, .var 4, .var 5, .var 6, .var 7, .var 8, .var 9, .var 10, .var 11, .var 12, .var 13, .var 14, .var 15, .var 16, .var 17], .agg [.var 18, .var 19, .var 20, .var 21, .var 22, .var 23, .var 24, .var 25, .var 26, .var 27, .var 28, .var 29, .var 30, .var 31, .var 32, .var 33, .var 34, .var 35], .agg [.var 36, .var 37, .var 38, .var 39, .var 40, .var 41, .var 42, .var 43, .var 44, .var 45, .var 46, .var 47, .var 48, .var 49, .var 50, .var 51, .var 52, .var 53, .var 54, .var 55, .var 56, .var 57, .var 58, .var 59, .var 60, .var 61, .var 62, .var 63, .var 64, .var 65, .var 66, .var 67, .var 68, .var 69, .var 70, .var 71]] [.agg 9] <|
 .call F.penumbraref05_Dot [.agg [.var 75, .var 76, .var 77, .var 78, .var 79, .var 80, .var 81, .var 82, .var 83], .agg [.var 9, .var 10, .var 11, .var 12, .var 13, .var 14, .var 15, .var 16, .var 17]] [.agg 3] <|
 .call F.penumbraref16_Wide [.agg [.var 0, .var 1, .var 2, .var 3, .var 4, .var 5, .var 6, .var 7, .var 8, .var 9, .var 10, .var 11, .var 12, .var 13, .var 14, .var 15, .var 16, .var 17], .agg [.var 18, .var 19, .var 20, .var 21, .var 22, .var 23, .var 24, .var 25, .var 26, .var 27, .var 28, .var 29, .var 30, .var 31, .var 32, .var 33, .var 34, .var 35], .agg [.var 36, .var 37, .var 38, .var 39, .var 40, .var 41, .var 42, .var 43, .var 44, .var 45, .var 46, .var 47, .var 48, .var 49, .var 50, .var 51, .var 52, .var 53, .var 54, .var 55, .var 56, .var 57, .var 58, .var 59, .var 60, .var 61, .var 62, .var 63, .var 64, .var 65, .var 66, .var 67, .var 68, .var 69, .var 70, .var 71]] [.agg 3] <|
 .call F.penumbraref16_unit [.agg [.var 9, .var 10, .var 11, .var 12, .var 13, .var 14, .var 15, .var 16, .var 17]] [.one] <|
 .ite (.var 90) (
  .call F.penumbraref16_unit [.agg [.var 27, .var 28, .var 29, .var 30, .var 31, .var 32, .var 33, .var 34, .var 35]] [.one] <|
  .ite (.var 91) (
   .call F.penumbraref03_Sign [.agg [.var 72, .var 73, .var 74]] [.one] <|
   .prim (.bin .neq) [.var 92, .int .i64 (0)] <|
   .ite (.var 93) (
    .call F.penumbraref03_Sign [.agg [.var 84, .var 85, .var 86]] [.one] <|
    .prim (.bin .gtr) [.var 94, .int .i64 (0)] <|
    .ite (.var 95) (
     .call F.penumbraref03_Mul [.agg [.var 87, .var 88, .var 89], .agg [.var 72, .var 73, .var 74]] [.agg 3] <|
     .call F.penumbraref03_Sign [.agg [.var 96, .var 97, .var 98]] [.one] <|
     .prim (.bin .lss) [.var 99, .int .i64 (0)] <|
     .ret [.one (.var 100)]) (
     .ret [.one (.bol false)])) (
    .ret [.one (.bol false)])) (
   .ret [.one (.bol false)])) (
  .ret [.one (.bol false)])

def ir_penumbraref05_Zero : IR :=
 .call F.penumbraref03_Zero [] [.agg 3] <|
 .call F.penumbraref03_Zero [] [.agg 3] <|
 .call F.penumbraref03_Zero [] [.agg 3] <|
 .ret [.agg [.var 0, .var 1, .var 2, .var 3, .var 4, .var 5, .var 6, .var 7, .var 8]]

def ir_penumbraref05_Read : IR :=
 .call F.penumbraref03_Read [.agg [.var 0, .var 1, .var 2]] [.agg 3] <|
 .call F.penumbraref03_Read [.agg [.var 3, .var 4, .var 5]] [.agg 3] <|
 .call F.penumbraref03_Read [.agg [.var 6, .var 7, .var 8]] [.agg 3] <|
 .ret [.agg [.var 9, .var 10, .var 11, .var 12, .var 13, .var 14, .var 15, .var 16, .var 17]]

def ir_penumbraref05_Is : IR :=
 .call F.penumbraref03_Is [.agg [.var 0, .var 1, .var 2], .agg [.var 9, .var 10, .var 11]] [.one] <|
 .ite (.var 18) (
  .call F.penumbraref03_Is [.agg [.var 3, .var 4, .var 5], .agg [.var 12, .var 13, .var 14]] [.one] <|
  .ite (.var 19) (
   .call F.penumbraref03_Is [.agg [.var 6, .var 7, .var 8], .agg [.var 15, .var 16, .var 17]] [.one] <|
   .ret [.one (.var 20)]) (
   .ret [.one (.bol false)])) (
  .ret [.one (.bol false)])

def ir_penumbraref05_Null : IR :=
 .call F.penumbraref05_Read [.agg [.var 0, .var 1, .var 2, .var 3, .var 4, .var 5, .var 6, .var 7, .var 8]] [.agg 9] <|
 .call F.penumbraref05_Zero [] [.agg 9] <|
 .call F.penumbraref05_Is [.agg [.var 9, .var 10, .var 11, .var 12, .var 13, .var 14, .var 15, .var 16, .var 17], .agg [.var 18, .var 19, .var 20, .var 21, .var 22, .var 23, .var 24, .var 25, .var 26]] [.one] <|
 .ret [.one (.var 27)]

def ir_penumbraref05_Scale : IR :=
 .call F.penumbraref03_Mul [.agg [.var 0, .var 1, .var 2], .agg [.var 3, .var 4, .var 5]] [.agg 3] <|
 .call F.penumbraref03_Mul [.agg [.var 0, .var 1, .var 2], .agg [.var 6, .var 7, .var 8]] [.agg 3] <|
 .call F.penumbraref03_Mul [.agg [.var 0, .var 1, .var 2], .agg [.var 9, .var 10, .var 11]] [.agg 3] <|
 .ret [.agg [.var 12, .var 13, .var 14, .var 15, .var 16, .var 17, .var 18, .var 19, .var 20]]

def ir_penumbraref06_Of : IR :=
 .call F.penumbraref05_Dot [.agg [.var 0, .var 1, .var 2, .var 3, .var 4, .var 5, .var 6, .var 7, .var 8], .agg [.var 0, .var 1, .var 2, .var 3, .var 4, .var 5, .var 6, .var 7, .var 8]] [.agg 3] <|
 .call F.penumbraref03_One [] [.agg 3] <|
 .call F.penumbraref03_Is [.agg [.var 9, .var 10, .var 11], .agg [.var 12, .var 13, .var 14]] [.one] <|
 .prim .not [.var 15] <|
 .ite (.var 16) (
  .call F.penumbraref05_Zero [] [.agg 9] <|
  .call F.penumbraref05_Zero [] [.agg 9] <|
  .call F.penumbraref05_Zero [] [.agg 9] <|
  .ret [.agg [.var 17, .var 18, .var 19, .var 20, .var 21, .var 22, .var 23, .var 24, .var 25, .var 26, .var 27, .var 28, .var 29, .var 30, .var 31, .var 32, .var 33, .var 34, .var 35, .var 36, .var 37, .var 38, .var 39, .var 40, .var 41, .var 42, .var 43], .one (.bol false)]) (
  .call F.penumbraref05_Of [.one (.int .i64 (0)), .one (.int .i64 (0)), .one (.int .i64 (1))] [.agg 9] <|
  .call F.penumbraref05_Sub [.agg [.var 17, .var 18, .var 19, .var 20, .var 21, .var 22, .var 23, .var 24, .var 25], .agg [.var 0, .var 1, .var 2, .var 3, .var 4, .var 5, .var 6, .var 7, .var 8]] [.agg 9] <|
  .call F.penumbraref05_Null [.agg [.var 26, .var 27, .var 28, .var 29, .var 30, .var 31, .var 32, .var 33, .var 34]] [.one] <|
  .ite (.var 35) (
   .call F.penumbraref05_Of [.one (.int .i64 (1)), .one (.int .i64 (0)), .one (.int .i64 (0))] [.agg 9] <|
   .call F.penumbraref05_Of [.one (.int .i64 (0)), .one (.int .i64 (1)), .one (.int .i64 (0))] [.agg 9] <|
   .call F.penumbraref05_Of [.one (.int .i64 (0)), .one (.int .i64 (0)), .one (.int .i64 (1))] [.agg 9] <|
   .ret [.agg [.var 36, .var 37, .var 38, .var 39, .var 40, .var 41, .var 42, .var 43, .var 44, .var 45, .var 46, .var 47, .var 48, .var 49, .var 50, .var 51, .var 52, .var 53, .var 54, .var 55, .var 56, .var 57, .var 58, .var 59, .var 60, .var 61, .var 62], .one (.bol true)]) (
   .call F.penumbraref05_Dot [.agg [.var 26, .var 27, .var 28, .var 29, .var 30, .var 31, .var 32, .var 33, .var 34], .agg [.var 26, .var 27, .var 28, .var 29, .var 30, .var 31, .var 32, .var 33, .var 34]] [.agg 3] <|
   .call F.penumbraref03_Of [.one (.int .i64 (2)), .one (.int .i64 (1))] [.agg 3] <|
   .call F.penumbraref03_Mul [.agg [.var 39, .var 40, .var 41], .agg [.var 26, .var 27, .var 28]] [.agg 3] <|
   .call F.penumbraref03_Over [.agg [.var 42, .var 43, .var 44], .agg [.var 36, .var 37, .var 38]] [.agg 3] <|
   .call F.penumbraref03_Of [.one (.int .i64 (2)), .one (.int .i64 (1))] [.agg 3] <|
   .call F.penumbraref03_Mul [.agg [.var 48, .var 49, .var 50], .agg [.var 29, .var 30, .var 31]] [.agg 3] <|
   .call F.penumbraref03_Over [.agg [.var 51, .var 52, .var 53], .agg [.var 36, .var 37, .var 38]] [.agg 3] <|
   .call F.penumbraref05_Of [.one (.int .i64 (1)), .one (.int .i64 (0)), .one (.int .i64 (0))] [.agg 9] <|
   .call F.penumbraref05_Scale [.agg [.var 45, .var 46, .var 47], .agg [.var 26, .var 27, .var 28, .var 29, .var 30, .var 31, .var 32, .var 33, .var 34]] [.agg 9] <|
   .call F.penumbraref05_Sub [.agg [.var 57, .var 58, .var 59, .var 60, .var 61, .var 62, .var 63, .var 64, .var 65], .agg [.var 66, .var 67, .var 68, .var 69, .var 70, .var 71, .var 72, .var 73, .var 74]] [.agg 9] <|
   .call F.penumbraref05_Of [.one (.int .i64 (0)), .one (.int .i64 (1)), .one (.int .i64 (0))] [.agg 9] <|
   .call F.penumbraref05_Scale [.agg [.var 54, .var 55, .var 56], .agg [.var 26, .var 27, .var 28, .var 29, .var 30, .var 31, .var 32, .var 33, .var 34]] [.agg 9] <|
   .call F.penumbraref05_Sub [.agg [.var 84, .var 85, .var 86, .var 87, .var 88, .var 89, .var 90, .var 91, .var 92], .agg [.var 93, .var 94, .var 95, .var 96, .var 97, .var 98, .var 99, .var 100, .var 101]] [.agg 9] <|
   .call F.penumbraref05_Read [.agg [.var 0, .var 1, .var 2, .var 3, .var 4, .var 5, .var 6, .var 7, .var 8]] [.agg 9] <|
   .ret [.agg [.var 75, .var 76, .var 77, .var 78, .var 79, .var 80, .var 81, .var 82, .var 83, .var 102, .var 103, .var 104, .var 105, .var 106, .var 107, .var 108, .var 109, .var 110, .var 111, .var 112, .var 113, .var 114, .var 115, .var 116, .var 117, .var 118, .var 119], .one (.bol true)]))

def ir_penumbraref06_In : IR :=
 .call F.penumbraref05_Dot [.agg [.var 27, .var 28, .var 29, .var 30, .var 31, .var 32, .var 33, .var 34, .var 35], .agg [.var 0, .var 1, .var 2, .var 3, .var 4, .var 5, .var 6, .var 7, .var 8]] [.agg 3] <|
 .call F.penumbraref05_Dot [.agg [.var 27, .var 28, .var 29, .var 30, .var 31, .var 32, .var 33, .var 34, .var 35], .agg [.var 9, .var 10, .var 11, .var 12, .var 13, .var 14, .var 15, .var 16, .var 17]] [.agg 3] <|
 .call F.penumbraref05_Dot [.agg [.var 27, .var 28, .var 29, .var 30, .var 31, .var 32, .var 33, .var 34, .var 35], .agg [.var 18, .var 19, .var 20, .var 21, .var 22, .var 23, .var 24, .var 25, .var 26]] [.agg 3] <|
 .ret [.agg [.var 36, .var 37, .var 38, .var 39, .var 40, .var 41, .var 42, .var 43, .var 44]]

def ir_penumbraref06_Slopes : IR :=
 .call F.penumbraref06_In [.agg [.var 0, .var 1, .var 2, .var 3, .var 4, .var 5, .var 6, .var 7, .var 8, .var 9, .var 10, .var 11, .var 12, .var 13, .var 14, .var 15, .var 16, .var 17, .var 18, .var 19, .var 20, .var 21, .var 22, .var 23, .var 24, .var 25, .var 26], .agg [.var 27, .var 28, .var 29, .var 30, .var 31, .var 32, .var 33, .var 34, .var 35]] [.agg 9] <|
 .call F.penumbraref03_Sign [.agg [.var 42, .var 43, .var 44]] [.one] <|
 .prim (.bin .eql) [.var 45, .int .i64 (0)] <|
 .ite (.var 46) (
  .call F.penumbraref03_Zero [] [.agg 3] <|
  .call F.penumbraref03_Zero [] [.agg 3] <|
  .call F.penumbraref03_Zero [] [.agg 3] <|
  .ret [.agg [.var 47, .var 48, .var 49], .agg [.var 50, .var 51, .var 52], .agg [.var 53, .var 54, .var 55], .one (.bol false)]) (
  .call F.penumbraref03_Over [.agg [.var 36, .var 37, .var 38], .agg [.var 42, .var 43, .var 44]] [.agg 3] <|
  .call F.penumbraref03_Over [.agg [.var 39, .var 40, .var 41], .agg [.var 42, .var 43, .var 44]] [.agg 3] <|
  .ret [.agg [.var 47, .var 48, .var 49], .agg [.var 50, .var 51, .var 52], .agg [.var 42, .var 43, .var 44], .one (.bol true)])

def ir_penumbraref16_Slopes : IR :=
 .call F.penumbraref06_Of [.agg [.var 9, .var 10, .var 11, .var 12, .var 13, .var 14, .var 15, .var 16, .var 17]] [.agg 27, .one] <|
 .call F.penumbraref16_Way [.agg [.var 0, .var 1, .var 2, .var 3, .var 4, .var 5, .var 6, .var 7, .var 8, .var 9, .var 10, .var 11, .var 12, .var 13, .var 14, .var 15, .var 16, .var 17], .agg [.var 18, .var 19, .var 20, .var 21, .var 22, .var 23, .var 24, .var 25, .var 26, .var 27, .var 28, .var 29, .var 30, .var 31, .var 32, .var 33, .var 34, .var 35], .agg [.var 36, .var 37, .var 38, .var 39, .var 40, .var 41, .var 42, .var 43, .var 44, .var 45, .var 46, .var 47, .var 48, .var 49, .var 50, .var 51, .var 52, .var 53, .var 54, .var 55, .var 56, .var 57, .var 58, .var 59, .var 60, .var 61, .var 62, .var 63, .var 64, .var 65, .var 66, .var 67, .var 68, .var 69, .var 70, .var 71]] [.agg 9] <|
 .call F.penumbraref06_Slopes [.agg [.var 72, .var 73, .var 74, .var 75, .var 76, .var 77, .var 78, .var 79, .var 80, .var 81, .var 82, .var 83, .var 84, .var 85, .var 86, .var 87, .var 88, .var 89, .var 90, .var 91, .var 92, .var 93, .var 94, .var 95, .var 96, .var 97, .var 98], .agg [.var 100, .var 101, .var 102, .var 103, .var 104, .var 105, .var 106, .var 107, .var 108]] [.agg 3, .agg 3, .agg 3, .one] <|
 .ret [.agg [.var 109, .var 110, .var 111], .agg [.var 112, .var 113, .var 114], .agg [.var 115, .var 116, .var 117]]

def ir_penumbraref14_Density : IR :=
 .call F.penumbraref03_One [] [.agg 3] <|
 .call F.penumbraref03_Abs [.agg [.var 0, .var 1, .var 2]] [.agg 3] <|
 .call F.penumbraref03_Add [.agg [.var 3, .var 4, .var 5], .agg [.var 6, .var 7, .var 8]] [.agg 3] <|
 .call F.penumbraref03_One [] [.agg 3] <|
 .call F.penumbraref03_Of [.one (.int .i64 (2)), .one (.int .i64 (1))] [.agg 3] <|
 .call F.penumbraref03_Mul [.agg [.var 9, .var 10, .var 11], .agg [.var 9, .var 10, .var 11]] [.agg 3] <|
 .call F.penumbraref03_Mul [.agg [.var 15, .var 16, .var 17], .agg [.var 18, .var 19, .var 20]] [.agg 3] <|
 .call F.penumbraref03_Over [.agg [.var 12, .var 13, .var 14], .agg [.var 21, .var 22, .var 23]] [.agg 3] <|
 .ret [.agg [.var 24, .var 25, .var 26]]

def ir_penumbraref16_three : IR :=
 .call F.penumbraref03_Mul [.agg [.var 0, .var 1, .var 2], .agg [.var 0, .var 1, .var 2]] [.agg 3] <|
 .call F.penumbraref03_Mul [.agg [.var 0, .var 1, .var 2], .agg [.var 3, .var 4, .var 5]] [.agg 3] <|
 .ret [.agg [.var 6, .var 7, .var 8]]

def ir_penumbraref16_Ahead : IR :=
 .call F.penumbraref16_Seen [.agg [.var 0, .var 1, .var 2, .var 3, .var 4, .var 5, .var 6, .var 7, .var 8, .var 9, .var 10, .var 11, .var 12, .var 13, .var 14, .var 15, .var 16, .var 17], .agg [.var 18, .var 19, .var 20, .var 21, .var 22, .var 23, .var 24, .var 25, .var 26, .var 27, .var 28, .var 29, .var 30, .var 31, .var 32, .var 33, .var 34, .var 35], .agg [.var 36, .var 37, .var 38, .var 39, .var 40, .var 41, .var 42, .var 43, .var 44, .var 45, .var 46, .var 47, .var 48, .var 49, .var 50, .var 51, .var 52, .var 53, .var 54, .var 55, .var 56, .var 57, .var 58, .var 59, .var 60, .var 61, .var 62, .var 63, .var 64, .var 65, .var 66, .var 67, .var 68, .var 69, .var 70, .var 71]] [.one] <|
 .prim .not [.var 72] <|
 .ite (.var 73) (
  .call F.penumbraref03_Zero [] [.agg 3] <|
  .ret [.agg [.var 74, .var 75, .var 76]]) (
  .call F.penumbraref16_Slopes [.agg [.var 0, .var 1, .var 2, .var 3, .var 4, .var 5, .var 6, .var 7, .var 8, .var 9, .var 10, .var 11, .var 12, .var 13, .var 14, .var 15, .var 16, .var 17], .agg [.var 18, .var 19, .var 20, .var 21, .var 22, .var 23, .var 24, .var 25, .var 26, .var 27, .var 28, .var 29, .var 30, .var 31, .var 32, .var 33, .var 34, .var 35], .agg [.var 36, .var 37, .var 38, .var 39, .var 40, .var 41, .var 42, .var 43, .var 44, .var 45, .var 46, .var 47, .var 48, .var 49, .var 50, .var 51, .var 52, .var 53, .var 54, .var 55, .var 56, .var 57, .var 58, .var 59, .var 60, .var 61, .var 62, .var 63, .var 64, .var 65, .var 66, .var 67, .var 68, .var 69, .var 70, .var 71]] [.agg 3, .agg 3, .agg 3] <|
  .call F.penumbraref14_Density [.agg [.var 74, .var 75, .var 76]] [.agg 3] <|
  .call F.penumbraref14_Density [.agg [.var 77, .var 78, .var 79]] [.agg 3] <|
  .call F.penumbraref03_Mul [.agg [.var 83, .var 84, .var 85], .agg [.var 86, .var 87, .var 88]] [.agg 3] <|
  .call F.penumbraref16_Wide [.agg [.var 0, .var 1, .var 2, .var 3, .var 4, .var 5, .var 6, .var 7, .var 8, .var 9, .var 10, .var 11, .var 12, .var 13, .var 14, .var 15, .var 16, .var 17], .agg [.var 18, .var 19, .var 20, .var 21, .var 22, .var 23, .var 24, .var 25, .var 26, .var 27, .var 28, .var 29, .var 30, .var 31, .var 32, .var 33, .var 34, .var 35], .agg [.var 36, .var 37, .var 38, .var 39, .var 40, .var 41, .var 42, .var 43, .var 44, .var 45, .var 46, .var 47, .var 48, .var 49, .var 50, .var 51, .var 52, .var 53, .var 54, .var 55, .var 56, .var 57, .var 58, .var 59, .var 60, .var 61, .var 62, .var 63, .var 64, .var 65, .var 66, .var 67, .var 68, .var 69, .var 70, .var 71]] [.agg 3] <|
  .call F.penumbraref03_Abs [.agg [.var 92, .var 93, .var 94]] [.agg 3] <|
  .call F.penumbraref03_Mul [.agg [.var 89, .var 90, .var 91], .agg [.var 95, .var 96, .var 97]] [.agg 3] <|
  .call F.penumbraref16_three [.agg [.var 80, .var 81, .var 82]] [.agg 3] <|
  .call F.penumbraref03_Over [.agg [.var 98, .var 99, .var 100], .agg [.var 101, .var 102, .var 103]] [.agg 3] <|
  .ret [.agg [.var 104, .var 105, .var 106]])

def ir_penumbraref16_Transfer : IR :=
 .call F.penumbraref16_Seen [.agg [.var 0, .var 1, .var 2, .var 3, .var 4, .var 5, .var 6, .var 7, .var 8, .var 9, .var 10, .var 11, .var 12, .var 13, .var 14, .var 15, .var 16, .var 17], .agg [.var 18, .var 19, .var 20, .var 21, .var 22, .var 23, .var 24, .var 25, .var 26, .var 27, .var 28, .var 29, .var 30, .var 31, .var 32, .var 33, .var 34, .var 35], .agg [.var 36, .var 37, .var 38, .var 39, .var 40, .var 41, .var 42, .var 43, .var 44, .var 45, .var 46, .var 47, .var 48, .var 49, .var 50, .var 51, .var 52, .var 53, .var 54, .var 55, .var 56, .var 57, .var 58, .var 59, .var 60, .var 61, .var 62, .var 63, .var 64, .var 65, .var 66, .var 67, .var 68, .var 69, .var 70, .var 71]] [.one] <|
 .prim .not [.var 72] <|
 .ite (.var 73) (
  .call F.penumbraref03_Zero [] [.agg 3] <|
  .ret [.agg [.var 74, .var 75, .var 76]]) (
  .call F.penumbraref16_Way [.agg [.var 0, .var 1, .var 2, .var 3, .var 4, .var 5, .var 6, .var 7, .var 8, .var 9, .var 10, .var 11, .var 12, .var 13, .var 14, .var 15, .var 16, .var 17], .agg [.var 18, .var 19, .var 20, .var 21, .var 22, .var 23, .var 24, .var 25, .var 26, .var 27, .var 28, .var 29, .var 30, .var 31, .var 32, .var 33, .var 34, .var 35], .agg [.var 36, .var 37, .var 38, .var 39, .var 40, .var 41, .var 42, .var 43, .var 44, .var 45, .var 46, .var 47, .var 48, .var 49, .var 50, .var 51, .var 52, .var 53, .var 54, .var 55, .var 56, .var 57, .var 58, .var 59, .var 60, .var 61, .var 62, .var 63, .var 64, .var 65, .var 66, .var 67, .var 68, .var 69, .var 70, .var 71]] [.agg 9] <|
  .call F.penumbraref05_Dot [.agg [.var 74, .var 75, .var 76, .var 77, .var 78, .var 79, .var 80, .var 81, .var 82], .agg [.var 74, .var 75, .var 76, .var 77, .var 78, .var 79, .var 80, .var 81, .var 82]] [.agg 3] <|
  .call F.penumbraref05_Dot [.agg [.var 74, .var 75, .var 76, .var 77, .var 78, .var 79, .var 80, .var 81, .var 82], .agg [.var 9, .var 10, .var 11, .var 12, .var 13, .var 14, .var 15, .var 16, .var 17]] [.agg 3] <|
  .call F.penumbraref16_Wide [.agg [.var 0, .var 1, .var 2, .var 3, .var 4, .var 5, .var 6, .var 7, .var 8, .var 9, .var 10, .var 11, .var 12, .var 13, .var 14, .var 15, .var 16, .var 17], .agg [.var 18, .var 19, .var 20, .var 21, .var 22, .var 23, .var 24, .var 25, .var 26, .var 27, .var 28, .var 29, .var 30, .var 31, .var 32, .var 33, .var 34, .var 35], .agg [.var 36, .var 37, .var 38, .var 39, .var 40, .var 41, .var 42, .var 43, .var 44, .var 45, .var 46, .var 47, .var 48, .var 49, .var 50, .var 51, .var 52, .var 53, .var 54, .var 55, .var 56, .var 57, .var 58, .var 59, .var 60, .var 61, .var 62, .var 63, .var 64, .var 65, .var 66, .var 67, .var 68, .var 69, .var 70, .var 71]] [.agg 3] <|
  .call F.penumbraref03_Abs [.agg [.var 89, .var 90, .var 91]] [.agg 3] <|
  .call F.penumbraref03_Mul [.agg [.var 86, .var 87, .var 88], .agg [.var 92, .var 93, .var 94]] [.agg 3] <|
  .call F.penumbraref03_Mul [.agg [.var 83, .var 84, .var 85], .agg [.var 83, .var 84, .var 85]] [.agg 3] <|
  .call F.penumbraref03_Over [.agg [.var 95, .var 96, .var 97], .agg [.var 98, .var 99, .var 100]] [.agg 3] <|
  .ret [.agg [.var 101, .var 102, .var 103]])

def ir_penumbralaw16_DensTells : IR :=
 .call F.penumbralaw16_fixed [] [.one] <|
 .ite (.var 72) (
  .call F.dens_Ahead [.agg [.var 0, .var 1, .var 2, .var 3, .var 4, .var 5, .var 6, .var 7, .var 8, .var 9, .var 10, .var 11, .var 12, .var 13, .var 14, .var 15, .var 16, .var 17], .agg [.var 18, .var 19, .var 20, .var 21, .var 22, .var 23, .var 24, .var 25, .var 26, .var 27, .var 28, .var 29, .var 30, .var 31, .var 32, .var 33, .var 34, .var 35], .agg [.var 36, .var 37, .var 38, .var 39, .var 40, .var 41, .var 42, .var 43, .var 44, .var 45, .var 46, .var 47, .var 48, .var 49, .var 50, .var 51, .var 52, .var 53, .var 54, .var 55, .var 56, .var 57, .var 58, .var 59, .var 60, .var 61, .var 62, .var 63, .var 64, .var 65, .var 66, .var 67, .var 68, .var 69, .var 70, .var 71]] [.agg 3] <|
  .call F.penumbraref16_Ahead [.agg [.var 0, .var 1, .var 2, .var 3, .var 4, .var 5, .var 6, .var 7, .var 8, .var 9, .var 10, .var 11, .var 12, .var 13, .var 14, .var 15, .var 16, .var 17], .agg [.var 18, .var 19, .var 20, .var 21, .var 22, .var 23, .var 24, .var 25, .var 26, .var 27, .var 28, .var 29, .var 30, .var 31, .var 32, .var 33, .var 34, .var 35], .agg [.var 36, .var 37, .var 38, .var 39, .var 40, .var 41, .var 42, .var 43, .var 44, .var 45, .var 46, .var 47, .var 48, .var 49, .var 50, .var 51, .var 52, .var 53, .var 54, .var 55, .var 56, .var 57, .var 58, .var 59, .var 60, .var 61, .var 62, .var 63, .var 64, .var 65, .var 66, .var 67, .var 68, .var 69, .var 70, .var 71]] [.agg 3] <|
  .call F.penumbraref03_Is [.agg [.var 73, .var 74, .var 75], .agg [.var 76, .var 77, .var 78]] [.one] <|
  .ite (.var 79) (
   .call F.dens_Transfer [.agg [.var 0, .var 1, .var 2, .var 3, .var 4, .var 5, .var 6, .var 7, .var 8, .var 9, .var 10, .var 11, .var 12, .var 13, .var 14, .var 15, .var 16, .var 17], .agg [.var 18, .var 19, .var 20, .var 21, .var 22, .var 23, .var 24, .var 25, .var 26, .var 27, .var 28, .var 29, .var 30, .var 31, .var 32, .var 33, .var 34, .var 35], .agg [.var 36, .var 37, .var 38, .var 39, .var 40, .var 41, .var 42, .var 43, .var 44, .var 45, .var 46, .var 47, .var 48, .var 49, .var 50, .var 51, .var 52, .var 53, .var 54, .var 55, .var 56, .var 57, .var 58, .var 59, .var 60, .var 61, .var 62, .var 63, .var 64, .var 65, .var 66, .var 67, .var 68, .var 69, .var 70, .var 71]] [.agg 3] <|
   .call F.penumbraref16_Transfer [.agg [.var 0, .var 1, .var 2, .var 3, .var 4, .var 5, .var 6, .var 7, .var 8, .var 9, .var 10, .var 11, .var 12, .var 13, .var 14, .var 15, .var 16, .var 17], .agg [.var 18, .var 19, .var 20, .var 21, .var 22, .var 23, .var 24, .var 25, .var 26, .var 27, .var 28, .var 29, .var 30, .var 31, .var 32, .var 33, .var 34, .var 35], .agg [.var 36, .var 37, .var 38, .var 39, .var 40, .var 41, .var 42, .var 43, .var 44, .var 45, .var 46, .var 47, .var 48, .var 49, .var 50, .var 51, .var 52, .var 53, .var 54, .var 55, .var 56, .var 57, .var 58, .var 59, .var 60, .var 61, .var 62, .var 63, .var 64, .var 65, .var 66, .var 67, .var 68, .var 69, .var 70, .var 71]] [.agg 3] <|
   .call F.penumbraref03_Is [.agg [.var 80, .var 81, .var 82], .agg [.var 83, .var 84, .var 85]] [.one] <|
   .ret [.one (.var 86)]) (
   .ret [.one (.bol false)])) (
  .ret [.one (.bol false)])

theorem tree_affine_Identity : symFunc Go.Proofs.Tryz.prog H0 400 F.affine_Identity [] = some ir_affine_Identity := by kernel_rfl
theorem tree_vec_Dot : symFunc Go.Proofs.Tryz.prog H0 400 F.vec_Dot [.agg 9, .agg 9] = some ir_vec_Dot := by kernel_rfl
theorem tree_vec_Sub : symFunc Go.Proofs.Tryz.prog H0 400 F.vec_Sub [.agg 9, .agg 9] = some ir_vec_Sub := by kernel_rfl
theorem tree_vec_Scale : symFunc Go.Proofs.Tryz.prog H0 400 F.vec_Scale [.agg 3, .agg 9] = some ir_vec_Scale := by kernel_rfl
theorem tree_vec_Read : symFunc Go.Proofs.Tryz.prog H0 400 F.vec_Read [.agg 9] = some ir_vec_Read := by kernel_rfl
theorem tree_frame_Of : symFunc Go.Proofs.Tryz.prog H0 400 F.frame_Of [.agg 9] = some ir_frame_Of := by kernel_rfl
theorem tree_affine_Turn : symFunc Go.Proofs.Tryz.prog H0 400 F.affine_Turn [.agg 36, .agg 9] = some ir_affine_Turn := by kernel_rfl
theorem tree_affine_Apply : symFunc Go.Proofs.Tryz.prog H0 400 F.affine_Apply [.agg 36, .agg 9] = some ir_affine_Apply := by kernel_rfl
theorem tree_vec_minor : symFunc Go.Proofs.Tryz.prog H0 400 F.vec_minor [.agg 3, .agg 3, .agg 3, .agg 3] = some ir_vec_minor := by kernel_rfl
theorem tree_vec_Cross : symFunc Go.Proofs.Tryz.prog H0 400 F.vec_Cross [.agg 9, .agg 9] = some ir_vec_Cross := by kernel_rfl
theorem tree_affine_cofactors : symFunc Go.Proofs.Tryz.prog H0 400 F.affine_cofactors [.agg 36] = some ir_affine_cofactors := by kernel_rfl
theorem tree_affine_Area : symFunc Go.Proofs.Tryz.prog H0 400 F.affine_Area [.agg 36, .agg 9] = some ir_affine_Area := by kernel_rfl
theorem tree_affine_Det : symFunc Go.Proofs.Tryz.prog H0 400 F.affine_Det [.agg 36] = some ir_affine_Det := by kernel_rfl
theorem tree_dens_seen : symFunc Go.Proofs.Tryz.prog H0 400 F.dens_seen [.agg 18, .agg 18, .agg 36] = some ir_dens_seen := by kernel_rfl
theorem tree_frame_In : symFunc Go.Proofs.Tryz.prog H0 400 F.frame_In [.agg 27, .agg 9] = some ir_frame_In := by kernel_rfl
theorem tree_frame_Slopes : symFunc Go.Proofs.Tryz.prog H0 400 F.frame_Slopes [.agg 27, .agg 9] = some ir_frame_Slopes := by kernel_rfl
theorem tree_warp_one : symFunc Go.Proofs.Tryz.prog H0 400 F.warp_one [] = some ir_warp_one := by kernel_rfl
theorem tree_warp_over : symFunc Go.Proofs.Tryz.prog H0 400 F.warp_over [.agg 3, .agg 3] = some ir_warp_over := by kernel_rfl
theorem tree_warp_Density : symFunc Go.Proofs.Tryz.prog H0 400 F.warp_Density [.agg 3] = some ir_warp_Density := by kernel_rfl
theorem tree_dens_cube : symFunc Go.Proofs.Tryz.prog H0 400 F.dens_cube [.agg 3] = some ir_dens_cube := by kernel_rfl
theorem tree_dens_over : symFunc Go.Proofs.Tryz.prog H0 400 F.dens_over [.agg 3, .agg 3] = some ir_dens_over := by kernel_rfl
theorem tree_dens_Ahead : symFunc Go.Proofs.Tryz.prog H0 400 F.dens_Ahead [.agg 18, .agg 18, .agg 36] = some ir_dens_Ahead := by kernel_rfl
theorem tree_dens_Transfer : symFunc Go.Proofs.Tryz.prog H0 400 F.dens_Transfer [.agg 18, .agg 18, .agg 36] = some ir_dens_Transfer := by kernel_rfl
theorem tree_penumbralaw16_fixed : symFunc Go.Proofs.Tryz.prog H0 400 F.penumbralaw16_fixed [] = some ir_penumbralaw16_fixed := by kernel_rfl
theorem tree_penumbraref05_Cross : symFunc Go.Proofs.Tryz.prog H0 400 F.penumbraref05_Cross [.agg 9, .agg 9] = some ir_penumbraref05_Cross := by kernel_rfl
theorem tree_penumbraref05_Dot : symFunc Go.Proofs.Tryz.prog H0 400 F.penumbraref05_Dot [.agg 9, .agg 9] = some ir_penumbraref05_Dot := by kernel_rfl
theorem tree_penumbraref07_Det : symFunc Go.Proofs.Tryz.prog H0 400 F.penumbraref07_Det [.agg 36] = some ir_penumbraref07_Det := by kernel_rfl
theorem tree_penumbraref07_Turn : symFunc Go.Proofs.Tryz.prog H0 400 F.penumbraref07_Turn [.agg 36, .agg 9] = some ir_penumbraref07_Turn := by kernel_rfl
theorem tree_penumbraref05_Add : symFunc Go.Proofs.Tryz.prog H0 400 F.penumbraref05_Add [.agg 9, .agg 9] = some ir_penumbraref05_Add := by kernel_rfl
theorem tree_penumbraref07_Apply : symFunc Go.Proofs.Tryz.prog H0 400 F.penumbraref07_Apply [.agg 36, .agg 9] = some ir_penumbraref07_Apply := by kernel_rfl
theorem tree_penumbraref05_Sub : symFunc Go.Proofs.Tryz.prog H0 400 F.penumbraref05_Sub [.agg 9, .agg 9] = some ir_penumbraref05_Sub := by kernel_rfl
theorem tree_penumbraref16_Way : symFunc Go.Proofs.Tryz.prog H0 400 F.penumbraref16_Way [.agg 18, .agg 18, .agg 36] = some ir_penumbraref16_Way := by kernel_rfl
theorem tree_penumbraref07_Area : symFunc Go.Proofs.Tryz.prog H0 400 F.penumbraref07_Area [.agg 36, .agg 9] = some ir_penumbraref07_Area := by kernel_rfl
theorem tree_penumbraref16_Wide : symFunc Go.Proofs.Tryz.prog H0 400 F.penumbraref16_Wide [.agg 18, .agg 18, .agg 36] = some ir_penumbraref16_Wide := by kernel_rfl
theorem tree_penumbraref16_unit : symFunc Go.Proofs.Tryz.prog H0 400 F.penumbraref16_unit [.agg 9] = some ir_penumbraref16_unit := by kernel_rfl
theorem tree_penumbraref16_Seen : symFunc Go.Proofs.Tryz.prog H0 400 F.penumbraref16_Seen [.agg 18, .agg 18, .agg 36] = some ir_penumbraref16_Seen := by kernel_rfl
theorem tree_penumbraref05_Zero : symFunc Go.Proofs.Tryz.prog H0 400 F.penumbraref05_Zero [] = some ir_penumbraref05_Zero := by kernel_rfl
theorem tree_penumbraref05_Read : symFunc Go.Proofs.Tryz.prog H0 400 F.penumbraref05_Read [.agg 9] = some ir_penumbraref05_Read := by kernel_rfl
theorem tree_penumbraref05_Is : symFunc Go.Proofs.Tryz.prog H0 400 F.penumbraref05_Is [.agg 9, .agg 9] = some ir_penumbraref05_Is := by kernel_rfl
theorem tree_penumbraref05_Null : symFunc Go.Proofs.Tryz.prog H0 400 F.penumbraref05_Null [.agg 9] = some ir_penumbraref05_Null := by kernel_rfl
theorem tree_penumbraref05_Scale : symFunc Go.Proofs.Tryz.prog H0 400 F.penumbraref05_Scale [.agg 3, .agg 9] = some ir_penumbraref05_Scale := by kernel_rfl
theorem tree_penumbraref06_Of : symFunc Go.Proofs.Tryz.prog H0 400 F.penumbraref06_Of [.agg 9] = some ir_penumbraref06_Of := by kernel_rfl
theorem tree_penumbraref06_In : symFunc Go.Proofs.Tryz.prog H0 400 F.penumbraref06_In [.agg 27, .agg 9] = some ir_penumbraref06_In := by kernel_rfl
theorem tree_penumbraref06_Slopes : symFunc Go.Proofs.Tryz.prog H0 400 F.penumbraref06_Slopes [.agg 27, .agg 9] = some ir_penumbraref06_Slopes := by kernel_rfl
theorem tree_penumbraref16_Slopes : symFunc Go.Proofs.Tryz.prog H0 400 F.penumbraref16_Slopes [.agg 18, .agg 18, .agg 36] = some ir_penumbraref16_Slopes := by kernel_rfl
theorem tree_penumbraref14_Density : symFunc Go.Proofs.Tryz.prog H0 400 F.penumbraref14_Density [.agg 3] = some ir_penumbraref14_Density := by kernel_rfl
theorem tree_penumbraref16_three : symFunc Go.Proofs.Tryz.prog H0 400 F.penumbraref16_three [.agg 3] = some ir_penumbraref16_three := by kernel_rfl
theorem tree_penumbraref16_Ahead : symFunc Go.Proofs.Tryz.prog H0 400 F.penumbraref16_Ahead [.agg 18, .agg 18, .agg 36] = some ir_penumbraref16_Ahead := by kernel_rfl
theorem tree_penumbraref16_Transfer : symFunc Go.Proofs.Tryz.prog H0 400 F.penumbraref16_Transfer [.agg 18, .agg 18, .agg 36] = some ir_penumbraref16_Transfer := by kernel_rfl
theorem tree_penumbralaw16_DensTells : symFunc Go.Proofs.Tryz.prog H0 400 F.penumbralaw16_DensTells [.agg 18, .agg 18, .agg 36] = some ir_penumbralaw16_DensTells := by kernel_rfl
end Go.Px
namespace Go.Px.Na
open Go.RowKit
open Go.Proofs.Tryz (prog)

theorem n_affine_Identity_0 {Z0 Z1 : Rat} (Y0 : Z0 = (0 : Rat)) (Y1 : Z1 = (1 : Rat))    : PureCalls prog F.affine_Identity [] [.agg (gD [Z1, Z0, Z0, Z0, Z1, Z0, Z0, Z0, Z1, Z0, Z0, Z0])] := by
  refine symFunc_sound hmix tree_affine_Identity (by kernel_rfl) rfl ?_
  unfold ir_affine_Identity
  simp only [HH, gW, gD]
  refine call_step (n_vec_Of (1) (0) (0) (by decide) (by decide) (by decide) (by decide) (by decide) (by decide) (Y1.trans (by decide +kernel)) (Y0.trans (by decide +kernel)) (Y0.trans (by decide +kernel))) rfl ?_
  simp only [HH, gW, gD]
  refine call_step (n_vec_Of (0) (1) (0) (by decide) (by decide) (by decide) (by decide) (by decide) (by decide) (Y0.trans (by decide +kernel)) (Y1.trans (by decide +kernel)) (Y0.trans (by decide +kernel))) rfl ?_
  simp only [HH, gW, gD]
  refine call_step (n_vec_Of (0) (0) (1) (by decide) (by decide) (by decide) (by decide) (by decide) (by decide) (Y0.trans (by decide +kernel)) (Y0.trans (by decide +kernel)) (Y1.trans (by decide +kernel))) rfl ?_
  simp only [HH, gW, gD]
  refine call_step (n_vec_Of (0) (0) (0) (by decide) (by decide) (by decide) (by decide) (by decide) (by decide) (Y0.trans (by decide +kernel)) (Y0.trans (by decide +kernel)) (Y0.trans (by decide +kernel))) rfl ?_
  simp only [HH, gW, gD]
  exact ret_step rfl

theorem n_vec_Dot_0w  {r0 r1 r2 r3 r4 r5 : RR} {x0 x1 x2 x3 x4 x5 : Rat} {k0 : Rat} {L0 L1 L2 L3 L4 L5 : Nat} (h0 : Num L0 r0 x0) (h1 : Num L1 r1 x1) (h2 : Num L2 r2 x2) (h3 : Num L3 r3 x3) (h4 : Num L4 r4 x4) (h5 : Num L5 r5 x5) (hl : L0 ≤ 9000000000 ∧ L1 ≤ 9000000000 ∧ L2 ≤ 9000000000 ∧ L3 ≤ 9000000000 ∧ L4 ≤ 9000000000 ∧ L5 ≤ 9000000000) (e0 : k0 = (((x0 * x3) + (x1 * x4)) + (x2 * x5)))  : PureCalls prog F.vec_Dot [.agg (gW [r0, r1, r2]), .agg (gW [r3, r4, r5])] [.agg (gD [k0])] := by
  replace h0 := h0.mono hl.1
  replace h1 := h1.mono hl.2.1
  replace h2 := h2.mono hl.2.2.1
  replace h3 := h3.mono hl.2.2.2.1
  replace h4 := h4.mono hl.2.2.2.2.1
  replace h5 := h5.mono hl.2.2.2.2.2
  subst e0
  refine symFunc_sound hmix tree_vec_Dot (by kernel_rfl) rfl ?_
  unfold ir_vec_Dot
  simp only [HH, gW, gD]
  refine primS (rl [r0, r3]) rfl ?_
  refine call_step (n_rat_Product_2 (k0 := (x0 * x3)) (h0.mono (by decide)) (h3.mono (by decide)) rfl) rfl ?_
  simp only [HH, gW, gD]
  refine primS (rl [r1, r4]) rfl ?_
  refine call_step (n_rat_Product_2 (k0 := (x1 * x4)) (h1.mono (by decide)) (h4.mono (by decide)) rfl) rfl ?_
  simp only [HH, gW, gD]
  refine primS (rl [r2, r5]) rfl ?_
  refine call_step (n_rat_Product_2 (k0 := (x2 * x5)) (h2.mono (by decide)) (h5.mono (by decide)) rfl) rfl ?_
  simp only [HH, gW, gD]
  refine primS (rl [(cr (x0 * x3)), (cr (x1 * x4)), (cr (x2 * x5))]) rfl ?_
  have m12 : Num 18000000000 (cr (x0 * x3)) (x0 * x3) := Num.of (Sm.mul h0.sm h3.sm)
  have m13 : Num 18000000000 (cr (x1 * x4)) (x1 * x4) := Num.of (Sm.mul h1.sm h4.sm)
  have m14 : Num 18000000000 (cr (x2 * x5)) (x2 * x5) := Num.of (Sm.mul h2.sm h5.sm)
  refine call_step (n_rat_Sum_3 (k0 := (((x0 * x3) + (x1 * x4)) + (x2 * x5))) (m12.mono (by decide)) (m13.mono (by decide)) (m14.mono (by decide)) rfl) rfl ?_
  simp only [HH, gW, gD]
  exact ret_step rfl

theorem n_vec_Sub_0w  {r0 r1 r2 r3 r4 r5 : RR} {x0 x1 x2 x3 x4 x5 : Rat} {k0 k1 k2 : Rat} {L0 L1 L2 L3 L4 L5 : Nat} (h0 : Num L0 r0 x0) (h1 : Num L1 r1 x1) (h2 : Num L2 r2 x2) (h3 : Num L3 r3 x3) (h4 : Num L4 r4 x4) (h5 : Num L5 r5 x5) (hl : L0 ≤ 9000000000 ∧ L1 ≤ 9000000000 ∧ L2 ≤ 9000000000 ∧ L3 ≤ 9000000000 ∧ L4 ≤ 9000000000 ∧ L5 ≤ 9000000000) (e0 : k0 = (x0 - x3)) (e1 : k1 = (x1 - x4)) (e2 : k2 = (x2 - x5))  : PureCalls prog F.vec_Sub [.agg (gW [r0, r1, r2]), .agg (gW [r3, r4, r5])] [.agg (gD [k0, k1, k2])] := by
  replace h0 := h0.mono hl.1
  replace h1 := h1.mono hl.2.1
  replace h2 := h2.mono hl.2.2.1
  replace h3 := h3.mono hl.2.2.2.1
  replace h4 := h4.mono hl.2.2.2.2.1
  replace h5 := h5.mono hl.2.2.2.2.2
  subst e0 e1 e2
  refine symFunc_sound hmix tree_vec_Sub (by kernel_rfl) rfl ?_
  unfold ir_vec_Sub
  simp only [HH, gW, gD]
  refine call_step (n_rat_Sub (k0 := (x0 - x3)) (h0.mono (by decide)) (h3.mono (by decide)) rfl) rfl ?_
  simp only [HH, gW, gD]
  refine call_step (n_rat_Sub (k0 := (x1 - x4)) (h1.mono (by decide)) (h4.mono (by decide)) rfl) rfl ?_
  simp only [HH, gW, gD]
  refine call_step (n_rat_Sub (k0 := (x2 - x5)) (h2.mono (by decide)) (h5.mono (by decide)) rfl) rfl ?_
  simp only [HH, gW, gD]
  exact ret_step rfl

theorem n_vec_Scale_0  {r0 r1 r2 r3 : RR} {x0 x1 x2 x3 : Rat} {k0 k1 k2 : Rat} (h0 : Num 9000000000 r0 x0) (h1 : Num 9000000000 r1 x1) (h2 : Num 9000000000 r2 x2) (h3 : Num 9000000000 r3 x3) (e0 : k0 = (x0 * x1)) (e1 : k1 = (x0 * x2)) (e2 : k2 = (x0 * x3))  : PureCalls prog F.vec_Scale [.agg (gW [r0]), .agg (gW [r1, r2, r3])] [.agg (gD [k0, k1, k2])] := by
  subst e0 e1 e2
  refine symFunc_sound hmix tree_vec_Scale (by kernel_rfl) rfl ?_
  unfold ir_vec_Scale
  simp only [HH, gW, gD]
  refine primS (rl [r0, r1]) rfl ?_
  refine call_step (n_rat_Product_2 (k0 := (x0 * x1)) (h0.mono (by decide)) (h1.mono (by decide)) rfl) rfl ?_
  simp only [HH, gW, gD]
  refine primS (rl [r0, r2]) rfl ?_
  refine call_step (n_rat_Product_2 (k0 := (x0 * x2)) (h0.mono (by decide)) (h2.mono (by decide)) rfl) rfl ?_
  simp only [HH, gW, gD]
  refine primS (rl [r0, r3]) rfl ?_
  refine call_step (n_rat_Product_2 (k0 := (x0 * x3)) (h0.mono (by decide)) (h3.mono (by decide)) rfl) rfl ?_
  simp only [HH, gW, gD]
  exact ret_step rfl

theorem n_vec_Read_0  {r0 r1 r2 : RR} {x0 x1 x2 : Rat} (h0 : Num 9000000000 r0 x0) (h1 : Num 9000000000 r1 x1) (h2 : Num 9000000000 r2 x2)   : PureCalls prog F.vec_Read [.agg (gW [r0, r1, r2])] [.agg (gD [x0, x1, x2])] := by
  refine symFunc_sound hmix tree_vec_Read (by kernel_rfl) rfl ?_
  unfold ir_vec_Read
  simp only [HH, gW, gD]
  refine call_step (n_rat_Read (h0.mono (by decide))) rfl ?_
  simp only [HH, gW, gD]
  refine call_step (n_rat_Read (h1.mono (by decide))) rfl ?_
  simp only [HH, gW, gD]
  refine call_step (n_rat_Read (h2.mono (by decide))) rfl ?_
  simp only [HH, gW, gD]
  exact ret_step rfl

theorem n_frame_Of_0 {Zm2 Z0 Z1 : Rat} (Ym2 : Zm2 = (-2 : Rat)) (Y0 : Z0 = (0 : Rat)) (Y1 : Z1 = (1 : Rat)) {r0 r1 r2 : RR} {x0 x1 x2 : Rat} {k0 k1 : Rat} (h0 : Num 900000000 r0 x0) (h1 : Num 900000000 r1 x1) (h2 : Num 900000000 r2 x2) (e0 : k0 = (((x0 * x0) + (x1 * x1)) + (x2 * x2))) (e1 : k1 = ((((Z0 - x0) * (Z0 - x0)) + ((Z0 - x1) * (Z0 - x1))) + ((Z1 - x2) * (Z1 - x2)))) (c0 : k0 = Z1) (c1 : k1 = Z0) : PureCalls prog F.frame_Of [.agg (gW [r0, r1, r2])] [.agg (gD [Z1, Z0, Z0, Z0, Z1, Z0, Z0, Z0, Z1]), .one (.bool true)] := by
  subst e0 e1
  refine symFunc_sound hmix tree_frame_Of (by kernel_rfl) rfl ?_
  unfold ir_frame_Of
  simp only [HH, gW, gD]
  refine call_step (n_vec_Of (1) (0) (0) (by decide) (by decide) (by decide) (by decide) (by decide) (by decide) (Y1.trans (by decide +kernel)) (Y0.trans (by decide +kernel)) (Y0.trans (by decide +kernel))) rfl ?_
  simp only [HH, gW, gD]
  refine call_step (n_vec_Of (0) (1) (0) (by decide) (by decide) (by decide) (by decide) (by decide) (by decide) (Y0.trans (by decide +kernel)) (Y1.trans (by decide +kernel)) (Y0.trans (by decide +kernel))) rfl ?_
  simp only [HH, gW, gD]
  refine call_step (n_vec_Of (0) (0) (1) (by decide) (by decide) (by decide) (by decide) (by decide) (by decide) (Y0.trans (by decide +kernel)) (Y0.trans (by decide +kernel)) (Y1.trans (by decide +kernel))) rfl ?_
  simp only [HH, gW, gD]
  refine call_step (n_vec_Of (0) (0) (0) (by decide) (by decide) (by decide) (by decide) (by decide) (by decide) (Y0.trans (by decide +kernel)) (Y0.trans (by decide +kernel)) (Y0.trans (by decide +kernel))) rfl ?_
  simp only [HH, gW, gD]
  refine call_step (n_vec_Dot_0w (k0 := (((x0 * x0) + (x1 * x1)) + (x2 * x2))) h0 h1 h2 h0 h1 h2 (by decide) rfl) rfl ?_
  simp only [HH, gW, gD]
  refine call_step (n_rat_Of (1) (1) (by decide) (by decide) (by decide) (by decide) (Y1.trans (by decide +kernel))) rfl ?_
  simp only [HH, gW, gD]
  have m52 : Num 5400000002 (cr (((x0 * x0) + (x1 * x1)) + (x2 * x2))) (((x0 * x0) + (x1 * x1)) + (x2 * x2)) := Num.of (Sm.add (Sm.add (Sm.mul h0.sm h0.sm) (Sm.mul h1.sm h1.sm)) (Sm.mul h2.sm h2.sm))
  have m53 : Num 1 (cr Z1) Z1 := Num.c Y1 (by decide +kernel) (by decide +kernel)
  refine call_step (n_rat_Same_t (m52.mono (by decide)) (m53.mono (by decide)) c0) rfl ?_
  simp only [HH, gW, gD]
  refine primS (.bool false) rfl ?_
  refine itF rfl ?_
  have m54 : Num 1 (cr Z0) Z0 := Num.c Y0 (by decide +kernel) (by decide +kernel)
  refine call_step (n_vec_Sub_0w (k0 := (Z0 - x0)) (k1 := (Z0 - x1)) (k2 := (Z1 - x2)) m54 m54 m53 h0 h1 h2 (by decide) rfl rfl rfl) rfl ?_
  simp only [HH, gW, gD]
  refine call_step (n_rat_Of (-2) (1) (by decide) (by decide) (by decide) (by decide) (Ym2.trans (by decide +kernel))) rfl ?_
  simp only [HH, gW, gD]
  have m55 : Num 900000002 (cr (Z0 - x0)) (Z0 - x0) := Num.of (Sm.sub m54.sm h0.sm)
  have m56 : Num 900000002 (cr (Z0 - x1)) (Z0 - x1) := Num.of (Sm.sub m54.sm h1.sm)
  have m57 : Num 900000002 (cr (Z1 - x2)) (Z1 - x2) := Num.of (Sm.sub m53.sm h2.sm)
  refine call_step (n_vec_Dot_0w (k0 := ((((Z0 - x0) * (Z0 - x0)) + ((Z0 - x1) * (Z0 - x1))) + ((Z1 - x2) * (Z1 - x2)))) m55 m56 m57 m55 m56 m57 (by decide) rfl) rfl ?_
  simp only [HH, gW, gD]
  have m58 : Num 1 (cr Zm2) Zm2 := Num.c Ym2 (by decide +kernel) (by decide +kernel)
  have m59 : Num 5400000014 (cr ((((Z0 - x0) * (Z0 - x0)) + ((Z0 - x1) * (Z0 - x1))) + ((Z1 - x2) * (Z1 - x2)))) ((((Z0 - x0) * (Z0 - x0)) + ((Z0 - x1) * (Z0 - x1))) + ((Z1 - x2) * (Z1 - x2))) := Num.of (Sm.add (Sm.add (Sm.mul m55.sm m55.sm) (Sm.mul m56.sm m56.sm)) (Sm.mul m57.sm m57.sm))
  refine call_step (n_rat_Div_t Y0 (m58.mono (by decide)) (m59.mono (by decide)) c1) rfl ?_
  simp only [HH, gW, gD]
  refine primS (.bool true) rfl ?_
  refine itT rfl ?_
  exact ret_step rfl

theorem n_frame_Of_1 {Zm2 Z0 Z1 : Rat} (Ym2 : Zm2 = (-2 : Rat)) (Y0 : Z0 = (0 : Rat)) (Y1 : Z1 = (1 : Rat)) {r0 r1 r2 : RR} {x0 x1 x2 : Rat} {k0 k1 k2 k3 k4 k5 k6 k7 k8 : Rat} (h0 : Num 900000000 r0 x0) (h1 : Num 900000000 r1 x1) (h2 : Num 900000000 r2 x2) (e0 : k0 = (((x0 * x0) + (x1 * x1)) + (x2 * x2))) (e1 : k1 = ((((Z0 - x0) * (Z0 - x0)) + ((Z0 - x1) * (Z0 - x1))) + ((Z1 - x2) * (Z1 - x2)))) (e2 : k2 = (Zm2 / k1)) (e3 : k3 = (Z1 + ((k2 * (Z0 - x0)) * (Z0 - x0)))) (e4 : k4 = (Z0 + ((k2 * (Z0 - x0)) * (Z0 - x1)))) (e5 : k5 = (Z0 + ((k2 * (Z0 - x0)) * (Z1 - x2)))) (e6 : k6 = (Z0 + ((k2 * (Z0 - x1)) * (Z0 - x0)))) (e7 : k7 = (Z1 + ((k2 * (Z0 - x1)) * (Z0 - x1)))) (e8 : k8 = (Z0 + ((k2 * (Z0 - x1)) * (Z1 - x2)))) (c0 : k0 = Z1) (c1 : ¬k1 = Z0) : PureCalls prog F.frame_Of [.agg (gW [r0, r1, r2])] [.agg (gD [k3, k4, k5, k6, k7, k8, x0, x1, x2]), .one (.bool true)] := by
  subst e0 e1 e2 e3 e4 e5 e6 e7 e8
  refine symFunc_sound hmix tree_frame_Of (by kernel_rfl) rfl ?_
  unfold ir_frame_Of
  simp only [HH, gW, gD]
  refine call_step (n_vec_Of (1) (0) (0) (by decide) (by decide) (by decide) (by decide) (by decide) (by decide) (Y1.trans (by decide +kernel)) (Y0.trans (by decide +kernel)) (Y0.trans (by decide +kernel))) rfl ?_
  simp only [HH, gW, gD]
  refine call_step (n_vec_Of (0) (1) (0) (by decide) (by decide) (by decide) (by decide) (by decide) (by decide) (Y0.trans (by decide +kernel)) (Y1.trans (by decide +kernel)) (Y0.trans (by decide +kernel))) rfl ?_
  simp only [HH, gW, gD]
  refine call_step (n_vec_Of (0) (0) (1) (by decide) (by decide) (by decide) (by decide) (by decide) (by decide) (Y0.trans (by decide +kernel)) (Y0.trans (by decide +kernel)) (Y1.trans (by decide +kernel))) rfl ?_
  simp only [HH, gW, gD]
  refine call_step (n_vec_Of (0) (0) (0) (by decide) (by decide) (by decide) (by decide) (by decide) (by decide) (Y0.trans (by decide +kernel)) (Y0.trans (by decide +kernel)) (Y0.trans (by decide +kernel))) rfl ?_
  simp only [HH, gW, gD]
  refine call_step (n_vec_Dot_0w (k0 := (((x0 * x0) + (x1 * x1)) + (x2 * x2))) h0 h1 h2 h0 h1 h2 (by decide) rfl) rfl ?_
  simp only [HH, gW, gD]
  refine call_step (n_rat_Of (1) (1) (by decide) (by decide) (by decide) (by decide) (Y1.trans (by decide +kernel))) rfl ?_
  simp only [HH, gW, gD]
  have m60 : Num 5400000002 (cr (((x0 * x0) + (x1 * x1)) + (x2 * x2))) (((x0 * x0) + (x1 * x1)) + (x2 * x2)) := Num.of (Sm.add (Sm.add (Sm.mul h0.sm h0.sm) (Sm.mul h1.sm h1.sm)) (Sm.mul h2.sm h2.sm))
  have m61 : Num 1 (cr Z1) Z1 := Num.c Y1 (by decide +kernel) (by decide +kernel)
  refine call_step (n_rat_Same_t (m60.mono (by decide)) (m61.mono (by decide)) c0) rfl ?_
  simp only [HH, gW, gD]
  refine primS (.bool false) rfl ?_
  refine itF rfl ?_
  have m62 : Num 1 (cr Z0) Z0 := Num.c Y0 (by decide +kernel) (by decide +kernel)
  refine call_step (n_vec_Sub_0w (k0 := (Z0 - x0)) (k1 := (Z0 - x1)) (k2 := (Z1 - x2)) m62 m62 m61 h0 h1 h2 (by decide) rfl rfl rfl) rfl ?_
  simp only [HH, gW, gD]
  refine call_step (n_rat_Of (-2) (1) (by decide) (by decide) (by decide) (by decide) (Ym2.trans (by decide +kernel))) rfl ?_
  simp only [HH, gW, gD]
  have m63 : Num 900000002 (cr (Z0 - x0)) (Z0 - x0) := Num.of (Sm.sub m62.sm h0.sm)
  have m64 : Num 900000002 (cr (Z0 - x1)) (Z0 - x1) := Num.of (Sm.sub m62.sm h1.sm)
  have m65 : Num 900000002 (cr (Z1 - x2)) (Z1 - x2) := Num.of (Sm.sub m61.sm h2.sm)
  refine call_step (n_vec_Dot_0w (k0 := ((((Z0 - x0) * (Z0 - x0)) + ((Z0 - x1) * (Z0 - x1))) + ((Z1 - x2) * (Z1 - x2)))) m63 m64 m65 m63 m64 m65 (by decide) rfl) rfl ?_
  simp only [HH, gW, gD]
  have m66 : Num 1 (cr Zm2) Zm2 := Num.c Ym2 (by decide +kernel) (by decide +kernel)
  have m67 : Num 5400000014 (cr ((((Z0 - x0) * (Z0 - x0)) + ((Z0 - x1) * (Z0 - x1))) + ((Z1 - x2) * (Z1 - x2)))) ((((Z0 - x0) * (Z0 - x0)) + ((Z0 - x1) * (Z0 - x1))) + ((Z1 - x2) * (Z1 - x2))) := Num.of (Sm.add (Sm.add (Sm.mul m63.sm m63.sm) (Sm.mul m64.sm m64.sm)) (Sm.mul m65.sm m65.sm))
  refine call_step (n_rat_Div_f (k0 := (Zm2 / ((((Z0 - x0) * (Z0 - x0)) + ((Z0 - x1) * (Z0 - x1))) + ((Z1 - x2) * (Z1 - x2))))) Y0 (m66.mono (by decide)) (m67.mono (by decide)) rfl c1) rfl ?_
  simp only [HH, gW, gD]
  refine primS (.bool false) rfl ?_
  refine itF rfl ?_
  refine primS (rl [(cr (Zm2 / ((((Z0 - x0) * (Z0 - x0)) + ((Z0 - x1) * (Z0 - x1))) + ((Z1 - x2) * (Z1 - x2))))), (cr (Z0 - x0))]) rfl ?_
  have m69 : Num 5400000015 (cr (Zm2 / ((((Z0 - x0) * (Z0 - x0)) + ((Z0 - x1) * (Z0 - x1))) + ((Z1 - x2) * (Z1 - x2))))) (Zm2 / ((((Z0 - x0) * (Z0 - x0)) + ((Z0 - x1) * (Z0 - x1))) + ((Z1 - x2) * (Z1 - x2)))) := Num.of (Sm.div m66.sm m67.sm)
  refine call_step (n_rat_Product_2 (k0 := ((Zm2 / ((((Z0 - x0) * (Z0 - x0)) + ((Z0 - x1) * (Z0 - x1))) + ((Z1 - x2) * (Z1 - x2)))) * (Z0 - x0))) (m69.mono (by decide)) (m63.mono (by decide)) rfl) rfl ?_
  simp only [HH, gW, gD]
  have m70 : Num 6300000017 (cr ((Zm2 / ((((Z0 - x0) * (Z0 - x0)) + ((Z0 - x1) * (Z0 - x1))) + ((Z1 - x2) * (Z1 - x2)))) * (Z0 - x0))) ((Zm2 / ((((Z0 - x0) * (Z0 - x0)) + ((Z0 - x1) * (Z0 - x1))) + ((Z1 - x2) * (Z1 - x2)))) * (Z0 - x0)) := Num.of (Sm.mul m69.sm m63.sm)
  refine call_step (n_vec_Scale_0 (k0 := (((Zm2 / ((((Z0 - x0) * (Z0 - x0)) + ((Z0 - x1) * (Z0 - x1))) + ((Z1 - x2) * (Z1 - x2)))) * (Z0 - x0)) * (Z0 - x0))) (k1 := (((Zm2 / ((((Z0 - x0) * (Z0 - x0)) + ((Z0 - x1) * (Z0 - x1))) + ((Z1 - x2) * (Z1 - x2)))) * (Z0 - x0)) * (Z0 - x1))) (k2 := (((Zm2 / ((((Z0 - x0) * (Z0 - x0)) + ((Z0 - x1) * (Z0 - x1))) + ((Z1 - x2) * (Z1 - x2)))) * (Z0 - x0)) * (Z1 - x2))) (m70.mono (by decide)) (m63.mono (by decide)) (m64.mono (by decide)) (m65.mono (by decide)) rfl rfl rfl) rfl ?_
  simp only [HH, gW, gD]
  refine primS (rl3 [((cr Z1), (cr Z0), (cr Z0)), ((cr (((Zm2 / ((((Z0 - x0) * (Z0 - x0)) + ((Z0 - x1) * (Z0 - x1))) + ((Z1 - x2) * (Z1 - x2)))) * (Z0 - x0)) * (Z0 - x0))), (cr (((Zm2 / ((((Z0 - x0) * (Z0 - x0)) + ((Z0 - x1) * (Z0 - x1))) + ((Z1 - x2) * (Z1 - x2)))) * (Z0 - x0)) * (Z0 - x1))), (cr (((Zm2 / ((((Z0 - x0) * (Z0 - x0)) + ((Z0 - x1) * (Z0 - x1))) + ((Z1 - x2) * (Z1 - x2)))) * (Z0 - x0)) * (Z1 - x2))))]) rfl ?_
  have m72 : Num 7200000019 (cr (((Zm2 / ((((Z0 - x0) * (Z0 - x0)) + ((Z0 - x1) * (Z0 - x1))) + ((Z1 - x2) * (Z1 - x2)))) * (Z0 - x0)) * (Z0 - x0))) (((Zm2 / ((((Z0 - x0) * (Z0 - x0)) + ((Z0 - x1) * (Z0 - x1))) + ((Z1 - x2) * (Z1 - x2)))) * (Z0 - x0)) * (Z0 - x0)) := Num.of (Sm.mul m70.sm m63.sm)
  have m73 : Num 7200000019 (cr (((Zm2 / ((((Z0 - x0) * (Z0 - x0)) + ((Z0 - x1) * (Z0 - x1))) + ((Z1 - x2) * (Z1 - x2)))) * (Z0 - x0)) * (Z0 - x1))) (((Zm2 / ((((Z0 - x0) * (Z0 - x0)) + ((Z0 - x1) * (Z0 - x1))) + ((Z1 - x2) * (Z1 - x2)))) * (Z0 - x0)) * (Z0 - x1)) := Num.of (Sm.mul m70.sm m64.sm)
  have m74 : Num 7200000019 (cr (((Zm2 / ((((Z0 - x0) * (Z0 - x0)) + ((Z0 - x1) * (Z0 - x1))) + ((Z1 - x2) * (Z1 - x2)))) * (Z0 - x0)) * (Z1 - x2))) (((Zm2 / ((((Z0 - x0) * (Z0 - x0)) + ((Z0 - x1) * (Z0 - x1))) + ((Z1 - x2) * (Z1 - x2)))) * (Z0 - x0)) * (Z1 - x2)) := Num.of (Sm.mul m70.sm m65.sm)
  refine call_step (n_vec_Sum_2 (o0 := (Z1 + (((Zm2 / ((((Z0 - x0) * (Z0 - x0)) + ((Z0 - x1) * (Z0 - x1))) + ((Z1 - x2) * (Z1 - x2)))) * (Z0 - x0)) * (Z0 - x0)))) (o1 := (Z0 + (((Zm2 / ((((Z0 - x0) * (Z0 - x0)) + ((Z0 - x1) * (Z0 - x1))) + ((Z1 - x2) * (Z1 - x2)))) * (Z0 - x0)) * (Z0 - x1)))) (o2 := (Z0 + (((Zm2 / ((((Z0 - x0) * (Z0 - x0)) + ((Z0 - x1) * (Z0 - x1))) + ((Z1 - x2) * (Z1 - x2)))) * (Z0 - x0)) * (Z1 - x2)))) (m61.mono (by decide)) (m62.mono (by decide)) (m62.mono (by decide)) (m72.mono (by decide)) (m73.mono (by decide)) (m74.mono (by decide)) rfl rfl rfl) rfl ?_
  simp only [HH, gW, gD]
  refine primS (rl [(cr (Zm2 / ((((Z0 - x0) * (Z0 - x0)) + ((Z0 - x1) * (Z0 - x1))) + ((Z1 - x2) * (Z1 - x2))))), (cr (Z0 - x1))]) rfl ?_
  refine call_step (n_rat_Product_2 (k0 := ((Zm2 / ((((Z0 - x0) * (Z0 - x0)) + ((Z0 - x1) * (Z0 - x1))) + ((Z1 - x2) * (Z1 - x2)))) * (Z0 - x1))) (m69.mono (by decide)) (m64.mono (by decide)) rfl) rfl ?_
  simp only [HH, gW, gD]
  have m76 : Num 6300000017 (cr ((Zm2 / ((((Z0 - x0) * (Z0 - x0)) + ((Z0 - x1) * (Z0 - x1))) + ((Z1 - x2) * (Z1 - x2)))) * (Z0 - x1))) ((Zm2 / ((((Z0 - x0) * (Z0 - x0)) + ((Z0 - x1) * (Z0 - x1))) + ((Z1 - x2) * (Z1 - x2)))) * (Z0 - x1)) := Num.of (Sm.mul m69.sm m64.sm)
  refine call_step (n_vec_Scale_0 (k0 := (((Zm2 / ((((Z0 - x0) * (Z0 - x0)) + ((Z0 - x1) * (Z0 - x1))) + ((Z1 - x2) * (Z1 - x2)))) * (Z0 - x1)) * (Z0 - x0))) (k1 := (((Zm2 / ((((Z0 - x0) * (Z0 - x0)) + ((Z0 - x1) * (Z0 - x1))) + ((Z1 - x2) * (Z1 - x2)))) * (Z0 - x1)) * (Z0 - x1))) (k2 := (((Zm2 / ((((Z0 - x0) * (Z0 - x0)) + ((Z0 - x1) * (Z0 - x1))) + ((Z1 - x2) * (Z1 - x2)))) * (Z0 - x1)) * (Z1 - x2))) (m76.mono (by decide)) (m63.mono (by decide)) (m64.mono (by decide)) (m65.mono (by decide)) rfl rfl rfl) rfl ?_
  simp only [HH, gW, gD]
  refine primS (rl3 [((cr Z0), (cr Z1), (cr Z0)), ((cr (((Zm2 / ((((Z0 - x0) * (Z0 - x0)) + ((Z0 - x1) * (Z0 - x1))) + ((Z1 - x2) * (Z1 - x2)))) * (Z0 - x1)) * (Z0 - x0))), (cr (((Zm2 / ((((Z0 - x0) * (Z0 - x0)) + ((Z0 - x1) * (Z0 - x1))) + ((Z1 - x2) * (Z1 - x2)))) * (Z0 - x1)) * (Z0 - x1))), (cr (((Zm2 / ((((Z0 - x0) * (Z0 - x0)) + ((Z0 - x1) * (Z0 - x1))) + ((Z1 - x2) * (Z1 - x2)))) * (Z0 - x1)) * (Z1 - x2))))]) rfl ?_
  have m78 : Num 7200000019 (cr (((Zm2 / ((((Z0 - x0) * (Z0 - x0)) + ((Z0 - x1) * (Z0 - x1))) + ((Z1 - x2) * (Z1 - x2)))) * (Z0 - x1)) * (Z0 - x0))) (((Zm2 / ((((Z0 - x0) * (Z0 - x0)) + ((Z0 - x1) * (Z0 - x1))) + ((Z1 - x2) * (Z1 - x2)))) * (Z0 - x1)) * (Z0 - x0)) := Num.of (Sm.mul m76.sm m63.sm)
  have m79 : Num 7200000019 (cr (((Zm2 / ((((Z0 - x0) * (Z0 - x0)) + ((Z0 - x1) * (Z0 - x1))) + ((Z1 - x2) * (Z1 - x2)))) * (Z0 - x1)) * (Z0 - x1))) (((Zm2 / ((((Z0 - x0) * (Z0 - x0)) + ((Z0 - x1) * (Z0 - x1))) + ((Z1 - x2) * (Z1 - x2)))) * (Z0 - x1)) * (Z0 - x1)) := Num.of (Sm.mul m76.sm m64.sm)
  have m80 : Num 7200000019 (cr (((Zm2 / ((((Z0 - x0) * (Z0 - x0)) + ((Z0 - x1) * (Z0 - x1))) + ((Z1 - x2) * (Z1 - x2)))) * (Z0 - x1)) * (Z1 - x2))) (((Zm2 / ((((Z0 - x0) * (Z0 - x0)) + ((Z0 - x1) * (Z0 - x1))) + ((Z1 - x2) * (Z1 - x2)))) * (Z0 - x1)) * (Z1 - x2)) := Num.of (Sm.mul m76.sm m65.sm)
  refine call_step (n_vec_Sum_2 (o0 := (Z0 + (((Zm2 / ((((Z0 - x0) * (Z0 - x0)) + ((Z0 - x1) * (Z0 - x1))) + ((Z1 - x2) * (Z1 - x2)))) * (Z0 - x1)) * (Z0 - x0)))) (o1 := (Z1 + (((Zm2 / ((((Z0 - x0) * (Z0 - x0)) + ((Z0 - x1) * (Z0 - x1))) + ((Z1 - x2) * (Z1 - x2)))) * (Z0 - x1)) * (Z0 - x1)))) (o2 := (Z0 + (((Zm2 / ((((Z0 - x0) * (Z0 - x0)) + ((Z0 - x1) * (Z0 - x1))) + ((Z1 - x2) * (Z1 - x2)))) * (Z0 - x1)) * (Z1 - x2)))) (m62.mono (by decide)) (m61.mono (by decide)) (m62.mono (by decide)) (m78.mono (by decide)) (m79.mono (by decide)) (m80.mono (by decide)) rfl rfl rfl) rfl ?_
  simp only [HH, gW, gD]
  refine call_step (n_vec_Read_0 (h0.mono (by decide)) (h1.mono (by decide)) (h2.mono (by decide))) rfl ?_
  simp only [HH, gW, gD]
  exact ret_step rfl

theorem n_frame_Of_2 {Z0 Z1 : Rat} (Y0 : Z0 = (0 : Rat)) (Y1 : Z1 = (1 : Rat)) {r0 r1 r2 : RR} {x0 x1 x2 : Rat} {k0 : Rat} (h0 : Num 900000000 r0 x0) (h1 : Num 900000000 r1 x1) (h2 : Num 900000000 r2 x2) (e0 : k0 = (((x0 * x0) + (x1 * x1)) + (x2 * x2))) (c0 : ¬k0 = Z1) : PureCalls prog F.frame_Of [.agg (gW [r0, r1, r2])] [.agg (gD [Z0, Z0, Z0, Z0, Z0, Z0, Z0, Z0, Z0]), .one (.bool false)] := by
  subst e0
  refine symFunc_sound hmix tree_frame_Of (by kernel_rfl) rfl ?_
  unfold ir_frame_Of
  simp only [HH, gW, gD]
  refine call_step (n_vec_Of (1) (0) (0) (by decide) (by decide) (by decide) (by decide) (by decide) (by decide) (Y1.trans (by decide +kernel)) (Y0.trans (by decide +kernel)) (Y0.trans (by decide +kernel))) rfl ?_
  simp only [HH, gW, gD]
  refine call_step (n_vec_Of (0) (1) (0) (by decide) (by decide) (by decide) (by decide) (by decide) (by decide) (Y0.trans (by decide +kernel)) (Y1.trans (by decide +kernel)) (Y0.trans (by decide +kernel))) rfl ?_
  simp only [HH, gW, gD]
  refine call_step (n_vec_Of (0) (0) (1) (by decide) (by decide) (by decide) (by decide) (by decide) (by decide) (Y0.trans (by decide +kernel)) (Y0.trans (by decide +kernel)) (Y1.trans (by decide +kernel))) rfl ?_
  simp only [HH, gW, gD]
  refine call_step (n_vec_Of (0) (0) (0) (by decide) (by decide) (by decide) (by decide) (by decide) (by decide) (Y0.trans (by decide +kernel)) (Y0.trans (by decide +kernel)) (Y0.trans (by decide +kernel))) rfl ?_
  simp only [HH, gW, gD]
  refine call_step (n_vec_Dot_0w (k0 := (((x0 * x0) + (x1 * x1)) + (x2 * x2))) h0 h1 h2 h0 h1 h2 (by decide) rfl) rfl ?_
  simp only [HH, gW, gD]
  refine call_step (n_rat_Of (1) (1) (by decide) (by decide) (by decide) (by decide) (Y1.trans (by decide +kernel))) rfl ?_
  simp only [HH, gW, gD]
  have m81 : Num 5400000002 (cr (((x0 * x0) + (x1 * x1)) + (x2 * x2))) (((x0 * x0) + (x1 * x1)) + (x2 * x2)) := Num.of (Sm.add (Sm.add (Sm.mul h0.sm h0.sm) (Sm.mul h1.sm h1.sm)) (Sm.mul h2.sm h2.sm))
  have m82 : Num 1 (cr Z1) Z1 := Num.c Y1 (by decide +kernel) (by decide +kernel)
  refine call_step (n_rat_Same_f (m81.mono (by decide)) (m82.mono (by decide)) c0) rfl ?_
  simp only [HH, gW, gD]
  refine primS (.bool true) rfl ?_
  refine itT rfl ?_
  exact ret_step rfl

theorem n_affine_Turn_0w  {r0 r1 r2 r3 r4 r5 r6 r7 r8 r9 r10 r11 r12 r13 r14 : RR} {x0 x1 x2 x3 x4 x5 x6 x7 x8 x9 x10 x11 x12 x13 x14 : Rat} {k0 k1 k2 : Rat} {L0 L1 L2 L3 L4 L5 L6 L7 L8 L9 L10 L11 L12 L13 L14 : Nat} (h0 : Num L0 r0 x0) (h1 : Num L1 r1 x1) (h2 : Num L2 r2 x2) (h3 : Num L3 r3 x3) (h4 : Num L4 r4 x4) (h5 : Num L5 r5 x5) (h6 : Num L6 r6 x6) (h7 : Num L7 r7 x7) (h8 : Num L8 r8 x8) (h9 : Num L9 r9 x9) (h10 : Num L10 r10 x10) (h11 : Num L11 r11 x11) (h12 : Num L12 r12 x12) (h13 : Num L13 r13 x13) (h14 : Num L14 r14 x14) (hl : L0 ≤ 9000000000 ∧ L1 ≤ 9000000000 ∧ L2 ≤ 9000000000 ∧ L3 ≤ 9000000000 ∧ L4 ≤ 9000000000 ∧ L5 ≤ 9000000000 ∧ L6 ≤ 9000000000 ∧ L7 ≤ 9000000000 ∧ L8 ≤ 9000000000 ∧ L9 ≤ 9000000000 ∧ L10 ≤ 9000000000 ∧ L11 ≤ 9000000000 ∧ L12 ≤ 9000000000 ∧ L13 ≤ 9000000000 ∧ L14 ≤ 9000000000) (e0 : k0 = (((x0 * x12) + (x1 * x13)) + (x2 * x14))) (e1 : k1 = (((x3 * x12) + (x4 * x13)) + (x5 * x14))) (e2 : k2 = (((x6 * x12) + (x7 * x13)) + (x8 * x14)))  : PureCalls prog F.affine_Turn [.agg (gW [r0, r1, r2, r3, r4, r5, r6, r7, r8, r9, r10, r11]), .agg (gW [r12, r13, r14])] [.agg (gD [k0, k1, k2])] := by
  replace h0 := h0.mono hl.1
  replace h1 := h1.mono hl.2.1
  replace h2 := h2.mono hl.2.2.1
  replace h3 := h3.mono hl.2.2.2.1
  replace h4 := h4.mono hl.2.2.2.2.1
  replace h5 := h5.mono hl.2.2.2.2.2.1
  replace h6 := h6.mono hl.2.2.2.2.2.2.1
  replace h7 := h7.mono hl.2.2.2.2.2.2.2.1
  replace h8 := h8.mono hl.2.2.2.2.2.2.2.2.1
  replace h9 := h9.mono hl.2.2.2.2.2.2.2.2.2.1
  replace h10 := h10.mono hl.2.2.2.2.2.2.2.2.2.2.1
  replace h11 := h11.mono hl.2.2.2.2.2.2.2.2.2.2.2.1
  replace h12 := h12.mono hl.2.2.2.2.2.2.2.2.2.2.2.2.1
  replace h13 := h13.mono hl.2.2.2.2.2.2.2.2.2.2.2.2.2.1
  replace h14 := h14.mono hl.2.2.2.2.2.2.2.2.2.2.2.2.2.2
  subst e0 e1 e2
  refine symFunc_sound hmix tree_affine_Turn (by kernel_rfl) rfl ?_
  unfold ir_affine_Turn
  simp only [HH, gW, gD]
  refine call_step (n_vec_Dot_0w (k0 := (((x0 * x12) + (x1 * x13)) + (x2 * x14))) h0 h1 h2 h12 h13 h14 (by decide) rfl) rfl ?_
  simp only [HH, gW, gD]
  refine call_step (n_vec_Dot_0w (k0 := (((x3 * x12) + (x4 * x13)) + (x5 * x14))) h3 h4 h5 h12 h13 h14 (by decide) rfl) rfl ?_
  simp only [HH, gW, gD]
  refine call_step (n_vec_Dot_0w (k0 := (((x6 * x12) + (x7 * x13)) + (x8 * x14))) h6 h7 h8 h12 h13 h14 (by decide) rfl) rfl ?_
  simp only [HH, gW, gD]
  exact ret_step rfl

theorem n_affine_Apply_0w  {r0 r1 r2 r3 r4 r5 r6 r7 r8 r9 r10 r11 r12 r13 r14 : RR} {x0 x1 x2 x3 x4 x5 x6 x7 x8 x9 x10 x11 x12 x13 x14 : Rat} {k0 k1 k2 : Rat} {L0 L1 L2 L3 L4 L5 L6 L7 L8 L9 L10 L11 L12 L13 L14 : Nat} (h0 : Num L0 r0 x0) (h1 : Num L1 r1 x1) (h2 : Num L2 r2 x2) (h3 : Num L3 r3 x3) (h4 : Num L4 r4 x4) (h5 : Num L5 r5 x5) (h6 : Num L6 r6 x6) (h7 : Num L7 r7 x7) (h8 : Num L8 r8 x8) (h9 : Num L9 r9 x9) (h10 : Num L10 r10 x10) (h11 : Num L11 r11 x11) (h12 : Num L12 r12 x12) (h13 : Num L13 r13 x13) (h14 : Num L14 r14 x14) (hl : L0 ≤ 900000000 ∧ L1 ≤ 900000000 ∧ L2 ≤ 900000000 ∧ L3 ≤ 900000000 ∧ L4 ≤ 900000000 ∧ L5 ≤ 900000000 ∧ L6 ≤ 900000000 ∧ L7 ≤ 900000000 ∧ L8 ≤ 900000000 ∧ L9 ≤ 900000000 ∧ L10 ≤ 900000000 ∧ L11 ≤ 900000000 ∧ L12 ≤ 900000000 ∧ L13 ≤ 900000000 ∧ L14 ≤ 900000000) (e0 : k0 = ((((x0 * x12) + (x1 * x13)) + (x2 * x14)) + x9)) (e1 : k1 = ((((x3 * x12) + (x4 * x13)) + (x5 * x14)) + x10)) (e2 : k2 = ((((x6 * x12) + (x7 * x13)) + (x8 * x14)) + x11))  : PureCalls prog F.affine_Apply [.agg (gW [r0, r1, r2, r3, r4, r5, r6, r7, r8, r9, r10, r11]), .agg (gW [r12, r13, r14])] [.agg (gD [k0, k1, k2])] := by
  replace h0 := h0.mono hl.1
  replace h1 := h1.mono hl.2.1
  replace h2 := h2.mono hl.2.2.1
  replace h3 := h3.mono hl.2.2.2.1
  replace h4 := h4.mono hl.2.2.2.2.1
  replace h5 := h5.mono hl.2.2.2.2.2.1
  replace h6 := h6.mono hl.2.2.2.2.2.2.1
  replace h7 := h7.mono hl.2.2.2.2.2.2.2.1
  replace h8 := h8.mono hl.2.2.2.2.2.2.2.2.1
  replace h9 := h9.mono hl.2.2.2.2.2.2.2.2.2.1
  replace h10 := h10.mono hl.2.2.2.2.2.2.2.2.2.2.1
  replace h11 := h11.mono hl.2.2.2.2.2.2.2.2.2.2.2.1
  replace h12 := h12.mono hl.2.2.2.2.2.2.2.2.2.2.2.2.1
  replace h13 := h13.mono hl.2.2.2.2.2.2.2.2.2.2.2.2.2.1
  replace h14 := h14.mono hl.2.2.2.2.2.2.2.2.2.2.2.2.2.2
  subst e0 e1 e2
  refine symFunc_sound hmix tree_affine_Apply (by kernel_rfl) rfl ?_
  unfold ir_affine_Apply
  simp only [HH, gW, gD]
  refine call_step (n_affine_Turn_0w (k0 := (((x0 * x12) + (x1 * x13)) + (x2 * x14))) (k1 := (((x3 * x12) + (x4 * x13)) + (x5 * x14))) (k2 := (((x6 * x12) + (x7 * x13)) + (x8 * x14))) h0 h1 h2 h3 h4 h5 h6 h7 h8 h9 h10 h11 h12 h13 h14 (by decide) rfl rfl rfl) rfl ?_
  simp only [HH, gW, gD]
  refine primS (rl3 [((cr (((x0 * x12) + (x1 * x13)) + (x2 * x14))), (cr (((x3 * x12) + (x4 * x13)) + (x5 * x14))), (cr (((x6 * x12) + (x7 * x13)) + (x8 * x14)))), (r9, r10, r11)]) rfl ?_
  have m89 : Num 5400000002 (cr (((x0 * x12) + (x1 * x13)) + (x2 * x14))) (((x0 * x12) + (x1 * x13)) + (x2 * x14)) := Num.of (Sm.add (Sm.add (Sm.mul h0.sm h12.sm) (Sm.mul h1.sm h13.sm)) (Sm.mul h2.sm h14.sm))
  have m90 : Num 5400000002 (cr (((x3 * x12) + (x4 * x13)) + (x5 * x14))) (((x3 * x12) + (x4 * x13)) + (x5 * x14)) := Num.of (Sm.add (Sm.add (Sm.mul h3.sm h12.sm) (Sm.mul h4.sm h13.sm)) (Sm.mul h5.sm h14.sm))
  have m91 : Num 5400000002 (cr (((x6 * x12) + (x7 * x13)) + (x8 * x14))) (((x6 * x12) + (x7 * x13)) + (x8 * x14)) := Num.of (Sm.add (Sm.add (Sm.mul h6.sm h12.sm) (Sm.mul h7.sm h13.sm)) (Sm.mul h8.sm h14.sm))
  refine call_step (n_vec_Sum_2 (o0 := ((((x0 * x12) + (x1 * x13)) + (x2 * x14)) + x9)) (o1 := ((((x3 * x12) + (x4 * x13)) + (x5 * x14)) + x10)) (o2 := ((((x6 * x12) + (x7 * x13)) + (x8 * x14)) + x11)) (m89.mono (by decide)) (m90.mono (by decide)) (m91.mono (by decide)) (h9.mono (by decide)) (h10.mono (by decide)) (h11.mono (by decide)) rfl rfl rfl) rfl ?_
  simp only [HH, gW, gD]
  exact ret_step rfl

theorem n_vec_minor_0  {r0 r1 r2 r3 : RR} {x0 x1 x2 x3 : Rat} {k0 : Rat} (h0 : Num 9000000000 r0 x0) (h1 : Num 9000000000 r1 x1) (h2 : Num 9000000000 r2 x2) (h3 : Num 9000000000 r3 x3) (e0 : k0 = ((x0 * x3) - (x1 * x2)))  : PureCalls prog F.vec_minor [.agg (gW [r0]), .agg (gW [r1]), .agg (gW [r2]), .agg (gW [r3])] [.agg (gD [k0])] := by
  subst e0
  refine symFunc_sound hmix tree_vec_minor (by kernel_rfl) rfl ?_
  unfold ir_vec_minor
  simp only [HH, gW, gD]
  refine primS (rl [r0, r3]) rfl ?_
  refine call_step (n_rat_Product_2 (k0 := (x0 * x3)) (h0.mono (by decide)) (h3.mono (by decide)) rfl) rfl ?_
  simp only [HH, gW, gD]
  refine primS (rl [r1, r2]) rfl ?_
  refine call_step (n_rat_Product_2 (k0 := (x1 * x2)) (h1.mono (by decide)) (h2.mono (by decide)) rfl) rfl ?_
  simp only [HH, gW, gD]
  have m98 : Num 18000000000 (cr (x0 * x3)) (x0 * x3) := Num.of (Sm.mul h0.sm h3.sm)
  have m99 : Num 18000000000 (cr (x1 * x2)) (x1 * x2) := Num.of (Sm.mul h1.sm h2.sm)
  refine call_step (n_rat_Sub (k0 := ((x0 * x3) - (x1 * x2))) (m98.mono (by decide)) (m99.mono (by decide)) rfl) rfl ?_
  simp only [HH, gW, gD]
  exact ret_step rfl

theorem n_vec_Cross_0w  {r0 r1 r2 r3 r4 r5 : RR} {x0 x1 x2 x3 x4 x5 : Rat} {k0 k1 k2 : Rat} {L0 L1 L2 L3 L4 L5 : Nat} (h0 : Num L0 r0 x0) (h1 : Num L1 r1 x1) (h2 : Num L2 r2 x2) (h3 : Num L3 r3 x3) (h4 : Num L4 r4 x4) (h5 : Num L5 r5 x5) (hl : L0 ≤ 9000000000 ∧ L1 ≤ 9000000000 ∧ L2 ≤ 9000000000 ∧ L3 ≤ 9000000000 ∧ L4 ≤ 9000000000 ∧ L5 ≤ 9000000000) (e0 : k0 = ((x1 * x5) - (x2 * x4))) (e1 : k1 = ((x2 * x3) - (x0 * x5))) (e2 : k2 = ((x0 * x4) - (x1 * x3)))  : PureCalls prog F.vec_Cross [.agg (gW [r0, r1, r2]), .agg (gW [r3, r4, r5])] [.agg (gD [k0, k1, k2])] := by
  replace h0 := h0.mono hl.1
  replace h1 := h1.mono hl.2.1
  replace h2 := h2.mono hl.2.2.1
  replace h3 := h3.mono hl.2.2.2.1
  replace h4 := h4.mono hl.2.2.2.2.1
  replace h5 := h5.mono hl.2.2.2.2.2
  subst e0 e1 e2
  refine symFunc_sound hmix tree_vec_Cross (by kernel_rfl) rfl ?_
  unfold ir_vec_Cross
  simp only [HH, gW, gD]
  refine call_step (n_vec_minor_0 (k0 := ((x1 * x5) - (x2 * x4))) (h1.mono (by decide)) (h2.mono (by decide)) (h4.mono (by decide)) (h5.mono (by decide)) rfl) rfl ?_
  simp only [HH, gW, gD]
  refine call_step (n_vec_minor_0 (k0 := ((x2 * x3) - (x0 * x5))) (h2.mono (by decide)) (h0.mono (by decide)) (h5.mono (by decide)) (h3.mono (by decide)) rfl) rfl ?_
  simp only [HH, gW, gD]
  refine call_step (n_vec_minor_0 (k0 := ((x0 * x4) - (x1 * x3))) (h0.mono (by decide)) (h1.mono (by decide)) (h3.mono (by decide)) (h4.mono (by decide)) rfl) rfl ?_
  simp only [HH, gW, gD]
  exact ret_step rfl

theorem n_affine_cofactors_0w  {r0 r1 r2 r3 r4 r5 r6 r7 r8 r9 r10 r11 : RR} {x0 x1 x2 x3 x4 x5 x6 x7 x8 x9 x10 x11 : Rat} {k0 k1 k2 k3 k4 k5 k6 k7 k8 : Rat} {L0 L1 L2 L3 L4 L5 L6 L7 L8 L9 L10 L11 : Nat} (h0 : Num L0 r0 x0) (h1 : Num L1 r1 x1) (h2 : Num L2 r2 x2) (h3 : Num L3 r3 x3) (h4 : Num L4 r4 x4) (h5 : Num L5 r5 x5) (h6 : Num L6 r6 x6) (h7 : Num L7 r7 x7) (h8 : Num L8 r8 x8) (h9 : Num L9 r9 x9) (h10 : Num L10 r10 x10) (h11 : Num L11 r11 x11) (hl : L0 ≤ 9000000000 ∧ L1 ≤ 9000000000 ∧ L2 ≤ 9000000000 ∧ L3 ≤ 9000000000 ∧ L4 ≤ 9000000000 ∧ L5 ≤ 9000000000 ∧ L6 ≤ 9000000000 ∧ L7 ≤ 9000000000 ∧ L8 ≤ 9000000000 ∧ L9 ≤ 9000000000 ∧ L10 ≤ 9000000000 ∧ L11 ≤ 9000000000) (e0 : k0 = ((x4 * x8) - (x5 * x7))) (e1 : k1 = ((x5 * x6) - (x3 * x8))) (e2 : k2 = ((x3 * x7) - (x4 * x6))) (e3 : k3 = ((x7 * x2) - (x8 * x1))) (e4 : k4 = ((x8 * x0) - (x6 * x2))) (e5 : k5 = ((x6 * x1) - (x7 * x0))) (e6 : k6 = ((x1 * x5) - (x2 * x4))) (e7 : k7 = ((x2 * x3) - (x0 * x5))) (e8 : k8 = ((x0 * x4) - (x1 * x3)))  : PureCalls prog F.affine_cofactors [.agg (gW [r0, r1, r2, r3, r4, r5, r6, r7, r8, r9, r10, r11])] [.agg (gD [k0, k1, k2, k3, k4, k5, k6, k7, k8])] := by
  replace h0 := h0.mono hl.1
  replace h1 := h1.mono hl.2.1
  replace h2 := h2.mono hl.2.2.1
  replace h3 := h3.mono hl.2.2.2.1
  replace h4 := h4.mono hl.2.2.2.2.1
  replace h5 := h5.mono hl.2.2.2.2.2.1
  replace h6 := h6.mono hl.2.2.2.2.2.2.1
  replace h7 := h7.mono hl.2.2.2.2.2.2.2.1
  replace h8 := h8.mono hl.2.2.2.2.2.2.2.2.1
  replace h9 := h9.mono hl.2.2.2.2.2.2.2.2.2.1
  replace h10 := h10.mono hl.2.2.2.2.2.2.2.2.2.2.1
  replace h11 := h11.mono hl.2.2.2.2.2.2.2.2.2.2.2
  subst e0 e1 e2 e3 e4 e5 e6 e7 e8
  refine symFunc_sound hmix tree_affine_cofactors (by kernel_rfl) rfl ?_
  unfold ir_affine_cofactors
  simp only [HH, gW, gD]
  refine call_step (n_vec_Cross_0w (k0 := ((x4 * x8) - (x5 * x7))) (k1 := ((x5 * x6) - (x3 * x8))) (k2 := ((x3 * x7) - (x4 * x6))) h3 h4 h5 h6 h7 h8 (by decide) rfl rfl rfl) rfl ?_
  simp only [HH, gW, gD]
  refine call_step (n_vec_Cross_0w (k0 := ((x7 * x2) - (x8 * x1))) (k1 := ((x8 * x0) - (x6 * x2))) (k2 := ((x6 * x1) - (x7 * x0))) h6 h7 h8 h0 h1 h2 (by decide) rfl rfl rfl) rfl ?_
  simp only [HH, gW, gD]
  refine call_step (n_vec_Cross_0w (k0 := ((x1 * x5) - (x2 * x4))) (k1 := ((x2 * x3) - (x0 * x5))) (k2 := ((x0 * x4) - (x1 * x3))) h0 h1 h2 h3 h4 h5 (by decide) rfl rfl rfl) rfl ?_
  simp only [HH, gW, gD]
  exact ret_step rfl

theorem n_affine_Area_0w  {r0 r1 r2 r3 r4 r5 r6 r7 r8 r9 r10 r11 r12 r13 r14 : RR} {x0 x1 x2 x3 x4 x5 x6 x7 x8 x9 x10 x11 x12 x13 x14 : Rat} {k0 k1 k2 : Rat} {L0 L1 L2 L3 L4 L5 L6 L7 L8 L9 L10 L11 L12 L13 L14 : Nat} (h0 : Num L0 r0 x0) (h1 : Num L1 r1 x1) (h2 : Num L2 r2 x2) (h3 : Num L3 r3 x3) (h4 : Num L4 r4 x4) (h5 : Num L5 r5 x5) (h6 : Num L6 r6 x6) (h7 : Num L7 r7 x7) (h8 : Num L8 r8 x8) (h9 : Num L9 r9 x9) (h10 : Num L10 r10 x10) (h11 : Num L11 r11 x11) (h12 : Num L12 r12 x12) (h13 : Num L13 r13 x13) (h14 : Num L14 r14 x14) (hl : L0 ≤ 900000000 ∧ L1 ≤ 900000000 ∧ L2 ≤ 900000000 ∧ L3 ≤ 900000000 ∧ L4 ≤ 900000000 ∧ L5 ≤ 900000000 ∧ L6 ≤ 900000000 ∧ L7 ≤ 900000000 ∧ L8 ≤ 900000000 ∧ L9 ≤ 900000000 ∧ L10 ≤ 900000000 ∧ L11 ≤ 900000000 ∧ L12 ≤ 900000000 ∧ L13 ≤ 900000000 ∧ L14 ≤ 900000000) (e0 : k0 = (((((x4 * x8) - (x5 * x7)) * x12) + (((x5 * x6) - (x3 * x8)) * x13)) + (((x3 * x7) - (x4 * x6)) * x14))) (e1 : k1 = (((((x7 * x2) - (x8 * x1)) * x12) + (((x8 * x0) - (x6 * x2)) * x13)) + (((x6 * x1) - (x7 * x0)) * x14))) (e2 : k2 = (((((x1 * x5) - (x2 * x4)) * x12) + (((x2 * x3) - (x0 * x5)) * x13)) + (((x0 * x4) - (x1 * x3)) * x14)))  : PureCalls prog F.affine_Area [.agg (gW [r0, r1, r2, r3, r4, r5, r6, r7, r8, r9, r10, r11]), .agg (gW [r12, r13, r14])] [.agg (gD [k0, k1, k2])] := by
  replace h0 := h0.mono hl.1
  replace h1 := h1.mono hl.2.1
  replace h2 := h2.mono hl.2.2.1
  replace h3 := h3.mono hl.2.2.2.1
  replace h4 := h4.mono hl.2.2.2.2.1
  replace h5 := h5.mono hl.2.2.2.2.2.1
  replace h6 := h6.mono hl.2.2.2.2.2.2.1
  replace h7 := h7.mono hl.2.2.2.2.2.2.2.1
  replace h8 := h8.mono hl.2.2.2.2.2.2.2.2.1
  replace h9 := h9.mono hl.2.2.2.2.2.2.2.2.2.1
  replace h10 := h10.mono hl.2.2.2.2.2.2.2.2.2.2.1
  replace h11 := h11.mono hl.2.2.2.2.2.2.2.2.2.2.2.1
  replace h12 := h12.mono hl.2.2.2.2.2.2.2.2.2.2.2.2.1
  replace h13 := h13.mono hl.2.2.2.2.2.2.2.2.2.2.2.2.2.1
  replace h14 := h14.mono hl.2.2.2.2.2.2.2.2.2.2.2.2.2.2
  subst e0 e1 e2
  refine symFunc_sound hmix tree_affine_Area (by kernel_rfl) rfl ?_
  unfold ir_affine_Area
  simp only [HH, gW, gD]
  refine call_step (n_affine_cofactors_0w (k0 := ((x4 * x8) - (x5 * x7))) (k1 := ((x5 * x6) - (x3 * x8))) (k2 := ((x3 * x7) - (x4 * x6))) (k3 := ((x7 * x2) - (x8 * x1))) (k4 := ((x8 * x0) - (x6 * x2))) (k5 := ((x6 * x1) - (x7 * x0))) (k6 := ((x1 * x5) - (x2 * x4))) (k7 := ((x2 * x3) - (x0 * x5))) (k8 := ((x0 * x4) - (x1 * x3))) h0 h1 h2 h3 h4 h5 h6 h7 h8 h9 h10 h11 (by decide) rfl rfl rfl rfl rfl rfl rfl rfl rfl) rfl ?_
  simp only [HH, gW, gD]
  have m109 : Num 3600000001 (cr ((x4 * x8) - (x5 * x7))) ((x4 * x8) - (x5 * x7)) := Num.of (Sm.sub (Sm.mul h4.sm h8.sm) (Sm.mul h5.sm h7.sm))
  have m110 : Num 3600000001 (cr ((x5 * x6) - (x3 * x8))) ((x5 * x6) - (x3 * x8)) := Num.of (Sm.sub (Sm.mul h5.sm h6.sm) (Sm.mul h3.sm h8.sm))
  have m111 : Num 3600000001 (cr ((x3 * x7) - (x4 * x6))) ((x3 * x7) - (x4 * x6)) := Num.of (Sm.sub (Sm.mul h3.sm h7.sm) (Sm.mul h4.sm h6.sm))
  refine call_step (n_vec_Dot_0w (k0 := (((((x4 * x8) - (x5 * x7)) * x12) + (((x5 * x6) - (x3 * x8)) * x13)) + (((x3 * x7) - (x4 * x6)) * x14))) m109 m110 m111 h12 h13 h14 (by decide) rfl) rfl ?_
  simp only [HH, gW, gD]
  have m112 : Num 3600000001 (cr ((x7 * x2) - (x8 * x1))) ((x7 * x2) - (x8 * x1)) := Num.of (Sm.sub (Sm.mul h7.sm h2.sm) (Sm.mul h8.sm h1.sm))
  have m113 : Num 3600000001 (cr ((x8 * x0) - (x6 * x2))) ((x8 * x0) - (x6 * x2)) := Num.of (Sm.sub (Sm.mul h8.sm h0.sm) (Sm.mul h6.sm h2.sm))
  have m114 : Num 3600000001 (cr ((x6 * x1) - (x7 * x0))) ((x6 * x1) - (x7 * x0)) := Num.of (Sm.sub (Sm.mul h6.sm h1.sm) (Sm.mul h7.sm h0.sm))
  refine call_step (n_vec_Dot_0w (k0 := (((((x7 * x2) - (x8 * x1)) * x12) + (((x8 * x0) - (x6 * x2)) * x13)) + (((x6 * x1) - (x7 * x0)) * x14))) m112 m113 m114 h12 h13 h14 (by decide) rfl) rfl ?_
  simp only [HH, gW, gD]
  have m115 : Num 3600000001 (cr ((x1 * x5) - (x2 * x4))) ((x1 * x5) - (x2 * x4)) := Num.of (Sm.sub (Sm.mul h1.sm h5.sm) (Sm.mul h2.sm h4.sm))
  have m116 : Num 3600000001 (cr ((x2 * x3) - (x0 * x5))) ((x2 * x3) - (x0 * x5)) := Num.of (Sm.sub (Sm.mul h2.sm h3.sm) (Sm.mul h0.sm h5.sm))
  have m117 : Num 3600000001 (cr ((x0 * x4) - (x1 * x3))) ((x0 * x4) - (x1 * x3)) := Num.of (Sm.sub (Sm.mul h0.sm h4.sm) (Sm.mul h1.sm h3.sm))
  refine call_step (n_vec_Dot_0w (k0 := (((((x1 * x5) - (x2 * x4)) * x12) + (((x2 * x3) - (x0 * x5)) * x13)) + (((x0 * x4) - (x1 * x3)) * x14))) m115 m116 m117 h12 h13 h14 (by decide) rfl) rfl ?_
  simp only [HH, gW, gD]
  exact ret_step rfl

theorem n_affine_Det_0w  {r0 r1 r2 r3 r4 r5 r6 r7 r8 r9 r10 r11 : RR} {x0 x1 x2 x3 x4 x5 x6 x7 x8 x9 x10 x11 : Rat} {k0 : Rat} {L0 L1 L2 L3 L4 L5 L6 L7 L8 L9 L10 L11 : Nat} (h0 : Num L0 r0 x0) (h1 : Num L1 r1 x1) (h2 : Num L2 r2 x2) (h3 : Num L3 r3 x3) (h4 : Num L4 r4 x4) (h5 : Num L5 r5 x5) (h6 : Num L6 r6 x6) (h7 : Num L7 r7 x7) (h8 : Num L8 r8 x8) (h9 : Num L9 r9 x9) (h10 : Num L10 r10 x10) (h11 : Num L11 r11 x11) (hl : L0 ≤ 900000000 ∧ L1 ≤ 900000000 ∧ L2 ≤ 900000000 ∧ L3 ≤ 900000000 ∧ L4 ≤ 900000000 ∧ L5 ≤ 900000000 ∧ L6 ≤ 900000000 ∧ L7 ≤ 900000000 ∧ L8 ≤ 900000000 ∧ L9 ≤ 900000000 ∧ L10 ≤ 900000000 ∧ L11 ≤ 900000000) (e0 : k0 = (((x0 * ((x4 * x8) - (x5 * x7))) + (x1 * ((x5 * x6) - (x3 * x8)))) + (x2 * ((x3 * x7) - (x4 * x6)))))  : PureCalls prog F.affine_Det [.agg (gW [r0, r1, r2, r3, r4, r5, r6, r7, r8, r9, r10, r11])] [.agg (gD [k0])] := by
  replace h0 := h0.mono hl.1
  replace h1 := h1.mono hl.2.1
  replace h2 := h2.mono hl.2.2.1
  replace h3 := h3.mono hl.2.2.2.1
  replace h4 := h4.mono hl.2.2.2.2.1
  replace h5 := h5.mono hl.2.2.2.2.2.1
  replace h6 := h6.mono hl.2.2.2.2.2.2.1
  replace h7 := h7.mono hl.2.2.2.2.2.2.2.1
  replace h8 := h8.mono hl.2.2.2.2.2.2.2.2.1
  replace h9 := h9.mono hl.2.2.2.2.2.2.2.2.2.1
  replace h10 := h10.mono hl.2.2.2.2.2.2.2.2.2.2.1
  replace h11 := h11.mono hl.2.2.2.2.2.2.2.2.2.2.2
  subst e0
  refine symFunc_sound hmix tree_affine_Det (by kernel_rfl) rfl ?_
  unfold ir_affine_Det
  simp only [HH, gW, gD]
  refine call_step (n_vec_Cross_0w (k0 := ((x4 * x8) - (x5 * x7))) (k1 := ((x5 * x6) - (x3 * x8))) (k2 := ((x3 * x7) - (x4 * x6))) h3 h4 h5 h6 h7 h8 (by decide) rfl rfl rfl) rfl ?_
  simp only [HH, gW, gD]
  have m121 : Num 3600000001 (cr ((x4 * x8) - (x5 * x7))) ((x4 * x8) - (x5 * x7)) := Num.of (Sm.sub (Sm.mul h4.sm h8.sm) (Sm.mul h5.sm h7.sm))
  have m122 : Num 3600000001 (cr ((x5 * x6) - (x3 * x8))) ((x5 * x6) - (x3 * x8)) := Num.of (Sm.sub (Sm.mul h5.sm h6.sm) (Sm.mul h3.sm h8.sm))
  have m123 : Num 3600000001 (cr ((x3 * x7) - (x4 * x6))) ((x3 * x7) - (x4 * x6)) := Num.of (Sm.sub (Sm.mul h3.sm h7.sm) (Sm.mul h4.sm h6.sm))
  refine call_step (n_vec_Dot_0w (k0 := (((x0 * ((x4 * x8) - (x5 * x7))) + (x1 * ((x5 * x6) - (x3 * x8)))) + (x2 * ((x3 * x7) - (x4 * x6))))) h0 h1 h2 m121 m122 m123 (by decide) rfl) rfl ?_
  simp only [HH, gW, gD]
  exact ret_step rfl

theorem n_frame_In_0w  {r0 r1 r2 r3 r4 r5 r6 r7 r8 r9 r10 r11 : RR} {x0 x1 x2 x3 x4 x5 x6 x7 x8 x9 x10 x11 : Rat} {k0 k1 k2 : Rat} {L0 L1 L2 L3 L4 L5 L6 L7 L8 L9 L10 L11 : Nat} (h0 : Num L0 r0 x0) (h1 : Num L1 r1 x1) (h2 : Num L2 r2 x2) (h3 : Num L3 r3 x3) (h4 : Num L4 r4 x4) (h5 : Num L5 r5 x5) (h6 : Num L6 r6 x6) (h7 : Num L7 r7 x7) (h8 : Num L8 r8 x8) (h9 : Num L9 r9 x9) (h10 : Num L10 r10 x10) (h11 : Num L11 r11 x11) (hl : L0 ≤ 9000000000 ∧ L1 ≤ 9000000000 ∧ L2 ≤ 9000000000 ∧ L3 ≤ 9000000000 ∧ L4 ≤ 9000000000 ∧ L5 ≤ 9000000000 ∧ L6 ≤ 9000000000 ∧ L7 ≤ 9000000000 ∧ L8 ≤ 9000000000 ∧ L9 ≤ 9000000000 ∧ L10 ≤ 9000000000 ∧ L11 ≤ 9000000000) (e0 : k0 = (((x9 * x0) + (x10 * x1)) + (x11 * x2))) (e1 : k1 = (((x9 * x3) + (x10 * x4)) + (x11 * x5))) (e2 : k2 = (((x9 * x6) + (x10 * x7)) + (x11 * x8)))  : PureCalls prog F.frame_In [.agg (gW [r0, r1, r2, r3, r4, r5, r6, r7, r8]), .agg (gW [r9, r10, r11])] [.agg (gD [k0, k1, k2])] := by
  replace h0 := h0.mono hl.1
  replace h1 := h1.mono hl.2.1
  replace h2 := h2.mono hl.2.2.1
  replace h3 := h3.mono hl.2.2.2.1
  replace h4 := h4.mono hl.2.2.2.2.1
  replace h5 := h5.mono hl.2.2.2.2.2.1
  replace h6 := h6.mono hl.2.2.2.2.2.2.1
  replace h7 := h7.mono hl.2.2.2.2.2.2.2.1
  replace h8 := h8.mono hl.2.2.2.2.2.2.2.2.1
  replace h9 := h9.mono hl.2.2.2.2.2.2.2.2.2.1
  replace h10 := h10.mono hl.2.2.2.2.2.2.2.2.2.2.1
  replace h11 := h11.mono hl.2.2.2.2.2.2.2.2.2.2.2
  subst e0 e1 e2
  refine symFunc_sound hmix tree_frame_In (by kernel_rfl) rfl ?_
  unfold ir_frame_In
  simp only [HH, gW, gD]
  refine call_step (n_vec_Dot_0w (k0 := (((x9 * x0) + (x10 * x1)) + (x11 * x2))) h9 h10 h11 h0 h1 h2 (by decide) rfl) rfl ?_
  simp only [HH, gW, gD]
  refine call_step (n_vec_Dot_0w (k0 := (((x9 * x3) + (x10 * x4)) + (x11 * x5))) h9 h10 h11 h3 h4 h5 (by decide) rfl) rfl ?_
  simp only [HH, gW, gD]
  refine call_step (n_vec_Dot_0w (k0 := (((x9 * x6) + (x10 * x7)) + (x11 * x8))) h9 h10 h11 h6 h7 h8 (by decide) rfl) rfl ?_
  simp only [HH, gW, gD]
  exact ret_step rfl

theorem n_frame_Slopes_1w {Z0 : Rat} (Y0 : Z0 = (0 : Rat)) {r0 r1 r2 r3 r4 r5 r6 r7 r8 r9 r10 r11 : RR} {x0 x1 x2 x3 x4 x5 x6 x7 x8 x9 x10 x11 : Rat} {k0 k1 k2 : Rat} {L0 L1 L2 L3 L4 L5 L6 L7 L8 L9 L10 L11 : Nat} (h0 : Num L0 r0 x0) (h1 : Num L1 r1 x1) (h2 : Num L2 r2 x2) (h3 : Num L3 r3 x3) (h4 : Num L4 r4 x4) (h5 : Num L5 r5 x5) (h6 : Num L6 r6 x6) (h7 : Num L7 r7 x7) (h8 : Num L8 r8 x8) (h9 : Num L9 r9 x9) (h10 : Num L10 r10 x10) (h11 : Num L11 r11 x11) (hl : L0 ≤ 900000000 ∧ L1 ≤ 900000000 ∧ L2 ≤ 900000000 ∧ L3 ≤ 900000000 ∧ L4 ≤ 900000000 ∧ L5 ≤ 900000000 ∧ L6 ≤ 900000000 ∧ L7 ≤ 900000000 ∧ L8 ≤ 900000000 ∧ L9 ≤ 900000000 ∧ L10 ≤ 900000000 ∧ L11 ≤ 900000000) (e0 : k0 = (((x9 * x6) + (x10 * x7)) + (x11 * x8))) (e1 : k1 = ((((x9 * x0) + (x10 * x1)) + (x11 * x2)) / k0)) (e2 : k2 = ((((x9 * x3) + (x10 * x4)) + (x11 * x5)) / k0)) (c0 : ¬k0 = Z0) : PureCalls prog F.frame_Slopes [.agg (gW [r0, r1, r2, r3, r4, r5, r6, r7, r8]), .agg (gW [r9, r10, r11])] [.agg (gD [k1]), .agg (gD [k2]), .agg (gD [k0]), .one (.bool true)] := by
  replace h0 := h0.mono hl.1
  replace h1 := h1.mono hl.2.1
  replace h2 := h2.mono hl.2.2.1
  replace h3 := h3.mono hl.2.2.2.1
  replace h4 := h4.mono hl.2.2.2.2.1
  replace h5 := h5.mono hl.2.2.2.2.2.1
  replace h6 := h6.mono hl.2.2.2.2.2.2.1
  replace h7 := h7.mono hl.2.2.2.2.2.2.2.1
  replace h8 := h8.mono hl.2.2.2.2.2.2.2.2.1
  replace h9 := h9.mono hl.2.2.2.2.2.2.2.2.2.1
  replace h10 := h10.mono hl.2.2.2.2.2.2.2.2.2.2.1
  replace h11 := h11.mono hl.2.2.2.2.2.2.2.2.2.2.2
  subst e0 e1 e2
  refine symFunc_sound hmix tree_frame_Slopes (by kernel_rfl) rfl ?_
  unfold ir_frame_Slopes
  simp only [HH, gW, gD]
  refine call_step (n_frame_In_0w (k0 := (((x9 * x0) + (x10 * x1)) + (x11 * x2))) (k1 := (((x9 * x3) + (x10 * x4)) + (x11 * x5))) (k2 := (((x9 * x6) + (x10 * x7)) + (x11 * x8))) h0 h1 h2 h3 h4 h5 h6 h7 h8 h9 h10 h11 (by decide) rfl rfl rfl) rfl ?_
  simp only [HH, gW, gD]
  have m133 : Num 5400000002 (cr (((x9 * x0) + (x10 * x1)) + (x11 * x2))) (((x9 * x0) + (x10 * x1)) + (x11 * x2)) := Num.of (Sm.add (Sm.add (Sm.mul h9.sm h0.sm) (Sm.mul h10.sm h1.sm)) (Sm.mul h11.sm h2.sm))
  have m134 : Num 5400000002 (cr (((x9 * x6) + (x10 * x7)) + (x11 * x8))) (((x9 * x6) + (x10 * x7)) + (x11 * x8)) := Num.of (Sm.add (Sm.add (Sm.mul h9.sm h6.sm) (Sm.mul h10.sm h7.sm)) (Sm.mul h11.sm h8.sm))
  refine call_step (n_rat_Div_f (k0 := ((((x9 * x0) + (x10 * x1)) + (x11 * x2)) / (((x9 * x6) + (x10 * x7)) + (x11 * x8)))) Y0 (m133.mono (by decide)) (m134.mono (by decide)) rfl c0) rfl ?_
  simp only [HH, gW, gD]
  have m135 : Num 5400000002 (cr (((x9 * x3) + (x10 * x4)) + (x11 * x5))) (((x9 * x3) + (x10 * x4)) + (x11 * x5)) := Num.of (Sm.add (Sm.add (Sm.mul h9.sm h3.sm) (Sm.mul h10.sm h4.sm)) (Sm.mul h11.sm h5.sm))
  refine call_step (n_rat_Div_f (k0 := ((((x9 * x3) + (x10 * x4)) + (x11 * x5)) / (((x9 * x6) + (x10 * x7)) + (x11 * x8)))) Y0 (m135.mono (by decide)) (m134.mono (by decide)) rfl c0) rfl ?_
  simp only [HH, gW, gD]
  exact ret_step rfl

theorem n_warp_one_0 {Z1 : Rat} (Y1 : Z1 = (1 : Rat))    : PureCalls prog F.warp_one [] [.agg (gD [Z1])] := by
  refine symFunc_sound hmix tree_warp_one (by kernel_rfl) rfl ?_
  unfold ir_warp_one
  simp only [HH, gW, gD]
  refine call_step (n_rat_Of (1) (1) (by decide) (by decide) (by decide) (by decide) (Y1.trans (by decide +kernel))) rfl ?_
  simp only [HH, gW, gD]
  exact ret_step rfl

theorem n_warp_over_1 {Z0 : Rat} (Y0 : Z0 = (0 : Rat)) {r0 r1 : RR} {x0 x1 : Rat} {k0 : Rat} (h0 : Num 9000000000 r0 x0) (h1 : Num 9000000000 r1 x1) (e0 : k0 = (x0 / x1)) (c0 : ¬x1 = Z0) : PureCalls prog F.warp_over [.agg (gW [r0]), .agg (gW [r1])] [.agg (gD [k0])] := by
  subst e0
  refine symFunc_sound hmix tree_warp_over (by kernel_rfl) rfl ?_
  unfold ir_warp_over
  simp only [HH, gW, gD]
  refine call_step (n_rat_Div_f (k0 := (x0 / x1)) Y0 (h0.mono (by decide)) (h1.mono (by decide)) rfl c0) rfl ?_
  simp only [HH, gW, gD]
  exact ret_step rfl

theorem n_warp_Density_0 {Z0 Z1_2 Z1 : Rat} (Y0 : Z0 = (0 : Rat)) (Y1_2 : Z1_2 = (1/2 : Rat)) (Y1 : Z1 = (1 : Rat)) {r0 : RR} {x0 : Rat} {k0 : Rat} (h0 : Num 900000000 r0 x0) (e0 : k0 = (Z1_2 / ((Z1 + (x0).abs) * (Z1 + (x0).abs))))  : PureCalls prog F.warp_Density [.agg (gW [r0])] [.agg (gD [k0])] := by
  subst e0
  refine symFunc_sound hmix tree_warp_Density (by kernel_rfl) rfl ?_
  unfold ir_warp_Density
  simp only [HH, gW, gD]
  refine call_step (n_warp_one_0 Y1) rfl ?_
  simp only [HH, gW, gD]
  refine call_step (n_rat_Abs_o (k0 := (x0).abs) (h0.mono (by decide)) rfl) rfl ?_
  simp only [HH, gW, gD]
  refine primS (rl [(cr Z1), (cr (x0).abs)]) rfl ?_
  have m150 : Num 1 (cr Z1) Z1 := Num.c Y1 (by decide +kernel) (by decide +kernel)
  have m151 : Num 900000000 (cr (x0).abs) (x0).abs := Num.of (Sm.abs h0.sm)
  refine call_step (n_rat_Sum_2 (k0 := (Z1 + (x0).abs)) (m150.mono (by decide)) (m151.mono (by decide)) rfl) rfl ?_
  simp only [HH, gW, gD]
  refine call_step (n_rat_Of (1) (2) (by decide) (by decide) (by decide) (by decide) (Y1_2.trans (by decide +kernel))) rfl ?_
  simp only [HH, gW, gD]
  refine primS (rl [(cr (Z1 + (x0).abs)), (cr (Z1 + (x0).abs))]) rfl ?_
  have m153 : Num 900000002 (cr (Z1 + (x0).abs)) (Z1 + (x0).abs) := Num.of (Sm.add m150.sm m151.sm)
  refine call_step (n_rat_Product_2 (k0 := ((Z1 + (x0).abs) * (Z1 + (x0).abs))) (m153.mono (by decide)) (m153.mono (by decide)) rfl) rfl ?_
  simp only [HH, gW, gD]
  have m154 : Num 1 (cr Z1_2) Z1_2 := Num.c Y1_2 (by decide +kernel) (by decide +kernel)
  have m155 : Num 1800000004 (cr ((Z1 + (x0).abs) * (Z1 + (x0).abs))) ((Z1 + (x0).abs) * (Z1 + (x0).abs)) := Num.of (Sm.mul m153.sm m153.sm)
  refine call_step (n_warp_over_1 (k0 := (Z1_2 / ((Z1 + (x0).abs) * (Z1 + (x0).abs)))) Y0 (m154.mono (by decide)) (m155.mono (by decide)) rfl (dns_ne Y0 Y1)) rfl ?_
  simp only [HH, gW, gD]
  exact ret_step rfl

theorem n_warp_Density {r0 : RR} {x0 k0 : Rat} (h0 : Num 900000000 r0 x0) (e : k0 = dns x0) : PureCalls prog F.warp_Density [.agg (gW [r0])] [.agg (gD [k0])] := by
  obtain ⟨Z0, Y0⟩ := ex_eq (0 : Rat)
  obtain ⟨Z1_2, Y1_2⟩ := ex_eq (1/2 : Rat)
  obtain ⟨Z1, Y1⟩ := ex_eq (1 : Rat)
  exact n_warp_Density_0 Y0 Y1_2 Y1 h0 (e.trans (dns_eq Y1 Y1_2))

theorem n_dens_cube_0  {r0 : RR} {x0 : Rat} {k0 : Rat} (h0 : Num 9000000000 r0 x0) (e0 : k0 = ((x0 * x0) * x0))  : PureCalls prog F.dens_cube [.agg (gW [r0])] [.agg (gD [k0])] := by
  subst e0
  refine symFunc_sound hmix tree_dens_cube (by kernel_rfl) rfl ?_
  unfold ir_dens_cube
  simp only [HH, gW, gD]
  refine primS (rl [r0, r0, r0]) rfl ?_
  refine call_step (n_rat_Product_3 (k0 := ((x0 * x0) * x0)) (h0.mono (by decide)) (h0.mono (by decide)) (h0.mono (by decide)) rfl) rfl ?_
  simp only [HH, gW, gD]
  exact ret_step rfl

theorem n_dens_over_1 {Z0 : Rat} (Y0 : Z0 = (0 : Rat)) {r0 r1 : RR} {x0 x1 : Rat} {k0 : Rat} (h0 : Num 9000000000 r0 x0) (h1 : Num 9000000000 r1 x1) (e0 : k0 = (x0 / x1)) (c0 : ¬x1 = Z0) : PureCalls prog F.dens_over [.agg (gW [r0]), .agg (gW [r1])] [.agg (gD [k0])] := by
  subst e0
  refine symFunc_sound hmix tree_dens_over (by kernel_rfl) rfl ?_
  unfold ir_dens_over
  simp only [HH, gW, gD]
  refine call_step (n_rat_Div_f (k0 := (x0 / x1)) Y0 (h0.mono (by decide)) (h1.mono (by decide)) rfl c0) rfl ?_
  simp only [HH, gW, gD]
  exact ret_step rfl

theorem n_penumbralaw16_fixed : PureCalls prog F.penumbralaw16_fixed [] [.one (.bool true)] := by
  obtain ⟨Zm2, Ym2⟩ := ex_eq (-2 : Rat)
  obtain ⟨Zm1, Ym1⟩ := ex_eq (-1 : Rat)
  obtain ⟨Z0, Y0⟩ := ex_eq (0 : Rat)
  obtain ⟨Z1_16, Y1_16⟩ := ex_eq (1/16 : Rat)
  obtain ⟨Z1_4, Y1_4⟩ := ex_eq (1/4 : Rat)
  obtain ⟨Z1_2, Y1_2⟩ := ex_eq (1/2 : Rat)
  obtain ⟨Z1, Y1⟩ := ex_eq (1 : Rat)
  obtain ⟨Z2, Y2⟩ := ex_eq (2 : Rat)
  obtain ⟨Z4, Y4⟩ := ex_eq (4 : Rat)
  obtain ⟨Z8, Y8⟩ := ex_eq (8 : Rat)
  obtain ⟨Z16, Y16⟩ := ex_eq (16 : Rat)
  refine symFunc_sound hmix tree_penumbralaw16_fixed (by kernel_rfl) rfl ?_
  unfold ir_penumbralaw16_fixed
  simp only [HH, gW, gD]
  refine call_step (n_vec_Of (0) (0) (0) (by decide) (by decide) (by decide) (by decide) (by decide) (by decide) (Y0.trans (by decide +kernel)) (Y0.trans (by decide +kernel)) (Y0.trans (by decide +kernel))) rfl ?_
  simp only [HH, gW, gD]
  refine call_step (n_vec_Of (0) (0) (1) (by decide) (by decide) (by decide) (by decide) (by decide) (by decide) (Y0.trans (by decide +kernel)) (Y0.trans (by decide +kernel)) (Y1.trans (by decide +kernel))) rfl ?_
  simp only [HH, gW, gD]
  refine call_step (n_vec_Of (0) (0) (2) (by decide) (by decide) (by decide) (by decide) (by decide) (by decide) (Y0.trans (by decide +kernel)) (Y0.trans (by decide +kernel)) (Y2.trans (by decide +kernel))) rfl ?_
  simp only [HH, gW, gD]
  refine call_step (n_vec_Of (0) (0) (-1) (by decide) (by decide) (by decide) (by decide) (by decide) (by decide) (Y0.trans (by decide +kernel)) (Y0.trans (by decide +kernel)) (Ym1.trans (by decide +kernel))) rfl ?_
  simp only [HH, gW, gD]
  refine call_step (n_vec_Of (0) (0) (2) (by decide) (by decide) (by decide) (by decide) (by decide) (by decide) (Y0.trans (by decide +kernel)) (Y0.trans (by decide +kernel)) (Y2.trans (by decide +kernel))) rfl ?_
  simp only [HH, gW, gD]
  refine call_step (n_vec_Of (0) (0) (1) (by decide) (by decide) (by decide) (by decide) (by decide) (by decide) (Y0.trans (by decide +kernel)) (Y0.trans (by decide +kernel)) (Y1.trans (by decide +kernel))) rfl ?_
  simp only [HH, gW, gD]
  refine call_step (n_affine_Identity_0 Y0 Y1) rfl ?_
  simp only [HH, gW, gD]
  have m158 : Num 1 (cr Z0) Z0 := Num.c Y0 (by decide +kernel) (by decide +kernel)
  have m159 : Num 1 (cr Z1) Z1 := Num.c Y1 (by decide +kernel) (by decide +kernel)
  have m160 : Num 1 (cr Zm1) Zm1 := Num.c Ym1 (by decide +kernel) (by decide +kernel)
  have m161 : Num 1 (cr Z2) Z2 := Num.c Y2 (by decide +kernel) (by decide +kernel)
  have m162 : Num 1 (cr Zm2) Zm2 := Num.c Ym2 (by decide +kernel) (by decide +kernel)
  have hc163 : PureCalls prog F.dens_seen [.agg (gD [Z0, Z0, Z0, Z0, Z0, Z1]), .agg (gD [Z0, Z0, Z2, Z0, Z0, Zm1]), .agg (gD [Z1, Z0, Z0, Z0, Z1, Z0, Z0, Z0, Z1, Z0, Z0, Z0])] [.agg (gD [Z1, Z0, Z0, Z0, Z1, Z0, Z0, Z0, Z1, Z0, Z0, Z2, Z2, Z2]), .one (.bool true)] := by
    refine symFunc_sound hmix tree_dens_seen (by kernel_rfl) rfl ?_
    unfold ir_dens_seen
    simp only [HH, gW, gD]
    refine call_step (n_frame_Of_0 (k0 := Z1) (k1 := Z0) Ym2 Y0 Y1 (m158.mono (by decide)) (m158.mono (by decide)) (m159.mono (by decide)) (by rw [Y1, Y0] <;> decide +kernel) (by rw [Y0, Y1] <;> decide +kernel) rfl rfl) rfl ?_
    simp only [HH, gW, gD]
    refine primS (.bool false) rfl ?_
    refine itF rfl ?_
    refine call_step (n_vec_Dot_0w (k0 := Z1) m158 m158 m160 m158 m158 m160 (by decide) (by rw [Y1, Y0, Ym1] <;> decide +kernel)) rfl ?_
    simp only [HH, gW, gD]
    refine call_step (n_rat_Of (1) (1) (by decide) (by decide) (by decide) (by decide) (Y1.trans (by decide +kernel))) rfl ?_
    simp only [HH, gW, gD]
    refine call_step (n_rat_Same_t (m159.mono (by decide)) (m159.mono (by decide)) rfl) rfl ?_
    simp only [HH, gW, gD]
    refine primS (.bool false) rfl ?_
    refine itF rfl ?_
    refine call_step (n_affine_Apply_0w (k0 := Z0) (k1 := Z0) (k2 := Z2) m159 m158 m158 m158 m159 m158 m158 m158 m159 m158 m158 m158 m158 m158 m161 (by decide) (by rw [Y0, Y1, Y2] <;> decide +kernel) (by rw [Y0, Y1, Y2] <;> decide +kernel) (by rw [Y2, Y0, Y1] <;> decide +kernel)) rfl ?_
    simp only [HH, gW, gD]
    refine call_step (n_vec_Sub_0w (k0 := Z0) (k1 := Z0) (k2 := Z2) m158 m158 m161 m158 m158 m158 (by decide) (by rw [Y0] <;> decide +kernel) (by rw [Y0] <;> decide +kernel) (by rw [Y2, Y0] <;> decide +kernel)) rfl ?_
    simp only [HH, gW, gD]
    refine call_step (n_vec_Dot_0w (k0 := Z2) m158 m158 m161 m158 m158 m159 (by decide) (by rw [Y2, Y0, Y1] <;> decide +kernel)) rfl ?_
    simp only [HH, gW, gD]
    refine call_step (n_affine_Area_0w (k0 := Z0) (k1 := Z0) (k2 := Zm1) m159 m158 m158 m158 m159 m158 m158 m158 m159 m158 m158 m158 m158 m158 m160 (by decide) (by rw [Y0, Y1, Ym1] <;> decide +kernel) (by rw [Y0, Y1, Ym1] <;> decide +kernel) (by rw [Ym1, Y0, Y1] <;> decide +kernel)) rfl ?_
    simp only [HH, gW, gD]
    refine call_step (n_vec_Dot_0w (k0 := Zm2) m158 m158 m160 m158 m158 m161 (by decide) (by rw [Ym2, Y0, Ym1, Y2] <;> decide +kernel)) rfl ?_
    simp only [HH, gW, gD]
    refine call_step (n_rat_Abs_t (k0 := Z2) Y0 (m162.mono (by decide)) (by rw [Y2, Ym2] <;> decide +kernel) (show (Zm2 < Z0) by rw [Ym2, Y0] <;> decide +kernel)) rfl ?_
    simp only [HH, gW, gD]
    refine call_step (n_rat_Sign (m161.mono (by decide))) rfl ?_
    simp only [HH, gW, gD]
    refine primS (.bool true) (cs_gtr_t ((sg_gt Y0).2 (show (Z0 < Z2) by rw [Y0, Y2] <;> decide +kernel))) ?_
    refine itT rfl ?_
    refine call_step (n_rat_Sign (m162.mono (by decide))) rfl ?_
    simp only [HH, gW, gD]
    refine call_step (n_affine_Det_0w (k0 := Z1) m159 m158 m158 m158 m159 m158 m158 m158 m159 m158 m158 m158 (by decide) (by rw [Y1, Y0] <;> decide +kernel)) rfl ?_
    simp only [HH, gW, gD]
    refine call_step (n_rat_Sign (m159.mono (by decide))) rfl ?_
    simp only [HH, gW, gD]
    refine primS (.int .i64 (-1)) (ii_mul (sgn_m Y0 (show (Zm2 < Z0) by rw [Ym2, Y0] <;> decide +kernel)) (sgn_p Y0 (show ¬(Z1 < Z0) by rw [Y1, Y0] <;> decide +kernel) (show ¬(Z1 = Z0) by rw [Y1, Y0] <;> decide +kernel)) rfl) ?_
    refine primS (.bool true) rfl ?_
    exact ret_step rfl
  have m165 : Num 1 (cr Z1_2) Z1_2 := Num.c Y1_2 (by decide +kernel) (by decide +kernel)
  have m166 : Num 1 (cr Z8) Z8 := Num.c Y8 (by decide +kernel) (by decide +kernel)
  have hc167 : PureCalls prog F.dens_Ahead [.agg (gD [Z0, Z0, Z0, Z0, Z0, Z1]), .agg (gD [Z0, Z0, Z2, Z0, Z0, Zm1]), .agg (gD [Z1, Z0, Z0, Z0, Z1, Z0, Z0, Z0, Z1, Z0, Z0, Z0])] [.agg (gD [Z1_16])] := by
    refine symFunc_sound hmix tree_dens_Ahead (by kernel_rfl) rfl ?_
    unfold ir_dens_Ahead
    simp only [HH, gW, gD]
    refine call_step hc163 rfl ?_
    simp only [HH, gW, gD]
    refine primS (.bool false) rfl ?_
    refine itF rfl ?_
    refine call_step (n_frame_Slopes_1w (k0 := Z2) (k1 := Z0) (k2 := Z0) Y0 m159 m158 m158 m158 m159 m158 m158 m158 m159 m158 m158 m161 (by decide) (by rw [Y2, Y0, Y1] <;> decide +kernel) (by rw [Y0, Y1, Y2] <;> decide +kernel) (by rw [Y0, Y1, Y2] <;> decide +kernel) (show ¬(Z2 = Z0) by rw [Y2, Y0] <;> decide +kernel)) rfl ?_
    simp only [HH, gW, gD]
    refine call_step (n_warp_Density (k0 := Z1_2) (m158.mono (by decide)) (by rw [Y1_2, Y0] <;> decide +kernel)) rfl ?_
    simp only [HH, gW, gD]
    refine call_step (n_warp_Density (k0 := Z1_2) (m158.mono (by decide)) (by rw [Y1_2, Y0] <;> decide +kernel)) rfl ?_
    simp only [HH, gW, gD]
    refine primS (rl [(cr Z1_2), (cr Z1_2), (cr Z2)]) rfl ?_
    refine call_step (n_rat_Product_3 (k0 := Z1_2) (m165.mono (by decide)) (m165.mono (by decide)) (m161.mono (by decide)) (by rw [Y1_2, Y2] <;> decide +kernel)) rfl ?_
    simp only [HH, gW, gD]
    refine call_step (n_dens_cube_0 (k0 := Z8) (m161.mono (by decide)) (by rw [Y8, Y2] <;> decide +kernel)) rfl ?_
    simp only [HH, gW, gD]
    refine call_step (n_dens_over_1 (k0 := Z1_16) Y0 (m165.mono (by decide)) (m166.mono (by decide)) (by rw [Y1_16, Y1_2, Y8] <;> decide +kernel) (show ¬(Z8 = Z0) by rw [Y8, Y0] <;> decide +kernel)) rfl ?_
    simp only [HH, gW, gD]
    exact ret_step rfl
  refine call_step hc167 rfl ?_
  simp only [HH, gW, gD]
  refine call_step (n_penumbraref03_Of (1) (16) (by decide) (by decide) (by decide) (by decide) (Y1_16.trans (by decide +kernel))) rfl ?_
  simp only [HH, gW, gD]
  have m168 : Num 1 (cr Z1_16) Z1_16 := Num.c Y1_16 (by decide +kernel) (by decide +kernel)
  refine call_step (n_penumbraref03_Is_t (m168.mono (by decide)) (m168.mono (by decide)) rfl) rfl ?_
  simp only [HH, gW, gD]
  refine itT rfl ?_
  have m171 : Num 1 (cr Z4) Z4 := Num.c Y4 (by decide +kernel) (by decide +kernel)
  have m172 : Num 1 (cr Z16) Z16 := Num.c Y16 (by decide +kernel) (by decide +kernel)
  have hc173 : PureCalls prog F.dens_Transfer [.agg (gD [Z0, Z0, Z0, Z0, Z0, Z1]), .agg (gD [Z0, Z0, Z2, Z0, Z0, Zm1]), .agg (gD [Z1, Z0, Z0, Z0, Z1, Z0, Z0, Z0, Z1, Z0, Z0, Z0])] [.agg (gD [Z1_4])] := by
    refine symFunc_sound hmix tree_dens_Transfer (by kernel_rfl) rfl ?_
    unfold ir_dens_Transfer
    simp only [HH, gW, gD]
    refine call_step hc163 rfl ?_
    simp only [HH, gW, gD]
    refine primS (.bool false) rfl ?_
    refine itF rfl ?_
    refine call_step (n_vec_Dot_0w (k0 := Z4) m158 m158 m161 m158 m158 m161 (by decide) (by rw [Y4, Y0, Y2] <;> decide +kernel)) rfl ?_
    simp only [HH, gW, gD]
    refine primS (rl [(cr Z2), (cr Z2)]) rfl ?_
    refine call_step (n_rat_Product_2 (k0 := Z4) (m161.mono (by decide)) (m161.mono (by decide)) (by rw [Y4, Y2] <;> decide +kernel)) rfl ?_
    simp only [HH, gW, gD]
    refine primS (rl [(cr Z4), (cr Z4)]) rfl ?_
    refine call_step (n_rat_Product_2 (k0 := Z16) (m171.mono (by decide)) (m171.mono (by decide)) (by rw [Y16, Y4] <;> decide +kernel)) rfl ?_
    simp only [HH, gW, gD]
    refine call_step (n_dens_over_1 (k0 := Z1_4) Y0 (m171.mono (by decide)) (m172.mono (by decide)) (by rw [Y1_4, Y4, Y16] <;> decide +kernel) (show ¬(Z16 = Z0) by rw [Y16, Y0] <;> decide +kernel)) rfl ?_
    simp only [HH, gW, gD]
    exact ret_step rfl
  refine call_step hc173 rfl ?_
  simp only [HH, gW, gD]
  refine call_step (n_penumbraref03_Of (1) (4) (by decide) (by decide) (by decide) (by decide) (Y1_4.trans (by decide +kernel))) rfl ?_
  simp only [HH, gW, gD]
  have m174 : Num 1 (cr Z1_4) Z1_4 := Num.c Y1_4 (by decide +kernel) (by decide +kernel)
  refine call_step (n_penumbraref03_Is_t (m174.mono (by decide)) (m174.mono (by decide)) rfl) rfl ?_
  simp only [HH, gW, gD]
  refine itT rfl ?_
  have hc175 : PureCalls prog F.dens_seen [.agg (gD [Z0, Z0, Z0, Z0, Z0, Z1]), .agg (gD [Z0, Z0, Z2, Z0, Z0, Z1]), .agg (gD [Z1, Z0, Z0, Z0, Z1, Z0, Z0, Z0, Z1, Z0, Z0, Z0])] [.agg (gD [Z1, Z0, Z0, Z0, Z1, Z0, Z0, Z0, Z1, Z0, Z0, Z2, Z2, Z2]), .one (.bool false)] := by
    refine symFunc_sound hmix tree_dens_seen (by kernel_rfl) rfl ?_
    unfold ir_dens_seen
    simp only [HH, gW, gD]
    refine call_step (n_frame_Of_0 (k0 := Z1) (k1 := Z0) Ym2 Y0 Y1 (m158.mono (by decide)) (m158.mono (by decide)) (m159.mono (by decide)) (by rw [Y1, Y0] <;> decide +kernel) (by rw [Y0, Y1] <;> decide +kernel) rfl rfl) rfl ?_
    simp only [HH, gW, gD]
    refine primS (.bool false) rfl ?_
    refine itF rfl ?_
    refine call_step (n_vec_Dot_0w (k0 := Z1) m158 m158 m159 m158 m158 m159 (by decide) (by rw [Y1, Y0] <;> decide +kernel)) rfl ?_
    simp only [HH, gW, gD]
    refine call_step (n_rat_Of (1) (1) (by decide) (by decide) (by decide) (by decide) (Y1.trans (by decide +kernel))) rfl ?_
    simp only [HH, gW, gD]
    refine call_step (n_rat_Same_t (m159.mono (by decide)) (m159.mono (by decide)) rfl) rfl ?_
    simp only [HH, gW, gD]
    refine primS (.bool false) rfl ?_
    refine itF rfl ?_
    refine call_step (n_affine_Apply_0w (k0 := Z0) (k1 := Z0) (k2 := Z2) m159 m158 m158 m158 m159 m158 m158 m158 m159 m158 m158 m158 m158 m158 m161 (by decide) (by rw [Y0, Y1, Y2] <;> decide +kernel) (by rw [Y0, Y1, Y2] <;> decide +kernel) (by rw [Y2, Y0, Y1] <;> decide +kernel)) rfl ?_
    simp only [HH, gW, gD]
    refine call_step (n_vec_Sub_0w (k0 := Z0) (k1 := Z0) (k2 := Z2) m158 m158 m161 m158 m158 m158 (by decide) (by rw [Y0] <;> decide +kernel) (by rw [Y0] <;> decide +kernel) (by rw [Y2, Y0] <;> decide +kernel)) rfl ?_
    simp only [HH, gW, gD]
    refine call_step (n_vec_Dot_0w (k0 := Z2) m158 m158 m161 m158 m158 m159 (by decide) (by rw [Y2, Y0, Y1] <;> decide +kernel)) rfl ?_
    simp only [HH, gW, gD]
    refine call_step (n_affine_Area_0w (k0 := Z0) (k1 := Z0) (k2 := Z1) m159 m158 m158 m158 m159 m158 m158 m158 m159 m158 m158 m158 m158 m158 m159 (by decide) (by rw [Y0, Y1] <;> decide +kernel) (by rw [Y0, Y1] <;> decide +kernel) (by rw [Y1, Y0] <;> decide +kernel)) rfl ?_
    simp only [HH, gW, gD]
    refine call_step (n_vec_Dot_0w (k0 := Z2) m158 m158 m159 m158 m158 m161 (by decide) (by rw [Y2, Y0, Y1] <;> decide +kernel)) rfl ?_
    simp only [HH, gW, gD]
    refine call_step (n_rat_Abs_f Y0 (m161.mono (by decide)) (show ¬(Z2 < Z0) by rw [Y2, Y0] <;> decide +kernel)) rfl ?_
    simp only [HH, gW, gD]
    refine call_step (n_rat_Sign (m161.mono (by decide))) rfl ?_
    simp only [HH, gW, gD]
    refine primS (.bool true) (cs_gtr_t ((sg_gt Y0).2 (show (Z0 < Z2) by rw [Y0, Y2] <;> decide +kernel))) ?_
    refine itT rfl ?_
    refine call_step (n_rat_Sign (m161.mono (by decide))) rfl ?_
    simp only [HH, gW, gD]
    refine call_step (n_affine_Det_0w (k0 := Z1) m159 m158 m158 m158 m159 m158 m158 m158 m159 m158 m158 m158 (by decide) (by rw [Y1, Y0] <;> decide +kernel)) rfl ?_
    simp only [HH, gW, gD]
    refine call_step (n_rat_Sign (m159.mono (by decide))) rfl ?_
    simp only [HH, gW, gD]
    refine primS (.int .i64 (1)) (ii_mul (sgn_p Y0 (show ¬(Z2 < Z0) by rw [Y2, Y0] <;> decide +kernel) (show ¬(Z2 = Z0) by rw [Y2, Y0] <;> decide +kernel)) (sgn_p Y0 (show ¬(Z1 < Z0) by rw [Y1, Y0] <;> decide +kernel) (show ¬(Z1 = Z0) by rw [Y1, Y0] <;> decide +kernel)) rfl) ?_
    refine primS (.bool false) rfl ?_
    exact ret_step rfl
  have hc176 : PureCalls prog F.dens_Ahead [.agg (gD [Z0, Z0, Z0, Z0, Z0, Z1]), .agg (gD [Z0, Z0, Z2, Z0, Z0, Z1]), .agg (gD [Z1, Z0, Z0, Z0, Z1, Z0, Z0, Z0, Z1, Z0, Z0, Z0])] [.agg (gD [Z0])] := by
    refine symFunc_sound hmix tree_dens_Ahead (by kernel_rfl) rfl ?_
    unfold ir_dens_Ahead
    simp only [HH, gW, gD]
    refine call_step hc175 rfl ?_
    simp only [HH, gW, gD]
    refine primS (.bool true) rfl ?_
    refine itT rfl ?_
    refine call_step (n_rat_Of (0) (1) (by decide) (by decide) (by decide) (by decide) (Y0.trans (by decide +kernel))) rfl ?_
    simp only [HH, gW, gD]
    exact ret_step rfl
  refine call_step hc176 rfl ?_
  simp only [HH, gW, gD]
  refine call_step (n_penumbraref03_Zero Y0) rfl ?_
  simp only [HH, gW, gD]
  refine call_step (n_penumbraref03_Is_t (m158.mono (by decide)) (m158.mono (by decide)) rfl) rfl ?_
  simp only [HH, gW, gD]
  refine itT rfl ?_
  have hc177 : PureCalls prog F.dens_Transfer [.agg (gD [Z0, Z0, Z0, Z0, Z0, Z1]), .agg (gD [Z0, Z0, Z2, Z0, Z0, Z1]), .agg (gD [Z1, Z0, Z0, Z0, Z1, Z0, Z0, Z0, Z1, Z0, Z0, Z0])] [.agg (gD [Z0])] := by
    refine symFunc_sound hmix tree_dens_Transfer (by kernel_rfl) rfl ?_
    unfold ir_dens_Transfer
    simp only [HH, gW, gD]
    refine call_step hc175 rfl ?_
    simp only [HH, gW, gD]
    refine primS (.bool true) rfl ?_
    refine itT rfl ?_
    refine call_step (n_rat_Of (0) (1) (by decide) (by decide) (by decide) (by decide) (Y0.trans (by decide +kernel))) rfl ?_
    simp only [HH, gW, gD]
    exact ret_step rfl
  refine call_step hc177 rfl ?_
  simp only [HH, gW, gD]
  refine call_step (n_penumbraref03_Zero Y0) rfl ?_
  simp only [HH, gW, gD]
  refine call_step (n_penumbraref03_Is_t (m158.mono (by decide)) (m158.mono (by decide)) rfl) rfl ?_
  simp only [HH, gW, gD]
  exact ret_step rfl

theorem n_penumbraref05_Cross_0w  {r0 r1 r2 r3 r4 r5 : RR} {x0 x1 x2 x3 x4 x5 : Rat} {k0 k1 k2 : Rat} {L0 L1 L2 L3 L4 L5 : Nat} (h0 : Num L0 r0 x0) (h1 : Num L1 r1 x1) (h2 : Num L2 r2 x2) (h3 : Num L3 r3 x3) (h4 : Num L4 r4 x4) (h5 : Num L5 r5 x5) (hl : L0 ≤ 9000000000 ∧ L1 ≤ 9000000000 ∧ L2 ≤ 9000000000 ∧ L3 ≤ 9000000000 ∧ L4 ≤ 9000000000 ∧ L5 ≤ 9000000000) (e0 : k0 = ((x1 * x5) - (x2 * x4))) (e1 : k1 = ((x2 * x3) - (x0 * x5))) (e2 : k2 = ((x0 * x4) - (x1 * x3)))  : PureCalls prog F.penumbraref05_Cross [.agg (gW [r0, r1, r2]), .agg (gW [r3, r4, r5])] [.agg (gD [k0, k1, k2])] := by
  replace h0 := h0.mono hl.1
  replace h1 := h1.mono hl.2.1
  replace h2 := h2.mono hl.2.2.1
  replace h3 := h3.mono hl.2.2.2.1
  replace h4 := h4.mono hl.2.2.2.2.1
  replace h5 := h5.mono hl.2.2.2.2.2
  subst e0 e1 e2
  refine symFunc_sound hmix tree_penumbraref05_Cross (by kernel_rfl) rfl ?_
  unfold ir_penumbraref05_Cross
  simp only [HH, gW, gD]
  refine call_step (n_penumbraref03_Mul (k0 := (x1 * x5)) (h1.mono (by decide)) (h5.mono (by decide)) rfl) rfl ?_
  simp only [HH, gW, gD]
  refine call_step (n_penumbraref03_Mul (k0 := (x2 * x4)) (h2.mono (by decide)) (h4.mono (by decide)) rfl) rfl ?_
  simp only [HH, gW, gD]
  have m184 : Num 18000000000 (cr (x1 * x5)) (x1 * x5) := Num.of (Sm.mul h1.sm h5.sm)
  have m185 : Num 18000000000 (cr (x2 * x4)) (x2 * x4) := Num.of (Sm.mul h2.sm h4.sm)
  refine call_step (n_penumbraref03_Sub (k0 := ((x1 * x5) - (x2 * x4))) (m184.mono (by decide)) (m185.mono (by decide)) rfl) rfl ?_
  simp only [HH, gW, gD]
  refine call_step (n_penumbraref03_Mul (k0 := (x2 * x3)) (h2.mono (by decide)) (h3.mono (by decide)) rfl) rfl ?_
  simp only [HH, gW, gD]
  refine call_step (n_penumbraref03_Mul (k0 := (x0 * x5)) (h0.mono (by decide)) (h5.mono (by decide)) rfl) rfl ?_
  simp only [HH, gW, gD]
  have m186 : Num 18000000000 (cr (x2 * x3)) (x2 * x3) := Num.of (Sm.mul h2.sm h3.sm)
  have m187 : Num 18000000000 (cr (x0 * x5)) (x0 * x5) := Num.of (Sm.mul h0.sm h5.sm)
  refine call_step (n_penumbraref03_Sub (k0 := ((x2 * x3) - (x0 * x5))) (m186.mono (by decide)) (m187.mono (by decide)) rfl) rfl ?_
  simp only [HH, gW, gD]
  refine call_step (n_penumbraref03_Mul (k0 := (x0 * x4)) (h0.mono (by decide)) (h4.mono (by decide)) rfl) rfl ?_
  simp only [HH, gW, gD]
  refine call_step (n_penumbraref03_Mul (k0 := (x1 * x3)) (h1.mono (by decide)) (h3.mono (by decide)) rfl) rfl ?_
  simp only [HH, gW, gD]
  have m188 : Num 18000000000 (cr (x0 * x4)) (x0 * x4) := Num.of (Sm.mul h0.sm h4.sm)
  have m189 : Num 18000000000 (cr (x1 * x3)) (x1 * x3) := Num.of (Sm.mul h1.sm h3.sm)
  refine call_step (n_penumbraref03_Sub (k0 := ((x0 * x4) - (x1 * x3))) (m188.mono (by decide)) (m189.mono (by decide)) rfl) rfl ?_
  simp only [HH, gW, gD]
  exact ret_step rfl

theorem n_penumbraref05_Dot_0w  {r0 r1 r2 r3 r4 r5 : RR} {x0 x1 x2 x3 x4 x5 : Rat} {k0 : Rat} {L0 L1 L2 L3 L4 L5 : Nat} (h0 : Num L0 r0 x0) (h1 : Num L1 r1 x1) (h2 : Num L2 r2 x2) (h3 : Num L3 r3 x3) (h4 : Num L4 r4 x4) (h5 : Num L5 r5 x5) (hl : L0 ≤ 9000000000 ∧ L1 ≤ 9000000000 ∧ L2 ≤ 9000000000 ∧ L3 ≤ 9000000000 ∧ L4 ≤ 9000000000 ∧ L5 ≤ 9000000000) (e0 : k0 = (((x0 * x3) + (x1 * x4)) + (x2 * x5)))  : PureCalls prog F.penumbraref05_Dot [.agg (gW [r0, r1, r2]), .agg (gW [r3, r4, r5])] [.agg (gD [k0])] := by
  replace h0 := h0.mono hl.1
  replace h1 := h1.mono hl.2.1
  replace h2 := h2.mono hl.2.2.1
  replace h3 := h3.mono hl.2.2.2.1
  replace h4 := h4.mono hl.2.2.2.2.1
  replace h5 := h5.mono hl.2.2.2.2.2
  subst e0
  refine symFunc_sound hmix tree_penumbraref05_Dot (by kernel_rfl) rfl ?_
  unfold ir_penumbraref05_Dot
  simp only [HH, gW, gD]
  refine call_step (n_penumbraref03_Mul (k0 := (x0 * x3)) (h0.mono (by decide)) (h3.mono (by decide)) rfl) rfl ?_
  simp only [HH, gW, gD]
  refine call_step (n_penumbraref03_Mul (k0 := (x1 * x4)) (h1.mono (by decide)) (h4.mono (by decide)) rfl) rfl ?_
  simp only [HH, gW, gD]
  have m194 : Num 18000000000 (cr (x0 * x3)) (x0 * x3) := Num.of (Sm.mul h0.sm h3.sm)
  have m195 : Num 18000000000 (cr (x1 * x4)) (x1 * x4) := Num.of (Sm.mul h1.sm h4.sm)
  refine call_step (n_penumbraref03_Add (k0 := ((x0 * x3) + (x1 * x4))) (m194.mono (by decide)) (m195.mono (by decide)) rfl) rfl ?_
  simp only [HH, gW, gD]
  refine call_step (n_penumbraref03_Mul (k0 := (x2 * x5)) (h2.mono (by decide)) (h5.mono (by decide)) rfl) rfl ?_
  simp only [HH, gW, gD]
  have m196 : Num 36000000001 (cr ((x0 * x3) + (x1 * x4))) ((x0 * x3) + (x1 * x4)) := Num.of (Sm.add m194.sm m195.sm)
  have m197 : Num 18000000000 (cr (x2 * x5)) (x2 * x5) := Num.of (Sm.mul h2.sm h5.sm)
  refine call_step (n_penumbraref03_Add (k0 := (((x0 * x3) + (x1 * x4)) + (x2 * x5))) (m196.mono (by decide)) (m197.mono (by decide)) rfl) rfl ?_
  simp only [HH, gW, gD]
  exact ret_step rfl

theorem n_penumbraref07_Det_0w  {r0 r1 r2 r3 r4 r5 r6 r7 r8 r9 r10 r11 : RR} {x0 x1 x2 x3 x4 x5 x6 x7 x8 x9 x10 x11 : Rat} {k0 : Rat} {L0 L1 L2 L3 L4 L5 L6 L7 L8 L9 L10 L11 : Nat} (h0 : Num L0 r0 x0) (h1 : Num L1 r1 x1) (h2 : Num L2 r2 x2) (h3 : Num L3 r3 x3) (h4 : Num L4 r4 x4) (h5 : Num L5 r5 x5) (h6 : Num L6 r6 x6) (h7 : Num L7 r7 x7) (h8 : Num L8 r8 x8) (h9 : Num L9 r9 x9) (h10 : Num L10 r10 x10) (h11 : Num L11 r11 x11) (hl : L0 ≤ 900000000 ∧ L1 ≤ 900000000 ∧ L2 ≤ 900000000 ∧ L3 ≤ 900000000 ∧ L4 ≤ 900000000 ∧ L5 ≤ 900000000 ∧ L6 ≤ 900000000 ∧ L7 ≤ 900000000 ∧ L8 ≤ 900000000 ∧ L9 ≤ 900000000 ∧ L10 ≤ 900000000 ∧ L11 ≤ 900000000) (e0 : k0 = (((x0 * ((x4 * x8) - (x5 * x7))) + (x1 * ((x5 * x6) - (x3 * x8)))) + (x2 * ((x3 * x7) - (x4 * x6)))))  : PureCalls prog F.penumbraref07_Det [.agg (gW [r0, r1, r2, r3, r4, r5, r6, r7, r8, r9, r10, r11])] [.agg (gD [k0])] := by
  replace h0 := h0.mono hl.1
  replace h1 := h1.mono hl.2.1
  replace h2 := h2.mono hl.2.2.1
  replace h3 := h3.mono hl.2.2.2.1
  replace h4 := h4.mono hl.2.2.2.2.1
  replace h5 := h5.mono hl.2.2.2.2.2.1
  replace h6 := h6.mono hl.2.2.2.2.2.2.1
  replace h7 := h7.mono hl.2.2.2.2.2.2.2.1
  replace h8 := h8.mono hl.2.2.2.2.2.2.2.2.1
  replace h9 := h9.mono hl.2.2.2.2.2.2.2.2.2.1
  replace h10 := h10.mono hl.2.2.2.2.2.2.2.2.2.2.1
  replace h11 := h11.mono hl.2.2.2.2.2.2.2.2.2.2.2
  subst e0
  refine symFunc_sound hmix tree_penumbraref07_Det (by kernel_rfl) rfl ?_
  unfold ir_penumbraref07_Det
  simp only [HH, gW, gD]
  refine call_step (n_penumbraref05_Cross_0w (k0 := ((x4 * x8) - (x5 * x7))) (k1 := ((x5 * x6) - (x3 * x8))) (k2 := ((x3 * x7) - (x4 * x6))) h3 h4 h5 h6 h7 h8 (by decide) rfl rfl rfl) rfl ?_
  simp only [HH, gW, gD]
  have m201 : Num 3600000001 (cr ((x4 * x8) - (x5 * x7))) ((x4 * x8) - (x5 * x7)) := Num.of (Sm.sub (Sm.mul h4.sm h8.sm) (Sm.mul h5.sm h7.sm))
  have m202 : Num 3600000001 (cr ((x5 * x6) - (x3 * x8))) ((x5 * x6) - (x3 * x8)) := Num.of (Sm.sub (Sm.mul h5.sm h6.sm) (Sm.mul h3.sm h8.sm))
  have m203 : Num 3600000001 (cr ((x3 * x7) - (x4 * x6))) ((x3 * x7) - (x4 * x6)) := Num.of (Sm.sub (Sm.mul h3.sm h7.sm) (Sm.mul h4.sm h6.sm))
  refine call_step (n_penumbraref05_Dot_0w (k0 := (((x0 * ((x4 * x8) - (x5 * x7))) + (x1 * ((x5 * x6) - (x3 * x8)))) + (x2 * ((x3 * x7) - (x4 * x6))))) h0 h1 h2 m201 m202 m203 (by decide) rfl) rfl ?_
  simp only [HH, gW, gD]
  exact ret_step rfl

theorem n_penumbraref07_Turn_0w  {r0 r1 r2 r3 r4 r5 r6 r7 r8 r9 r10 r11 r12 r13 r14 : RR} {x0 x1 x2 x3 x4 x5 x6 x7 x8 x9 x10 x11 x12 x13 x14 : Rat} {k0 k1 k2 : Rat} {L0 L1 L2 L3 L4 L5 L6 L7 L8 L9 L10 L11 L12 L13 L14 : Nat} (h0 : Num L0 r0 x0) (h1 : Num L1 r1 x1) (h2 : Num L2 r2 x2) (h3 : Num L3 r3 x3) (h4 : Num L4 r4 x4) (h5 : Num L5 r5 x5) (h6 : Num L6 r6 x6) (h7 : Num L7 r7 x7) (h8 : Num L8 r8 x8) (h9 : Num L9 r9 x9) (h10 : Num L10 r10 x10) (h11 : Num L11 r11 x11) (h12 : Num L12 r12 x12) (h13 : Num L13 r13 x13) (h14 : Num L14 r14 x14) (hl : L0 ≤ 9000000000 ∧ L1 ≤ 9000000000 ∧ L2 ≤ 9000000000 ∧ L3 ≤ 9000000000 ∧ L4 ≤ 9000000000 ∧ L5 ≤ 9000000000 ∧ L6 ≤ 9000000000 ∧ L7 ≤ 9000000000 ∧ L8 ≤ 9000000000 ∧ L9 ≤ 9000000000 ∧ L10 ≤ 9000000000 ∧ L11 ≤ 9000000000 ∧ L12 ≤ 9000000000 ∧ L13 ≤ 9000000000 ∧ L14 ≤ 9000000000) (e0 : k0 = (((x0 * x12) + (x1 * x13)) + (x2 * x14))) (e1 : k1 = (((x3 * x12) + (x4 * x13)) + (x5 * x14))) (e2 : k2 = (((x6 * x12) + (x7 * x13)) + (x8 * x14)))  : PureCalls prog F.penumbraref07_Turn [.agg (gW [r0, r1, r2, r3, r4, r5, r6, r7, r8, r9, r10, r11]), .agg (gW [r12, r13, r14])] [.agg (gD [k0, k1, k2])] := by
  replace h0 := h0.mono hl.1
  replace h1 := h1.mono hl.2.1
  replace h2 := h2.mono hl.2.2.1
  replace h3 := h3.mono hl.2.2.2.1
  replace h4 := h4.mono hl.2.2.2.2.1
  replace h5 := h5.mono hl.2.2.2.2.2.1
  replace h6 := h6.mono hl.2.2.2.2.2.2.1
  replace h7 := h7.mono hl.2.2.2.2.2.2.2.1
  replace h8 := h8.mono hl.2.2.2.2.2.2.2.2.1
  replace h9 := h9.mono hl.2.2.2.2.2.2.2.2.2.1
  replace h10 := h10.mono hl.2.2.2.2.2.2.2.2.2.2.1
  replace h11 := h11.mono hl.2.2.2.2.2.2.2.2.2.2.2.1
  replace h12 := h12.mono hl.2.2.2.2.2.2.2.2.2.2.2.2.1
  replace h13 := h13.mono hl.2.2.2.2.2.2.2.2.2.2.2.2.2.1
  replace h14 := h14.mono hl.2.2.2.2.2.2.2.2.2.2.2.2.2.2
  subst e0 e1 e2
  refine symFunc_sound hmix tree_penumbraref07_Turn (by kernel_rfl) rfl ?_
  unfold ir_penumbraref07_Turn
  simp only [HH, gW, gD]
  refine call_step (n_penumbraref05_Dot_0w (k0 := (((x0 * x12) + (x1 * x13)) + (x2 * x14))) h0 h1 h2 h12 h13 h14 (by decide) rfl) rfl ?_
  simp only [HH, gW, gD]
  refine call_step (n_penumbraref05_Dot_0w (k0 := (((x3 * x12) + (x4 * x13)) + (x5 * x14))) h3 h4 h5 h12 h13 h14 (by decide) rfl) rfl ?_
  simp only [HH, gW, gD]
  refine call_step (n_penumbraref05_Dot_0w (k0 := (((x6 * x12) + (x7 * x13)) + (x8 * x14))) h6 h7 h8 h12 h13 h14 (by decide) rfl) rfl ?_
  simp only [HH, gW, gD]
  exact ret_step rfl

theorem n_penumbraref05_Add_0w  {r0 r1 r2 r3 r4 r5 : RR} {x0 x1 x2 x3 x4 x5 : Rat} {k0 k1 k2 : Rat} {L0 L1 L2 L3 L4 L5 : Nat} (h0 : Num L0 r0 x0) (h1 : Num L1 r1 x1) (h2 : Num L2 r2 x2) (h3 : Num L3 r3 x3) (h4 : Num L4 r4 x4) (h5 : Num L5 r5 x5) (hl : L0 ≤ 9000000000 ∧ L1 ≤ 9000000000 ∧ L2 ≤ 9000000000 ∧ L3 ≤ 9000000000 ∧ L4 ≤ 9000000000 ∧ L5 ≤ 9000000000) (e0 : k0 = (x0 + x3)) (e1 : k1 = (x1 + x4)) (e2 : k2 = (x2 + x5))  : PureCalls prog F.penumbraref05_Add [.agg (gW [r0, r1, r2]), .agg (gW [r3, r4, r5])] [.agg (gD [k0, k1, k2])] := by
  replace h0 := h0.mono hl.1
  replace h1 := h1.mono hl.2.1
  replace h2 := h2.mono hl.2.2.1
  replace h3 := h3.mono hl.2.2.2.1
  replace h4 := h4.mono hl.2.2.2.2.1
  replace h5 := h5.mono hl.2.2.2.2.2
  subst e0 e1 e2
  refine symFunc_sound hmix tree_penumbraref05_Add (by kernel_rfl) rfl ?_
  unfold ir_penumbraref05_Add
  simp only [HH, gW, gD]
  refine call_step (n_penumbraref03_Add (k0 := (x0 + x3)) (h0.mono (by decide)) (h3.mono (by decide)) rfl) rfl ?_
  simp only [HH, gW, gD]
  refine call_step (n_penumbraref03_Add (k0 := (x1 + x4)) (h1.mono (by decide)) (h4.mono (by decide)) rfl) rfl ?_
  simp only [HH, gW, gD]
  refine call_step (n_penumbraref03_Add (k0 := (x2 + x5)) (h2.mono (by decide)) (h5.mono (by decide)) rfl) rfl ?_
  simp only [HH, gW, gD]
  exact ret_step rfl

theorem n_penumbraref07_Apply_0w  {r0 r1 r2 r3 r4 r5 r6 r7 r8 r9 r10 r11 r12 r13 r14 : RR} {x0 x1 x2 x3 x4 x5 x6 x7 x8 x9 x10 x11 x12 x13 x14 : Rat} {k0 k1 k2 : Rat} {L0 L1 L2 L3 L4 L5 L6 L7 L8 L9 L10 L11 L12 L13 L14 : Nat} (h0 : Num L0 r0 x0) (h1 : Num L1 r1 x1) (h2 : Num L2 r2 x2) (h3 : Num L3 r3 x3) (h4 : Num L4 r4 x4) (h5 : Num L5 r5 x5) (h6 : Num L6 r6 x6) (h7 : Num L7 r7 x7) (h8 : Num L8 r8 x8) (h9 : Num L9 r9 x9) (h10 : Num L10 r10 x10) (h11 : Num L11 r11 x11) (h12 : Num L12 r12 x12) (h13 : Num L13 r13 x13) (h14 : Num L14 r14 x14) (hl : L0 ≤ 900000000 ∧ L1 ≤ 900000000 ∧ L2 ≤ 900000000 ∧ L3 ≤ 900000000 ∧ L4 ≤ 900000000 ∧ L5 ≤ 900000000 ∧ L6 ≤ 900000000 ∧ L7 ≤ 900000000 ∧ L8 ≤ 900000000 ∧ L9 ≤ 900000000 ∧ L10 ≤ 900000000 ∧ L11 ≤ 900000000 ∧ L12 ≤ 900000000 ∧ L13 ≤ 900000000 ∧ L14 ≤ 900000000) (e0 : k0 = ((((x0 * x12) + (x1 * x13)) + (x2 * x14)) + x9)) (e1 : k1 = ((((x3 * x12) + (x4 * x13)) + (x5 * x14)) + x10)) (e2 : k2 = ((((x6 * x12) + (x7 * x13)) + (x8 * x14)) + x11))  : PureCalls prog F.penumbraref07_Apply [.agg (gW [r0, r1, r2, r3, r4, r5, r6, r7, r8, r9, r10, r11]), .agg (gW [r12, r13, r14])] [.agg (gD [k0, k1, k2])] := by
  replace h0 := h0.mono hl.1
  replace h1 := h1.mono hl.2.1
  replace h2 := h2.mono hl.2.2.1
  replace h3 := h3.mono hl.2.2.2.1
  replace h4 := h4.mono hl.2.2.2.2.1
  replace h5 := h5.mono hl.2.2.2.2.2.1
  replace h6 := h6.mono hl.2.2.2.2.2.2.1
  replace h7 := h7.mono hl.2.2.2.2.2.2.2.1
  replace h8 := h8.mono hl.2.2.2.2.2.2.2.2.1
  replace h9 := h9.mono hl.2.2.2.2.2.2.2.2.2.1
  replace h10 := h10.mono hl.2.2.2.2.2.2.2.2.2.2.1
  replace h11 := h11.mono hl.2.2.2.2.2.2.2.2.2.2.2.1
  replace h12 := h12.mono hl.2.2.2.2.2.2.2.2.2.2.2.2.1
  replace h13 := h13.mono hl.2.2.2.2.2.2.2.2.2.2.2.2.2.1
  replace h14 := h14.mono hl.2.2.2.2.2.2.2.2.2.2.2.2.2.2
  subst e0 e1 e2
  refine symFunc_sound hmix tree_penumbraref07_Apply (by kernel_rfl) rfl ?_
  unfold ir_penumbraref07_Apply
  simp only [HH, gW, gD]
  refine call_step (n_penumbraref07_Turn_0w (k0 := (((x0 * x12) + (x1 * x13)) + (x2 * x14))) (k1 := (((x3 * x12) + (x4 * x13)) + (x5 * x14))) (k2 := (((x6 * x12) + (x7 * x13)) + (x8 * x14))) h0 h1 h2 h3 h4 h5 h6 h7 h8 h9 h10 h11 h12 h13 h14 (by decide) rfl rfl rfl) rfl ?_
  simp only [HH, gW, gD]
  have m207 : Num 5400000002 (cr (((x0 * x12) + (x1 * x13)) + (x2 * x14))) (((x0 * x12) + (x1 * x13)) + (x2 * x14)) := Num.of (Sm.add (Sm.add (Sm.mul h0.sm h12.sm) (Sm.mul h1.sm h13.sm)) (Sm.mul h2.sm h14.sm))
  have m208 : Num 5400000002 (cr (((x3 * x12) + (x4 * x13)) + (x5 * x14))) (((x3 * x12) + (x4 * x13)) + (x5 * x14)) := Num.of (Sm.add (Sm.add (Sm.mul h3.sm h12.sm) (Sm.mul h4.sm h13.sm)) (Sm.mul h5.sm h14.sm))
  have m209 : Num 5400000002 (cr (((x6 * x12) + (x7 * x13)) + (x8 * x14))) (((x6 * x12) + (x7 * x13)) + (x8 * x14)) := Num.of (Sm.add (Sm.add (Sm.mul h6.sm h12.sm) (Sm.mul h7.sm h13.sm)) (Sm.mul h8.sm h14.sm))
  refine call_step (n_penumbraref05_Add_0w (k0 := ((((x0 * x12) + (x1 * x13)) + (x2 * x14)) + x9)) (k1 := ((((x3 * x12) + (x4 * x13)) + (x5 * x14)) + x10)) (k2 := ((((x6 * x12) + (x7 * x13)) + (x8 * x14)) + x11)) m207 m208 m209 h9 h10 h11 (by decide) rfl rfl rfl) rfl ?_
  simp only [HH, gW, gD]
  exact ret_step rfl

theorem n_penumbraref05_Sub_0w  {r0 r1 r2 r3 r4 r5 : RR} {x0 x1 x2 x3 x4 x5 : Rat} {k0 k1 k2 : Rat} {L0 L1 L2 L3 L4 L5 : Nat} (h0 : Num L0 r0 x0) (h1 : Num L1 r1 x1) (h2 : Num L2 r2 x2) (h3 : Num L3 r3 x3) (h4 : Num L4 r4 x4) (h5 : Num L5 r5 x5) (hl : L0 ≤ 9000000000 ∧ L1 ≤ 9000000000 ∧ L2 ≤ 9000000000 ∧ L3 ≤ 9000000000 ∧ L4 ≤ 9000000000 ∧ L5 ≤ 9000000000) (e0 : k0 = (x0 - x3)) (e1 : k1 = (x1 - x4)) (e2 : k2 = (x2 - x5))  : PureCalls prog F.penumbraref05_Sub [.agg (gW [r0, r1, r2]), .agg (gW [r3, r4, r5])] [.agg (gD [k0, k1, k2])] := by
  replace h0 := h0.mono hl.1
  replace h1 := h1.mono hl.2.1
  replace h2 := h2.mono hl.2.2.1
  replace h3 := h3.mono hl.2.2.2.1
  replace h4 := h4.mono hl.2.2.2.2.1
  replace h5 := h5.mono hl.2.2.2.2.2
  subst e0 e1 e2
  refine symFunc_sound hmix tree_penumbraref05_Sub (by kernel_rfl) rfl ?_
  unfold ir_penumbraref05_Sub
  simp only [HH, gW, gD]
  refine call_step (n_penumbraref03_Sub (k0 := (x0 - x3)) (h0.mono (by decide)) (h3.mono (by decide)) rfl) rfl ?_
  simp only [HH, gW, gD]
  refine call_step (n_penumbraref03_Sub (k0 := (x1 - x4)) (h1.mono (by decide)) (h4.mono (by decide)) rfl) rfl ?_
  simp only [HH, gW, gD]
  refine call_step (n_penumbraref03_Sub (k0 := (x2 - x5)) (h2.mono (by decide)) (h5.mono (by decide)) rfl) rfl ?_
  simp only [HH, gW, gD]
  exact ret_step rfl

theorem n_penumbraref16_Way_0w  {r0 r1 r2 r3 r4 r5 r6 r7 r8 r9 r10 r11 r12 r13 r14 r15 r16 r17 r18 r19 r20 r21 r22 r23 : RR} {x0 x1 x2 x3 x4 x5 x6 x7 x8 x9 x10 x11 x12 x13 x14 x15 x16 x17 x18 x19 x20 x21 x22 x23 : Rat} {k0 k1 k2 : Rat} {L0 L1 L2 L3 L4 L5 L6 L7 L8 L9 L10 L11 L12 L13 L14 L15 L16 L17 L18 L19 L20 L21 L22 L23 : Nat} (h0 : Num L0 r0 x0) (h1 : Num L1 r1 x1) (h2 : Num L2 r2 x2) (h3 : Num L3 r3 x3) (h4 : Num L4 r4 x4) (h5 : Num L5 r5 x5) (h6 : Num L6 r6 x6) (h7 : Num L7 r7 x7) (h8 : Num L8 r8 x8) (h9 : Num L9 r9 x9) (h10 : Num L10 r10 x10) (h11 : Num L11 r11 x11) (h12 : Num L12 r12 x12) (h13 : Num L13 r13 x13) (h14 : Num L14 r14 x14) (h15 : Num L15 r15 x15) (h16 : Num L16 r16 x16) (h17 : Num L17 r17 x17) (h18 : Num L18 r18 x18) (h19 : Num L19 r19 x19) (h20 : Num L20 r20 x20) (h21 : Num L21 r21 x21) (h22 : Num L22 r22 x22) (h23 : Num L23 r23 x23) (hl : L0 ≤ 900000000 ∧ L1 ≤ 900000000 ∧ L2 ≤ 900000000 ∧ L3 ≤ 900000000 ∧ L4 ≤ 900000000 ∧ L5 ≤ 900000000 ∧ L6 ≤ 900000000 ∧ L7 ≤ 900000000 ∧ L8 ≤ 900000000 ∧ L9 ≤ 900000000 ∧ L10 ≤ 900000000 ∧ L11 ≤ 900000000 ∧ L12 ≤ 900000000 ∧ L13 ≤ 900000000 ∧ L14 ≤ 900000000 ∧ L15 ≤ 900000000 ∧ L16 ≤ 900000000 ∧ L17 ≤ 900000000 ∧ L18 ≤ 900000000 ∧ L19 ≤ 900000000 ∧ L20 ≤ 900000000 ∧ L21 ≤ 900000000 ∧ L22 ≤ 900000000 ∧ L23 ≤ 900000000) (e0 : k0 = (((((x12 * x6) + (x13 * x7)) + (x14 * x8)) + x21) - x0)) (e1 : k1 = (((((x15 * x6) + (x16 * x7)) + (x17 * x8)) + x22) - x1)) (e2 : k2 = (((((x18 * x6) + (x19 * x7)) + (x20 * x8)) + x23) - x2))  : PureCalls prog F.penumbraref16_Way [.agg (gW [r0, r1, r2, r3, r4, r5]), .agg (gW [r6, r7, r8, r9, r10, r11]), .agg (gW [r12, r13, r14, r15, r16, r17, r18, r19, r20, r21, r22, r23])] [.agg (gD [k0, k1, k2])] := by
  replace h0 := h0.mono hl.1
  replace h1 := h1.mono hl.2.1
  replace h2 := h2.mono hl.2.2.1
  replace h3 := h3.mono hl.2.2.2.1
  replace h4 := h4.mono hl.2.2.2.2.1
  replace h5 := h5.mono hl.2.2.2.2.2.1
  replace h6 := h6.mono hl.2.2.2.2.2.2.1
  replace h7 := h7.mono hl.2.2.2.2.2.2.2.1
  replace h8 := h8.mono hl.2.2.2.2.2.2.2.2.1
  replace h9 := h9.mono hl.2.2.2.2.2.2.2.2.2.1
  replace h10 := h10.mono hl.2.2.2.2.2.2.2.2.2.2.1
  replace h11 := h11.mono hl.2.2.2.2.2.2.2.2.2.2.2.1
  replace h12 := h12.mono hl.2.2.2.2.2.2.2.2.2.2.2.2.1
  replace h13 := h13.mono hl.2.2.2.2.2.2.2.2.2.2.2.2.2.1
  replace h14 := h14.mono hl.2.2.2.2.2.2.2.2.2.2.2.2.2.2.1
  replace h15 := h15.mono hl.2.2.2.2.2.2.2.2.2.2.2.2.2.2.2.1
  replace h16 := h16.mono hl.2.2.2.2.2.2.2.2.2.2.2.2.2.2.2.2.1
  replace h17 := h17.mono hl.2.2.2.2.2.2.2.2.2.2.2.2.2.2.2.2.2.1
  replace h18 := h18.mono hl.2.2.2.2.2.2.2.2.2.2.2.2.2.2.2.2.2.2.1
  replace h19 := h19.mono hl.2.2.2.2.2.2.2.2.2.2.2.2.2.2.2.2.2.2.2.1
  replace h20 := h20.mono hl.2.2.2.2.2.2.2.2.2.2.2.2.2.2.2.2.2.2.2.2.1
  replace h21 := h21.mono hl.2.2.2.2.2.2.2.2.2.2.2.2.2.2.2.2.2.2.2.2.2.1
  replace h22 := h22.mono hl.2.2.2.2.2.2.2.2.2.2.2.2.2.2.2.2.2.2.2.2.2.2.1
  replace h23 := h23.mono hl.2.2.2.2.2.2.2.2.2.2.2.2.2.2.2.2.2.2.2.2.2.2.2
  subst e0 e1 e2
  refine symFunc_sound hmix tree_penumbraref16_Way (by kernel_rfl) rfl ?_
  unfold ir_penumbraref16_Way
  simp only [HH, gW, gD]
  refine call_step (n_penumbraref07_Apply_0w (k0 := ((((x12 * x6) + (x13 * x7)) + (x14 * x8)) + x21)) (k1 := ((((x15 * x6) + (x16 * x7)) + (x17 * x8)) + x22)) (k2 := ((((x18 * x6) + (x19 * x7)) + (x20 * x8)) + x23)) h12 h13 h14 h15 h16 h17 h18 h19 h20 h21 h22 h23 h6 h7 h8 (by decide) rfl rfl rfl) rfl ?_
  simp only [HH, gW, gD]
  have m213 : Num 6300000003 (cr ((((x12 * x6) + (x13 * x7)) + (x14 * x8)) + x21)) ((((x12 * x6) + (x13 * x7)) + (x14 * x8)) + x21) := Num.of (Sm.add (Sm.add (Sm.add (Sm.mul h12.sm h6.sm) (Sm.mul h13.sm h7.sm)) (Sm.mul h14.sm h8.sm)) h21.sm)
  have m214 : Num 6300000003 (cr ((((x15 * x6) + (x16 * x7)) + (x17 * x8)) + x22)) ((((x15 * x6) + (x16 * x7)) + (x17 * x8)) + x22) := Num.of (Sm.add (Sm.add (Sm.add (Sm.mul h15.sm h6.sm) (Sm.mul h16.sm h7.sm)) (Sm.mul h17.sm h8.sm)) h22.sm)
  have m215 : Num 6300000003 (cr ((((x18 * x6) + (x19 * x7)) + (x20 * x8)) + x23)) ((((x18 * x6) + (x19 * x7)) + (x20 * x8)) + x23) := Num.of (Sm.add (Sm.add (Sm.add (Sm.mul h18.sm h6.sm) (Sm.mul h19.sm h7.sm)) (Sm.mul h20.sm h8.sm)) h23.sm)
  refine call_step (n_penumbraref05_Sub_0w (k0 := (((((x12 * x6) + (x13 * x7)) + (x14 * x8)) + x21) - x0)) (k1 := (((((x15 * x6) + (x16 * x7)) + (x17 * x8)) + x22) - x1)) (k2 := (((((x18 * x6) + (x19 * x7)) + (x20 * x8)) + x23) - x2)) m213 m214 m215 h0 h1 h2 (by decide) rfl rfl rfl) rfl ?_
  simp only [HH, gW, gD]
  exact ret_step rfl

theorem n_penumbraref07_Area_0w  {r0 r1 r2 r3 r4 r5 r6 r7 r8 r9 r10 r11 r12 r13 r14 : RR} {x0 x1 x2 x3 x4 x5 x6 x7 x8 x9 x10 x11 x12 x13 x14 : Rat} {k0 k1 k2 : Rat} {L0 L1 L2 L3 L4 L5 L6 L7 L8 L9 L10 L11 L12 L13 L14 : Nat} (h0 : Num L0 r0 x0) (h1 : Num L1 r1 x1) (h2 : Num L2 r2 x2) (h3 : Num L3 r3 x3) (h4 : Num L4 r4 x4) (h5 : Num L5 r5 x5) (h6 : Num L6 r6 x6) (h7 : Num L7 r7 x7) (h8 : Num L8 r8 x8) (h9 : Num L9 r9 x9) (h10 : Num L10 r10 x10) (h11 : Num L11 r11 x11) (h12 : Num L12 r12 x12) (h13 : Num L13 r13 x13) (h14 : Num L14 r14 x14) (hl : L0 ≤ 900000000 ∧ L1 ≤ 900000000 ∧ L2 ≤ 900000000 ∧ L3 ≤ 900000000 ∧ L4 ≤ 900000000 ∧ L5 ≤ 900000000 ∧ L6 ≤ 900000000 ∧ L7 ≤ 900000000 ∧ L8 ≤ 900000000 ∧ L9 ≤ 900000000 ∧ L10 ≤ 900000000 ∧ L11 ≤ 900000000 ∧ L12 ≤ 900000000 ∧ L13 ≤ 900000000 ∧ L14 ≤ 900000000) (e0 : k0 = (((((x4 * x8) - (x5 * x7)) * x12) + (((x5 * x6) - (x3 * x8)) * x13)) + (((x3 * x7) - (x4 * x6)) * x14))) (e1 : k1 = (((((x7 * x2) - (x8 * x1)) * x12) + (((x8 * x0) - (x6 * x2)) * x13)) + (((x6 * x1) - (x7 * x0)) * x14))) (e2 : k2 = (((((x1 * x5) - (x2 * x4)) * x12) + (((x2 * x3) - (x0 * x5)) * x13)) + (((x0 * x4) - (x1 * x3)) * x14)))  : PureCalls prog F.penumbraref07_Area [.agg (gW [r0, r1, r2, r3, r4, r5, r6, r7, r8, r9, r10, r11]), .agg (gW [r12, r13, r14])] [.agg (gD [k0, k1, k2])] := by
  replace h0 := h0.mono hl.1
  replace h1 := h1.mono hl.2.1
  replace h2 := h2.mono hl.2.2.1
  replace h3 := h3.mono hl.2.2.2.1
  replace h4 := h4.mono hl.2.2.2.2.1
  replace h5 := h5.mono hl.2.2.2.2.2.1
  replace h6 := h6.mono hl.2.2.2.2.2.2.1
  replace h7 := h7.mono hl.2.2.2.2.2.2.2.1
  replace h8 := h8.mono hl.2.2.2.2.2.2.2.2.1
  replace h9 := h9.mono hl.2.2.2.2.2.2.2.2.2.1
  replace h10 := h10.mono hl.2.2.2.2.2.2.2.2.2.2.1
  replace h11 := h11.mono hl.2.2.2.2.2.2.2.2.2.2.2.1
  replace h12 := h12.mono hl.2.2.2.2.2.2.2.2.2.2.2.2.1
  replace h13 := h13.mono hl.2.2.2.2.2.2.2.2.2.2.2.2.2.1
  replace h14 := h14.mono hl.2.2.2.2.2.2.2.2.2.2.2.2.2.2
  subst e0 e1 e2
  refine symFunc_sound hmix tree_penumbraref07_Area (by kernel_rfl) rfl ?_
  unfold ir_penumbraref07_Area
  simp only [HH, gW, gD]
  refine call_step (n_penumbraref05_Cross_0w (k0 := ((x4 * x8) - (x5 * x7))) (k1 := ((x5 * x6) - (x3 * x8))) (k2 := ((x3 * x7) - (x4 * x6))) h3 h4 h5 h6 h7 h8 (by decide) rfl rfl rfl) rfl ?_
  simp only [HH, gW, gD]
  have m225 : Num 3600000001 (cr ((x4 * x8) - (x5 * x7))) ((x4 * x8) - (x5 * x7)) := Num.of (Sm.sub (Sm.mul h4.sm h8.sm) (Sm.mul h5.sm h7.sm))
  have m226 : Num 3600000001 (cr ((x5 * x6) - (x3 * x8))) ((x5 * x6) - (x3 * x8)) := Num.of (Sm.sub (Sm.mul h5.sm h6.sm) (Sm.mul h3.sm h8.sm))
  have m227 : Num 3600000001 (cr ((x3 * x7) - (x4 * x6))) ((x3 * x7) - (x4 * x6)) := Num.of (Sm.sub (Sm.mul h3.sm h7.sm) (Sm.mul h4.sm h6.sm))
  refine call_step (n_penumbraref05_Dot_0w (k0 := (((((x4 * x8) - (x5 * x7)) * x12) + (((x5 * x6) - (x3 * x8)) * x13)) + (((x3 * x7) - (x4 * x6)) * x14))) m225 m226 m227 h12 h13 h14 (by decide) rfl) rfl ?_
  simp only [HH, gW, gD]
  refine call_step (n_penumbraref05_Cross_0w (k0 := ((x7 * x2) - (x8 * x1))) (k1 := ((x8 * x0) - (x6 * x2))) (k2 := ((x6 * x1) - (x7 * x0))) h6 h7 h8 h0 h1 h2 (by decide) rfl rfl rfl) rfl ?_
  simp only [HH, gW, gD]
  have m228 : Num 3600000001 (cr ((x7 * x2) - (x8 * x1))) ((x7 * x2) - (x8 * x1)) := Num.of (Sm.sub (Sm.mul h7.sm h2.sm) (Sm.mul h8.sm h1.sm))
  have m229 : Num 3600000001 (cr ((x8 * x0) - (x6 * x2))) ((x8 * x0) - (x6 * x2)) := Num.of (Sm.sub (Sm.mul h8.sm h0.sm) (Sm.mul h6.sm h2.sm))
  have m230 : Num 3600000001 (cr ((x6 * x1) - (x7 * x0))) ((x6 * x1) - (x7 * x0)) := Num.of (Sm.sub (Sm.mul h6.sm h1.sm) (Sm.mul h7.sm h0.sm))
  refine call_step (n_penumbraref05_Dot_0w (k0 := (((((x7 * x2) - (x8 * x1)) * x12) + (((x8 * x0) - (x6 * x2)) * x13)) + (((x6 * x1) - (x7 * x0)) * x14))) m228 m229 m230 h12 h13 h14 (by decide) rfl) rfl ?_
  simp only [HH, gW, gD]
  refine call_step (n_penumbraref05_Cross_0w (k0 := ((x1 * x5) - (x2 * x4))) (k1 := ((x2 * x3) - (x0 * x5))) (k2 := ((x0 * x4) - (x1 * x3))) h0 h1 h2 h3 h4 h5 (by decide) rfl rfl rfl) rfl ?_
  simp only [HH, gW, gD]
  have m231 : Num 3600000001 (cr ((x1 * x5) - (x2 * x4))) ((x1 * x5) - (x2 * x4)) := Num.of (Sm.sub (Sm.mul h1.sm h5.sm) (Sm.mul h2.sm h4.sm))
  have m232 : Num 3600000001 (cr ((x2 * x3) - (x0 * x5))) ((x2 * x3) - (x0 * x5)) := Num.of (Sm.sub (Sm.mul h2.sm h3.sm) (Sm.mul h0.sm h5.sm))
  have m233 : Num 3600000001 (cr ((x0 * x4) - (x1 * x3))) ((x0 * x4) - (x1 * x3)) := Num.of (Sm.sub (Sm.mul h0.sm h4.sm) (Sm.mul h1.sm h3.sm))
  refine call_step (n_penumbraref05_Dot_0w (k0 := (((((x1 * x5) - (x2 * x4)) * x12) + (((x2 * x3) - (x0 * x5)) * x13)) + (((x0 * x4) - (x1 * x3)) * x14))) m231 m232 m233 h12 h13 h14 (by decide) rfl) rfl ?_
  simp only [HH, gW, gD]
  exact ret_step rfl

theorem n_penumbraref16_Wide_0w  {r0 r1 r2 r3 r4 r5 r6 r7 r8 r9 r10 r11 r12 r13 r14 r15 r16 r17 r18 r19 r20 r21 r22 r23 : RR} {x0 x1 x2 x3 x4 x5 x6 x7 x8 x9 x10 x11 x12 x13 x14 x15 x16 x17 x18 x19 x20 x21 x22 x23 : Rat} {k0 : Rat} {L0 L1 L2 L3 L4 L5 L6 L7 L8 L9 L10 L11 L12 L13 L14 L15 L16 L17 L18 L19 L20 L21 L22 L23 : Nat} (h0 : Num L0 r0 x0) (h1 : Num L1 r1 x1) (h2 : Num L2 r2 x2) (h3 : Num L3 r3 x3) (h4 : Num L4 r4 x4) (h5 : Num L5 r5 x5) (h6 : Num L6 r6 x6) (h7 : Num L7 r7 x7) (h8 : Num L8 r8 x8) (h9 : Num L9 r9 x9) (h10 : Num L10 r10 x10) (h11 : Num L11 r11 x11) (h12 : Num L12 r12 x12) (h13 : Num L13 r13 x13) (h14 : Num L14 r14 x14) (h15 : Num L15 r15 x15) (h16 : Num L16 r16 x16) (h17 : Num L17 r17 x17) (h18 : Num L18 r18 x18) (h19 : Num L19 r19 x19) (h20 : Num L20 r20 x20) (h21 : Num L21 r21 x21) (h22 : Num L22 r22 x22) (h23 : Num L23 r23 x23) (hl : L0 ≤ 90000000 ∧ L1 ≤ 90000000 ∧ L2 ≤ 90000000 ∧ L3 ≤ 90000000 ∧ L4 ≤ 90000000 ∧ L5 ≤ 90000000 ∧ L6 ≤ 90000000 ∧ L7 ≤ 90000000 ∧ L8 ≤ 90000000 ∧ L9 ≤ 90000000 ∧ L10 ≤ 90000000 ∧ L11 ≤ 90000000 ∧ L12 ≤ 90000000 ∧ L13 ≤ 90000000 ∧ L14 ≤ 90000000 ∧ L15 ≤ 90000000 ∧ L16 ≤ 90000000 ∧ L17 ≤ 90000000 ∧ L18 ≤ 90000000 ∧ L19 ≤ 90000000 ∧ L20 ≤ 90000000 ∧ L21 ≤ 90000000 ∧ L22 ≤ 90000000 ∧ L23 ≤ 90000000) (e0 : k0 = ((((((((x16 * x20) - (x17 * x19)) * x9) + (((x17 * x18) - (x15 * x20)) * x10)) + (((x15 * x19) - (x16 * x18)) * x11)) * (((((x12 * x6) + (x13 * x7)) + (x14 * x8)) + x21) - x0)) + ((((((x19 * x14) - (x20 * x13)) * x9) + (((x20 * x12) - (x18 * x14)) * x10)) + (((x18 * x13) - (x19 * x12)) * x11)) * (((((x15 * x6) + (x16 * x7)) + (x17 * x8)) + x22) - x1))) + ((((((x13 * x17) - (x14 * x16)) * x9) + (((x14 * x15) - (x12 * x17)) * x10)) + (((x12 * x16) - (x13 * x15)) * x11)) * (((((x18 * x6) + (x19 * x7)) + (x20 * x8)) + x23) - x2))))  : PureCalls prog F.penumbraref16_Wide [.agg (gW [r0, r1, r2, r3, r4, r5]), .agg (gW [r6, r7, r8, r9, r10, r11]), .agg (gW [r12, r13, r14, r15, r16, r17, r18, r19, r20, r21, r22, r23])] [.agg (gD [k0])] := by
  replace h0 := h0.mono hl.1
  replace h1 := h1.mono hl.2.1
  replace h2 := h2.mono hl.2.2.1
  replace h3 := h3.mono hl.2.2.2.1
  replace h4 := h4.mono hl.2.2.2.2.1
  replace h5 := h5.mono hl.2.2.2.2.2.1
  replace h6 := h6.mono hl.2.2.2.2.2.2.1
  replace h7 := h7.mono hl.2.2.2.2.2.2.2.1
  replace h8 := h8.mono hl.2.2.2.2.2.2.2.2.1
  replace h9 := h9.mono hl.2.2.2.2.2.2.2.2.2.1
  replace h10 := h10.mono hl.2.2.2.2.2.2.2.2.2.2.1
  replace h11 := h11.mono hl.2.2.2.2.2.2.2.2.2.2.2.1
  replace h12 := h12.mono hl.2.2.2.2.2.2.2.2.2.2.2.2.1
  replace h13 := h13.mono hl.2.2.2.2.2.2.2.2.2.2.2.2.2.1
  replace h14 := h14.mono hl.2.2.2.2.2.2.2.2.2.2.2.2.2.2.1
  replace h15 := h15.mono hl.2.2.2.2.2.2.2.2.2.2.2.2.2.2.2.1
  replace h16 := h16.mono hl.2.2.2.2.2.2.2.2.2.2.2.2.2.2.2.2.1
  replace h17 := h17.mono hl.2.2.2.2.2.2.2.2.2.2.2.2.2.2.2.2.2.1
  replace h18 := h18.mono hl.2.2.2.2.2.2.2.2.2.2.2.2.2.2.2.2.2.2.1
  replace h19 := h19.mono hl.2.2.2.2.2.2.2.2.2.2.2.2.2.2.2.2.2.2.2.1
  replace h20 := h20.mono hl.2.2.2.2.2.2.2.2.2.2.2.2.2.2.2.2.2.2.2.2.1
  replace h21 := h21.mono hl.2.2.2.2.2.2.2.2.2.2.2.2.2.2.2.2.2.2.2.2.2.1
  replace h22 := h22.mono hl.2.2.2.2.2.2.2.2.2.2.2.2.2.2.2.2.2.2.2.2.2.2.1
  replace h23 := h23.mono hl.2.2.2.2.2.2.2.2.2.2.2.2.2.2.2.2.2.2.2.2.2.2.2
  subst e0
  refine symFunc_sound hmix tree_penumbraref16_Wide (by kernel_rfl) rfl ?_
  unfold ir_penumbraref16_Wide
  simp only [HH, gW, gD]
  refine call_step (n_penumbraref07_Area_0w (k0 := (((((x16 * x20) - (x17 * x19)) * x9) + (((x17 * x18) - (x15 * x20)) * x10)) + (((x15 * x19) - (x16 * x18)) * x11))) (k1 := (((((x19 * x14) - (x20 * x13)) * x9) + (((x20 * x12) - (x18 * x14)) * x10)) + (((x18 * x13) - (x19 * x12)) * x11))) (k2 := (((((x13 * x17) - (x14 * x16)) * x9) + (((x14 * x15) - (x12 * x17)) * x10)) + (((x12 * x16) - (x13 * x15)) * x11))) h12 h13 h14 h15 h16 h17 h18 h19 h20 h21 h22 h23 h9 h10 h11 (by decide) rfl rfl rfl) rfl ?_
  simp only [HH, gW, gD]
  refine call_step (n_penumbraref16_Way_0w (k0 := (((((x12 * x6) + (x13 * x7)) + (x14 * x8)) + x21) - x0)) (k1 := (((((x15 * x6) + (x16 * x7)) + (x17 * x8)) + x22) - x1)) (k2 := (((((x18 * x6) + (x19 * x7)) + (x20 * x8)) + x23) - x2)) h0 h1 h2 h3 h4 h5 h6 h7 h8 h9 h10 h11 h12 h13 h14 h15 h16 h17 h18 h19 h20 h21 h22 h23 (by decide) rfl rfl rfl) rfl ?_
  simp only [HH, gW, gD]
  have m240 : Num 1350000005 (cr (((((x16 * x20) - (x17 * x19)) * x9) + (((x17 * x18) - (x15 * x20)) * x10)) + (((x15 * x19) - (x16 * x18)) * x11))) (((((x16 * x20) - (x17 * x19)) * x9) + (((x17 * x18) - (x15 * x20)) * x10)) + (((x15 * x19) - (x16 * x18)) * x11)) := Num.of (Sm.add (Sm.add (Sm.mul (Sm.sub (Sm.mul h16.sm h20.sm) (Sm.mul h17.sm h19.sm)) h9.sm) (Sm.mul (Sm.sub (Sm.mul h17.sm h18.sm) (Sm.mul h15.sm h20.sm)) h10.sm)) (Sm.mul (Sm.sub (Sm.mul h15.sm h19.sm) (Sm.mul h16.sm h18.sm)) h11.sm))
  have m241 : Num 1350000005 (cr (((((x19 * x14) - (x20 * x13)) * x9) + (((x20 * x12) - (x18 * x14)) * x10)) + (((x18 * x13) - (x19 * x12)) * x11))) (((((x19 * x14) - (x20 * x13)) * x9) + (((x20 * x12) - (x18 * x14)) * x10)) + (((x18 * x13) - (x19 * x12)) * x11)) := Num.of (Sm.add (Sm.add (Sm.mul (Sm.sub (Sm.mul h19.sm h14.sm) (Sm.mul h20.sm h13.sm)) h9.sm) (Sm.mul (Sm.sub (Sm.mul h20.sm h12.sm) (Sm.mul h18.sm h14.sm)) h10.sm)) (Sm.mul (Sm.sub (Sm.mul h18.sm h13.sm) (Sm.mul h19.sm h12.sm)) h11.sm))
  have m242 : Num 1350000005 (cr (((((x13 * x17) - (x14 * x16)) * x9) + (((x14 * x15) - (x12 * x17)) * x10)) + (((x12 * x16) - (x13 * x15)) * x11))) (((((x13 * x17) - (x14 * x16)) * x9) + (((x14 * x15) - (x12 * x17)) * x10)) + (((x12 * x16) - (x13 * x15)) * x11)) := Num.of (Sm.add (Sm.add (Sm.mul (Sm.sub (Sm.mul h13.sm h17.sm) (Sm.mul h14.sm h16.sm)) h9.sm) (Sm.mul (Sm.sub (Sm.mul h14.sm h15.sm) (Sm.mul h12.sm h17.sm)) h10.sm)) (Sm.mul (Sm.sub (Sm.mul h12.sm h16.sm) (Sm.mul h13.sm h15.sm)) h11.sm))
  have m243 : Num 720000004 (cr (((((x12 * x6) + (x13 * x7)) + (x14 * x8)) + x21) - x0)) (((((x12 * x6) + (x13 * x7)) + (x14 * x8)) + x21) - x0) := Num.of (Sm.sub (Sm.add (Sm.add (Sm.add (Sm.mul h12.sm h6.sm) (Sm.mul h13.sm h7.sm)) (Sm.mul h14.sm h8.sm)) h21.sm) h0.sm)
  have m244 : Num 720000004 (cr (((((x15 * x6) + (x16 * x7)) + (x17 * x8)) + x22) - x1)) (((((x15 * x6) + (x16 * x7)) + (x17 * x8)) + x22) - x1) := Num.of (Sm.sub (Sm.add (Sm.add (Sm.add (Sm.mul h15.sm h6.sm) (Sm.mul h16.sm h7.sm)) (Sm.mul h17.sm h8.sm)) h22.sm) h1.sm)
  have m245 : Num 720000004 (cr (((((x18 * x6) + (x19 * x7)) + (x20 * x8)) + x23) - x2)) (((((x18 * x6) + (x19 * x7)) + (x20 * x8)) + x23) - x2) := Num.of (Sm.sub (Sm.add (Sm.add (Sm.add (Sm.mul h18.sm h6.sm) (Sm.mul h19.sm h7.sm)) (Sm.mul h20.sm h8.sm)) h23.sm) h2.sm)
  refine call_step (n_penumbraref05_Dot_0w (k0 := ((((((((x16 * x20) - (x17 * x19)) * x9) + (((x17 * x18) - (x15 * x20)) * x10)) + (((x15 * x19) - (x16 * x18)) * x11)) * (((((x12 * x6) + (x13 * x7)) + (x14 * x8)) + x21) - x0)) + ((((((x19 * x14) - (x20 * x13)) * x9) + (((x20 * x12) - (x18 * x14)) * x10)) + (((x18 * x13) - (x19 * x12)) * x11)) * (((((x15 * x6) + (x16 * x7)) + (x17 * x8)) + x22) - x1))) + ((((((x13 * x17) - (x14 * x16)) * x9) + (((x14 * x15) - (x12 * x17)) * x10)) + (((x12 * x16) - (x13 * x15)) * x11)) * (((((x18 * x6) + (x19 * x7)) + (x20 * x8)) + x23) - x2)))) m240 m241 m242 m243 m244 m245 (by decide) rfl) rfl ?_
  simp only [HH, gW, gD]
  exact ret_step rfl

theorem n_penumbraref16_unit_0 {Z1 : Rat} (Y1 : Z1 = (1 : Rat)) {r0 r1 r2 : RR} {x0 x1 x2 : Rat} {k0 : Rat} (h0 : Num 900000000 r0 x0) (h1 : Num 900000000 r1 x1) (h2 : Num 900000000 r2 x2) (e0 : k0 = (((x0 * x0) + (x1 * x1)) + (x2 * x2))) (c0 : k0 = Z1) : PureCalls prog F.penumbraref16_unit [.agg (gW [r0, r1, r2])] [.one (.bool true)] := by
  subst e0
  refine symFunc_sound hmix tree_penumbraref16_unit (by kernel_rfl) rfl ?_
  unfold ir_penumbraref16_unit
  simp only [HH, gW, gD]
  refine call_step (n_penumbraref05_Dot_0w (k0 := (((x0 * x0) + (x1 * x1)) + (x2 * x2))) h0 h1 h2 h0 h1 h2 (by decide) rfl) rfl ?_
  simp only [HH, gW, gD]
  refine call_step (n_penumbraref03_One Y1) rfl ?_
  simp only [HH, gW, gD]
  have m250 : Num 5400000002 (cr (((x0 * x0) + (x1 * x1)) + (x2 * x2))) (((x0 * x0) + (x1 * x1)) + (x2 * x2)) := Num.of (Sm.add (Sm.add (Sm.mul h0.sm h0.sm) (Sm.mul h1.sm h1.sm)) (Sm.mul h2.sm h2.sm))
  have m251 : Num 1 (cr Z1) Z1 := Num.c Y1 (by decide +kernel) (by decide +kernel)
  refine call_step (n_penumbraref03_Is_t (m250.mono (by decide)) (m251.mono (by decide)) c0) rfl ?_
  simp only [HH, gW, gD]
  exact ret_step rfl

theorem n_penumbraref16_unit_1 {Z1 : Rat} (Y1 : Z1 = (1 : Rat)) {r0 r1 r2 : RR} {x0 x1 x2 : Rat} {k0 : Rat} (h0 : Num 900000000 r0 x0) (h1 : Num 900000000 r1 x1) (h2 : Num 900000000 r2 x2) (e0 : k0 = (((x0 * x0) + (x1 * x1)) + (x2 * x2))) (c0 : ¬k0 = Z1) : PureCalls prog F.penumbraref16_unit [.agg (gW [r0, r1, r2])] [.one (.bool false)] := by
  subst e0
  refine symFunc_sound hmix tree_penumbraref16_unit (by kernel_rfl) rfl ?_
  unfold ir_penumbraref16_unit
  simp only [HH, gW, gD]
  refine call_step (n_penumbraref05_Dot_0w (k0 := (((x0 * x0) + (x1 * x1)) + (x2 * x2))) h0 h1 h2 h0 h1 h2 (by decide) rfl) rfl ?_
  simp only [HH, gW, gD]
  refine call_step (n_penumbraref03_One Y1) rfl ?_
  simp only [HH, gW, gD]
  have m252 : Num 5400000002 (cr (((x0 * x0) + (x1 * x1)) + (x2 * x2))) (((x0 * x0) + (x1 * x1)) + (x2 * x2)) := Num.of (Sm.add (Sm.add (Sm.mul h0.sm h0.sm) (Sm.mul h1.sm h1.sm)) (Sm.mul h2.sm h2.sm))
  have m253 : Num 1 (cr Z1) Z1 := Num.c Y1 (by decide +kernel) (by decide +kernel)
  refine call_step (n_penumbraref03_Is_f (m252.mono (by decide)) (m253.mono (by decide)) c0) rfl ?_
  simp only [HH, gW, gD]
  exact ret_step rfl

theorem n_penumbraref05_Zero_0 {Z0 : Rat} (Y0 : Z0 = (0 : Rat))    : PureCalls prog F.penumbraref05_Zero [] [.agg (gD [Z0, Z0, Z0])] := by
  refine symFunc_sound hmix tree_penumbraref05_Zero (by kernel_rfl) rfl ?_
  unfold ir_penumbraref05_Zero
  simp only [HH, gW, gD]
  refine call_step (n_penumbraref03_Zero Y0) rfl ?_
  simp only [HH, gW, gD]
  refine call_step (n_penumbraref03_Zero Y0) rfl ?_
  simp only [HH, gW, gD]
  refine call_step (n_penumbraref03_Zero Y0) rfl ?_
  simp only [HH, gW, gD]
  exact ret_step rfl

theorem n_penumbraref05_Read_0  {r0 r1 r2 : RR} {x0 x1 x2 : Rat} (h0 : Num 9000000000 r0 x0) (h1 : Num 9000000000 r1 x1) (h2 : Num 9000000000 r2 x2)   : PureCalls prog F.penumbraref05_Read [.agg (gW [r0, r1, r2])] [.agg (gD [x0, x1, x2])] := by
  refine symFunc_sound hmix tree_penumbraref05_Read (by kernel_rfl) rfl ?_
  unfold ir_penumbraref05_Read
  simp only [HH, gW, gD]
  refine call_step (n_penumbraref03_Read (h0.mono (by decide))) rfl ?_
  simp only [HH, gW, gD]
  refine call_step (n_penumbraref03_Read (h1.mono (by decide))) rfl ?_
  simp only [HH, gW, gD]
  refine call_step (n_penumbraref03_Read (h2.mono (by decide))) rfl ?_
  simp only [HH, gW, gD]
  exact ret_step rfl

theorem n_penumbraref05_Is_0  {x0 x1 x2 x3 x4 x5 : Rat} (h0 : Num 9000000000 (cr x0) x0) (h1 : Num 9000000000 (cr x1) x1) (h2 : Num 9000000000 (cr x2) x2) (h3 : Num 9000000000 (cr x3) x3) (h4 : Num 9000000000 (cr x4) x4) (h5 : Num 9000000000 (cr x5) x5)  (c0 : x0 = x3) (c1 : x1 = x4) (c2 : x2 = x5) : PureCalls prog F.penumbraref05_Is [.agg (gD [x0, x1, x2]), .agg (gD [x3, x4, x5])] [.one (.bool true)] := by
  refine symFunc_sound hmix tree_penumbraref05_Is (by kernel_rfl) rfl ?_
  unfold ir_penumbraref05_Is
  simp only [HH, gW, gD]
  refine call_step (n_penumbraref03_Is_t (h0.mono (by decide)) (h3.mono (by decide)) c0) rfl ?_
  simp only [HH, gW, gD]
  refine itT rfl ?_
  refine call_step (n_penumbraref03_Is_t (h1.mono (by decide)) (h4.mono (by decide)) c1) rfl ?_
  simp only [HH, gW, gD]
  refine itT rfl ?_
  refine call_step (n_penumbraref03_Is_t (h2.mono (by decide)) (h5.mono (by decide)) c2) rfl ?_
  simp only [HH, gW, gD]
  exact ret_step rfl

theorem n_penumbraref05_Is_1  {x0 x1 x2 x3 x4 x5 : Rat} (h0 : Num 9000000000 (cr x0) x0) (h1 : Num 9000000000 (cr x1) x1) (h2 : Num 9000000000 (cr x2) x2) (h3 : Num 9000000000 (cr x3) x3) (h4 : Num 9000000000 (cr x4) x4) (h5 : Num 9000000000 (cr x5) x5)  (c0 : x0 = x3) (c1 : x1 = x4) (c2 : ¬x2 = x5) : PureCalls prog F.penumbraref05_Is [.agg (gD [x0, x1, x2]), .agg (gD [x3, x4, x5])] [.one (.bool false)] := by
  refine symFunc_sound hmix tree_penumbraref05_Is (by kernel_rfl) rfl ?_
  unfold ir_penumbraref05_Is
  simp only [HH, gW, gD]
  refine call_step (n_penumbraref03_Is_t (h0.mono (by decide)) (h3.mono (by decide)) c0) rfl ?_
  simp only [HH, gW, gD]
  refine itT rfl ?_
  refine call_step (n_penumbraref03_Is_t (h1.mono (by decide)) (h4.mono (by decide)) c1) rfl ?_
  simp only [HH, gW, gD]
  refine itT rfl ?_
  refine call_step (n_penumbraref03_Is_f (h2.mono (by decide)) (h5.mono (by decide)) c2) rfl ?_
  simp only [HH, gW, gD]
  exact ret_step rfl

theorem n_penumbraref05_Is_2  {x0 x1 x2 x3 x4 x5 : Rat} (h0 : Num 9000000000 (cr x0) x0) (h1 : Num 9000000000 (cr x1) x1) (h2 : Num 9000000000 (cr x2) x2) (h3 : Num 9000000000 (cr x3) x3) (h4 : Num 9000000000 (cr x4) x4) (h5 : Num 9000000000 (cr x5) x5)  (c0 : x0 = x3) (c1 : ¬x1 = x4) : PureCalls prog F.penumbraref05_Is [.agg (gD [x0, x1, x2]), .agg (gD [x3, x4, x5])] [.one (.bool false)] := by
  refine symFunc_sound hmix tree_penumbraref05_Is (by kernel_rfl) rfl ?_
  unfold ir_penumbraref05_Is
  simp only [HH, gW, gD]
  refine call_step (n_penumbraref03_Is_t (h0.mono (by decide)) (h3.mono (by decide)) c0) rfl ?_
  simp only [HH, gW, gD]
  refine itT rfl ?_
  refine call_step (n_penumbraref03_Is_f (h1.mono (by decide)) (h4.mono (by decide)) c1) rfl ?_
  simp only [HH, gW, gD]
  refine itF rfl ?_
  exact ret_step rfl

theorem n_penumbraref05_Is_3  {x0 x1 x2 x3 x4 x5 : Rat} (h0 : Num 9000000000 (cr x0) x0) (h1 : Num 9000000000 (cr x1) x1) (h2 : Num 9000000000 (cr x2) x2) (h3 : Num 9000000000 (cr x3) x3) (h4 : Num 9000000000 (cr x4) x4) (h5 : Num 9000000000 (cr x5) x5)  (c0 : ¬x0 = x3) : PureCalls prog F.penumbraref05_Is [.agg (gD [x0, x1, x2]), .agg (gD [x3, x4, x5])] [.one (.bool false)] := by
  refine symFunc_sound hmix tree_penumbraref05_Is (by kernel_rfl) rfl ?_
  unfold ir_penumbraref05_Is
  simp only [HH, gW, gD]
  refine call_step (n_penumbraref03_Is_f (h0.mono (by decide)) (h3.mono (by decide)) c0) rfl ?_
  simp only [HH, gW, gD]
  refine itF rfl ?_
  exact ret_step rfl

theorem n_penumbraref05_Null_0 {Z0 : Rat} (Y0 : Z0 = (0 : Rat)) {r0 r1 r2 : RR} {x0 x1 x2 : Rat} (h0 : Num 9000000000 r0 x0) (h1 : Num 9000000000 r1 x1) (h2 : Num 9000000000 r2 x2)  (c0 : x0 = Z0) (c1 : x1 = Z0) (c2 : x2 = Z0) : PureCalls prog F.penumbraref05_Null [.agg (gW [r0, r1, r2])] [.one (.bool true)] := by
  refine symFunc_sound hmix tree_penumbraref05_Null (by kernel_rfl) rfl ?_
  unfold ir_penumbraref05_Null
  simp only [HH, gW, gD]
  refine call_step (n_penumbraref05_Read_0 (h0.mono (by decide)) (h1.mono (by decide)) (h2.mono (by decide))) rfl ?_
  simp only [HH, gW, gD]
  refine call_step (n_penumbraref05_Zero_0 Y0) rfl ?_
  simp only [HH, gW, gD]
  have m270 : Num 9000000000 (cr x0) x0 := Num.of h0.sm
  have m271 : Num 9000000000 (cr x1) x1 := Num.of h1.sm
  have m272 : Num 9000000000 (cr x2) x2 := Num.of h2.sm
  have m273 : Num 1 (cr Z0) Z0 := Num.c Y0 (by decide +kernel) (by decide +kernel)
  refine call_step (n_penumbraref05_Is_0 (m270.mono (by decide)) (m271.mono (by decide)) (m272.mono (by decide)) (m273.mono (by decide)) (m273.mono (by decide)) (m273.mono (by decide)) c0 c1 c2) rfl ?_
  simp only [HH, gW, gD]
  exact ret_step rfl

theorem n_penumbraref05_Null_1 {Z0 : Rat} (Y0 : Z0 = (0 : Rat)) {r0 r1 r2 : RR} {x0 x1 x2 : Rat} (h0 : Num 9000000000 r0 x0) (h1 : Num 9000000000 r1 x1) (h2 : Num 9000000000 r2 x2)  (c0 : x0 = Z0) (c1 : x1 = Z0) (c2 : ¬x2 = Z0) : PureCalls prog F.penumbraref05_Null [.agg (gW [r0, r1, r2])] [.one (.bool false)] := by
  refine symFunc_sound hmix tree_penumbraref05_Null (by kernel_rfl) rfl ?_
  unfold ir_penumbraref05_Null
  simp only [HH, gW, gD]
  refine call_step (n_penumbraref05_Read_0 (h0.mono (by decide)) (h1.mono (by decide)) (h2.mono (by decide))) rfl ?_
  simp only [HH, gW, gD]
  refine call_step (n_penumbraref05_Zero_0 Y0) rfl ?_
  simp only [HH, gW, gD]
  have m274 : Num 9000000000 (cr x0) x0 := Num.of h0.sm
  have m275 : Num 9000000000 (cr x1) x1 := Num.of h1.sm
  have m276 : Num 9000000000 (cr x2) x2 := Num.of h2.sm
  have m277 : Num 1 (cr Z0) Z0 := Num.c Y0 (by decide +kernel) (by decide +kernel)
  refine call_step (n_penumbraref05_Is_1 (m274.mono (by decide)) (m275.mono (by decide)) (m276.mono (by decide)) (m277.mono (by decide)) (m277.mono (by decide)) (m277.mono (by decide)) c0 c1 c2) rfl ?_
  simp only [HH, gW, gD]
  exact ret_step rfl

theorem n_penumbraref05_Null_2 {Z0 : Rat} (Y0 : Z0 = (0 : Rat)) {r0 r1 r2 : RR} {x0 x1 x2 : Rat} (h0 : Num 9000000000 r0 x0) (h1 : Num 9000000000 r1 x1) (h2 : Num 9000000000 r2 x2)  (c0 : x0 = Z0) (c1 : ¬x1 = Z0) : PureCalls prog F.penumbraref05_Null [.agg (gW [r0, r1, r2])] [.one (.bool false)] := by
  refine symFunc_sound hmix tree_penumbraref05_Null (by kernel_rfl) rfl ?_
  unfold ir_penumbraref05_Null
  simp only [HH, gW, gD]
  refine call_step (n_penumbraref05_Read_0 (h0.mono (by decide)) (h1.mono (by decide)) (h2.mono (by decide))) rfl ?_
  simp only [HH, gW, gD]
  refine call_step (n_penumbraref05_Zero_0 Y0) rfl ?_
  simp only [HH, gW, gD]
  have m278 : Num 9000000000 (cr x0) x0 := Num.of h0.sm
  have m279 : Num 9000000000 (cr x1) x1 := Num.of h1.sm
  have m280 : Num 9000000000 (cr x2) x2 := Num.of h2.sm
  have m281 : Num 1 (cr Z0) Z0 := Num.c Y0 (by decide +kernel) (by decide +kernel)
  refine call_step (n_penumbraref05_Is_2 (m278.mono (by decide)) (m279.mono (by decide)) (m280.mono (by decide)) (m281.mono (by decide)) (m281.mono (by decide)) (m281.mono (by decide)) c0 c1) rfl ?_
  simp only [HH, gW, gD]
  exact ret_step rfl

theorem n_penumbraref05_Null_3 {Z0 : Rat} (Y0 : Z0 = (0 : Rat)) {r0 r1 r2 : RR} {x0 x1 x2 : Rat} (h0 : Num 9000000000 r0 x0) (h1 : Num 9000000000 r1 x1) (h2 : Num 9000000000 r2 x2)  (c0 : ¬x0 = Z0) : PureCalls prog F.penumbraref05_Null [.agg (gW [r0, r1, r2])] [.one (.bool false)] := by
  refine symFunc_sound hmix tree_penumbraref05_Null (by kernel_rfl) rfl ?_
  unfold ir_penumbraref05_Null
  simp only [HH, gW, gD]
  refine call_step (n_penumbraref05_Read_0 (h0.mono (by decide)) (h1.mono (by decide)) (h2.mono (by decide))) rfl ?_
  simp only [HH, gW, gD]
  refine call_step (n_penumbraref05_Zero_0 Y0) rfl ?_
  simp only [HH, gW, gD]
  have m282 : Num 9000000000 (cr x0) x0 := Num.of h0.sm
  have m283 : Num 9000000000 (cr x1) x1 := Num.of h1.sm
  have m284 : Num 9000000000 (cr x2) x2 := Num.of h2.sm
  have m285 : Num 1 (cr Z0) Z0 := Num.c Y0 (by decide +kernel) (by decide +kernel)
  refine call_step (n_penumbraref05_Is_3 (m282.mono (by decide)) (m283.mono (by decide)) (m284.mono (by decide)) (m285.mono (by decide)) (m285.mono (by decide)) (m285.mono (by decide)) c0) rfl ?_
  simp only [HH, gW, gD]
  exact ret_step rfl

theorem n_penumbraref05_Scale_0  {r0 r1 r2 r3 : RR} {x0 x1 x2 x3 : Rat} {k0 k1 k2 : Rat} (h0 : Num 9000000000 r0 x0) (h1 : Num 9000000000 r1 x1) (h2 : Num 9000000000 r2 x2) (h3 : Num 9000000000 r3 x3) (e0 : k0 = (x0 * x1)) (e1 : k1 = (x0 * x2)) (e2 : k2 = (x0 * x3))  : PureCalls prog F.penumbraref05_Scale [.agg (gW [r0]), .agg (gW [r1, r2, r3])] [.agg (gD [k0, k1, k2])] := by
  subst e0 e1 e2
  refine symFunc_sound hmix tree_penumbraref05_Scale (by kernel_rfl) rfl ?_
  unfold ir_penumbraref05_Scale
  simp only [HH, gW, gD]
  refine call_step (n_penumbraref03_Mul (k0 := (x0 * x1)) (h0.mono (by decide)) (h1.mono (by decide)) rfl) rfl ?_
  simp only [HH, gW, gD]
  refine call_step (n_penumbraref03_Mul (k0 := (x0 * x2)) (h0.mono (by decide)) (h2.mono (by decide)) rfl) rfl ?_
  simp only [HH, gW, gD]
  refine call_step (n_penumbraref03_Mul (k0 := (x0 * x3)) (h0.mono (by decide)) (h3.mono (by decide)) rfl) rfl ?_
  simp only [HH, gW, gD]
  exact ret_step rfl

theorem n_penumbraref06_Of_0 {Z0 Z1 : Rat} (Y0 : Z0 = (0 : Rat)) (Y1 : Z1 = (1 : Rat)) {r0 r1 r2 : RR} {x0 x1 x2 : Rat} {k0 k1 k2 k3 : Rat} (h0 : Num 900000000 r0 x0) (h1 : Num 900000000 r1 x1) (h2 : Num 900000000 r2 x2) (e0 : k0 = (((x0 * x0) + (x1 * x1)) + (x2 * x2))) (e1 : k1 = (Z0 - x0)) (e2 : k2 = (Z0 - x1)) (e3 : k3 = (Z1 - x2)) (c0 : k0 = Z1) (c1 : k1 = Z0) (c2 : k2 = Z0) (c3 : k3 = Z0) : PureCalls prog F.penumbraref06_Of [.agg (gW [r0, r1, r2])] [.agg (gD [Z1, Z0, Z0, Z0, Z1, Z0, Z0, Z0, Z1]), .one (.bool true)] := by
  subst e0 e1 e2 e3
  refine symFunc_sound hmix tree_penumbraref06_Of (by kernel_rfl) rfl ?_
  unfold ir_penumbraref06_Of
  simp only [HH, gW, gD]
  refine call_step (n_penumbraref05_Dot_0w (k0 := (((x0 * x0) + (x1 * x1)) + (x2 * x2))) h0 h1 h2 h0 h1 h2 (by decide) rfl) rfl ?_
  simp only [HH, gW, gD]
  refine call_step (n_penumbraref03_One Y1) rfl ?_
  simp only [HH, gW, gD]
  have m348 : Num 5400000002 (cr (((x0 * x0) + (x1 * x1)) + (x2 * x2))) (((x0 * x0) + (x1 * x1)) + (x2 * x2)) := Num.of (Sm.add (Sm.add (Sm.mul h0.sm h0.sm) (Sm.mul h1.sm h1.sm)) (Sm.mul h2.sm h2.sm))
  have m349 : Num 1 (cr Z1) Z1 := Num.c Y1 (by decide +kernel) (by decide +kernel)
  refine call_step (n_penumbraref03_Is_t (m348.mono (by decide)) (m349.mono (by decide)) c0) rfl ?_
  simp only [HH, gW, gD]
  refine primS (.bool false) rfl ?_
  refine itF rfl ?_
  refine call_step (n_penumbraref05_Of (0) (0) (1) (by decide) (by decide) (by decide) (by decide) (by decide) (by decide) (Y0.trans (by decide +kernel)) (Y0.trans (by decide +kernel)) (Y1.trans (by decide +kernel))) rfl ?_
  simp only [HH, gW, gD]
  have m350 : Num 1 (cr Z0) Z0 := Num.c Y0 (by decide +kernel) (by decide +kernel)
  refine call_step (n_penumbraref05_Sub_0w (k0 := (Z0 - x0)) (k1 := (Z0 - x1)) (k2 := (Z1 - x2)) m350 m350 m349 h0 h1 h2 (by decide) rfl rfl rfl) rfl ?_
  simp only [HH, gW, gD]
  have m351 : Num 900000002 (cr (Z0 - x0)) (Z0 - x0) := Num.of (Sm.sub m350.sm h0.sm)
  have m352 : Num 900000002 (cr (Z0 - x1)) (Z0 - x1) := Num.of (Sm.sub m350.sm h1.sm)
  have m353 : Num 900000002 (cr (Z1 - x2)) (Z1 - x2) := Num.of (Sm.sub m349.sm h2.sm)
  refine call_step (n_penumbraref05_Null_0 Y0 (m351.mono (by decide)) (m352.mono (by decide)) (m353.mono (by decide)) c1 c2 c3) rfl ?_
  simp only [HH, gW, gD]
  refine itT rfl ?_
  refine call_step (n_penumbraref05_Of (1) (0) (0) (by decide) (by decide) (by decide) (by decide) (by decide) (by decide) (Y1.trans (by decide +kernel)) (Y0.trans (by decide +kernel)) (Y0.trans (by decide +kernel))) rfl ?_
  simp only [HH, gW, gD]
  refine call_step (n_penumbraref05_Of (0) (1) (0) (by decide) (by decide) (by decide) (by decide) (by decide) (by decide) (Y0.trans (by decide +kernel)) (Y1.trans (by decide +kernel)) (Y0.trans (by decide +kernel))) rfl ?_
  simp only [HH, gW, gD]
  refine call_step (n_penumbraref05_Of (0) (0) (1) (by decide) (by decide) (by decide) (by decide) (by decide) (by decide) (Y0.trans (by decide +kernel)) (Y0.trans (by decide +kernel)) (Y1.trans (by decide +kernel))) rfl ?_
  simp only [HH, gW, gD]
  exact ret_step rfl

theorem n_penumbraref06_Of_1 {Z0 Z1 Z2 : Rat} (Y0 : Z0 = (0 : Rat)) (Y1 : Z1 = (1 : Rat)) (Y2 : Z2 = (2 : Rat)) {r0 r1 r2 : RR} {x0 x1 x2 : Rat} {k0 k1 k2 k3 k4 k5 k6 k7 k8 k9 k10 k11 : Rat} (h0 : Num 900000000 r0 x0) (h1 : Num 900000000 r1 x1) (h2 : Num 900000000 r2 x2) (e0 : k0 = (((x0 * x0) + (x1 * x1)) + (x2 * x2))) (e1 : k1 = (Z0 - x0)) (e2 : k2 = (Z0 - x1)) (e3 : k3 = (Z1 - x2)) (e4 : k4 = ((Z2 * k1) / (((k1 * k1) + (k2 * k2)) + (k3 * k3)))) (e5 : k5 = (Z1 - (k4 * k1))) (e6 : k6 = (Z0 - (k4 * k2))) (e7 : k7 = (Z0 - (k4 * k3))) (e8 : k8 = ((Z2 * k2) / (((k1 * k1) + (k2 * k2)) + (k3 * k3)))) (e9 : k9 = (Z0 - (k8 * k1))) (e10 : k10 = (Z1 - (k8 * k2))) (e11 : k11 = (Z0 - (k8 * k3))) (c0 : k0 = Z1) (c1 : k1 = Z0) (c2 : k2 = Z0) (c3 : ¬k3 = Z0) : PureCalls prog F.penumbraref06_Of [.agg (gW [r0, r1, r2])] [.agg (gD [k5, k6, k7, k9, k10, k11, x0, x1, x2]), .one (.bool true)] := by
  subst e0 e1 e2 e3 e4 e5 e6 e7 e8 e9 e10 e11
  refine symFunc_sound hmix tree_penumbraref06_Of (by kernel_rfl) rfl ?_
  unfold ir_penumbraref06_Of
  simp only [HH, gW, gD]
  refine call_step (n_penumbraref05_Dot_0w (k0 := (((x0 * x0) + (x1 * x1)) + (x2 * x2))) h0 h1 h2 h0 h1 h2 (by decide) rfl) rfl ?_
  simp only [HH, gW, gD]
  refine call_step (n_penumbraref03_One Y1) rfl ?_
  simp only [HH, gW, gD]
  have m354 : Num 5400000002 (cr (((x0 * x0) + (x1 * x1)) + (x2 * x2))) (((x0 * x0) + (x1 * x1)) + (x2 * x2)) := Num.of (Sm.add (Sm.add (Sm.mul h0.sm h0.sm) (Sm.mul h1.sm h1.sm)) (Sm.mul h2.sm h2.sm))
  have m355 : Num 1 (cr Z1) Z1 := Num.c Y1 (by decide +kernel) (by decide +kernel)
  refine call_step (n_penumbraref03_Is_t (m354.mono (by decide)) (m355.mono (by decide)) c0) rfl ?_
  simp only [HH, gW, gD]
  refine primS (.bool false) rfl ?_
  refine itF rfl ?_
  refine call_step (n_penumbraref05_Of (0) (0) (1) (by decide) (by decide) (by decide) (by decide) (by decide) (by decide) (Y0.trans (by decide +kernel)) (Y0.trans (by decide +kernel)) (Y1.trans (by decide +kernel))) rfl ?_
  simp only [HH, gW, gD]
  have m356 : Num 1 (cr Z0) Z0 := Num.c Y0 (by decide +kernel) (by decide +kernel)
  refine call_step (n_penumbraref05_Sub_0w (k0 := (Z0 - x0)) (k1 := (Z0 - x1)) (k2 := (Z1 - x2)) m356 m356 m355 h0 h1 h2 (by decide) rfl rfl rfl) rfl ?_
  simp only [HH, gW, gD]
  have m357 : Num 900000002 (cr (Z0 - x0)) (Z0 - x0) := Num.of (Sm.sub m356.sm h0.sm)
  have m358 : Num 900000002 (cr (Z0 - x1)) (Z0 - x1) := Num.of (Sm.sub m356.sm h1.sm)
  have m359 : Num 900000002 (cr (Z1 - x2)) (Z1 - x2) := Num.of (Sm.sub m355.sm h2.sm)
  refine call_step (n_penumbraref05_Null_1 Y0 (m357.mono (by decide)) (m358.mono (by decide)) (m359.mono (by decide)) c1 c2 c3) rfl ?_
  simp only [HH, gW, gD]
  refine itF rfl ?_
  refine call_step (n_penumbraref05_Dot_0w (k0 := ((((Z0 - x0) * (Z0 - x0)) + ((Z0 - x1) * (Z0 - x1))) + ((Z1 - x2) * (Z1 - x2)))) m357 m358 m359 m357 m358 m359 (by decide) rfl) rfl ?_
  simp only [HH, gW, gD]
  refine call_step (n_penumbraref03_Of (2) (1) (by decide) (by decide) (by decide) (by decide) (Y2.trans (by decide +kernel))) rfl ?_
  simp only [HH, gW, gD]
  have m360 : Num 1 (cr Z2) Z2 := Num.c Y2 (by decide +kernel) (by decide +kernel)
  refine call_step (n_penumbraref03_Mul (k0 := (Z2 * (Z0 - x0))) (m360.mono (by decide)) (m357.mono (by decide)) rfl) rfl ?_
  simp only [HH, gW, gD]
  have m361 : Num 900000003 (cr (Z2 * (Z0 - x0))) (Z2 * (Z0 - x0)) := Num.of (Sm.mul m360.sm m357.sm)
  have m362 : Num 5400000014 (cr ((((Z0 - x0) * (Z0 - x0)) + ((Z0 - x1) * (Z0 - x1))) + ((Z1 - x2) * (Z1 - x2)))) ((((Z0 - x0) * (Z0 - x0)) + ((Z0 - x1) * (Z0 - x1))) + ((Z1 - x2) * (Z1 - x2))) := Num.of (Sm.add (Sm.add (Sm.mul m357.sm m357.sm) (Sm.mul m358.sm m358.sm)) (Sm.mul m359.sm m359.sm))
  refine call_step (n_penumbraref03_Over (k0 := ((Z2 * (Z0 - x0)) / ((((Z0 - x0) * (Z0 - x0)) + ((Z0 - x1) * (Z0 - x1))) + ((Z1 - x2) * (Z1 - x2))))) (m361.mono (by decide)) (m362.mono (by decide)) rfl) rfl ?_
  simp only [HH, gW, gD]
  refine call_step (n_penumbraref03_Of (2) (1) (by decide) (by decide) (by decide) (by decide) (Y2.trans (by decide +kernel))) rfl ?_
  simp only [HH, gW, gD]
  refine call_step (n_penumbraref03_Mul (k0 := (Z2 * (Z0 - x1))) (m360.mono (by decide)) (m358.mono (by decide)) rfl) rfl ?_
  simp only [HH, gW, gD]
  have m363 : Num 900000003 (cr (Z2 * (Z0 - x1))) (Z2 * (Z0 - x1)) := Num.of (Sm.mul m360.sm m358.sm)
  refine call_step (n_penumbraref03_Over (k0 := ((Z2 * (Z0 - x1)) / ((((Z0 - x0) * (Z0 - x0)) + ((Z0 - x1) * (Z0 - x1))) + ((Z1 - x2) * (Z1 - x2))))) (m363.mono (by decide)) (m362.mono (by decide)) rfl) rfl ?_
  simp only [HH, gW, gD]
  refine call_step (n_penumbraref05_Of (1) (0) (0) (by decide) (by decide) (by decide) (by decide) (by decide) (by decide) (Y1.trans (by decide +kernel)) (Y0.trans (by decide +kernel)) (Y0.trans (by decide +kernel))) rfl ?_
  simp only [HH, gW, gD]
  have m364 : Num 6300000017 (cr ((Z2 * (Z0 - x0)) / ((((Z0 - x0) * (Z0 - x0)) + ((Z0 - x1) * (Z0 - x1))) + ((Z1 - x2) * (Z1 - x2))))) ((Z2 * (Z0 - x0)) / ((((Z0 - x0) * (Z0 - x0)) + ((Z0 - x1) * (Z0 - x1))) + ((Z1 - x2) * (Z1 - x2)))) := Num.of (Sm.div m361.sm m362.sm)
  refine call_step (n_penumbraref05_Scale_0 (k0 := (((Z2 * (Z0 - x0)) / ((((Z0 - x0) * (Z0 - x0)) + ((Z0 - x1) * (Z0 - x1))) + ((Z1 - x2) * (Z1 - x2)))) * (Z0 - x0))) (k1 := (((Z2 * (Z0 - x0)) / ((((Z0 - x0) * (Z0 - x0)) + ((Z0 - x1) * (Z0 - x1))) + ((Z1 - x2) * (Z1 - x2)))) * (Z0 - x1))) (k2 := (((Z2 * (Z0 - x0)) / ((((Z0 - x0) * (Z0 - x0)) + ((Z0 - x1) * (Z0 - x1))) + ((Z1 - x2) * (Z1 - x2)))) * (Z1 - x2))) (m364.mono (by decide)) (m357.mono (by decide)) (m358.mono (by decide)) (m359.mono (by decide)) rfl rfl rfl) rfl ?_
  simp only [HH, gW, gD]
  have m365 : Num 7200000019 (cr (((Z2 * (Z0 - x0)) / ((((Z0 - x0) * (Z0 - x0)) + ((Z0 - x1) * (Z0 - x1))) + ((Z1 - x2) * (Z1 - x2)))) * (Z0 - x0))) (((Z2 * (Z0 - x0)) / ((((Z0 - x0) * (Z0 - x0)) + ((Z0 - x1) * (Z0 - x1))) + ((Z1 - x2) * (Z1 - x2)))) * (Z0 - x0)) := Num.of (Sm.mul m364.sm m357.sm)
  have m366 : Num 7200000019 (cr (((Z2 * (Z0 - x0)) / ((((Z0 - x0) * (Z0 - x0)) + ((Z0 - x1) * (Z0 - x1))) + ((Z1 - x2) * (Z1 - x2)))) * (Z0 - x1))) (((Z2 * (Z0 - x0)) / ((((Z0 - x0) * (Z0 - x0)) + ((Z0 - x1) * (Z0 - x1))) + ((Z1 - x2) * (Z1 - x2)))) * (Z0 - x1)) := Num.of (Sm.mul m364.sm m358.sm)
  have m367 : Num 7200000019 (cr (((Z2 * (Z0 - x0)) / ((((Z0 - x0) * (Z0 - x0)) + ((Z0 - x1) * (Z0 - x1))) + ((Z1 - x2) * (Z1 - x2)))) * (Z1 - x2))) (((Z2 * (Z0 - x0)) / ((((Z0 - x0) * (Z0 - x0)) + ((Z0 - x1) * (Z0 - x1))) + ((Z1 - x2) * (Z1 - x2)))) * (Z1 - x2)) := Num.of (Sm.mul m364.sm m359.sm)
  refine call_step (n_penumbraref05_Sub_0w (k0 := (Z1 - (((Z2 * (Z0 - x0)) / ((((Z0 - x0) * (Z0 - x0)) + ((Z0 - x1) * (Z0 - x1))) + ((Z1 - x2) * (Z1 - x2)))) * (Z0 - x0)))) (k1 := (Z0 - (((Z2 * (Z0 - x0)) / ((((Z0 - x0) * (Z0 - x0)) + ((Z0 - x1) * (Z0 - x1))) + ((Z1 - x2) * (Z1 - x2)))) * (Z0 - x1)))) (k2 := (Z0 - (((Z2 * (Z0 - x0)) / ((((Z0 - x0) * (Z0 - x0)) + ((Z0 - x1) * (Z0 - x1))) + ((Z1 - x2) * (Z1 - x2)))) * (Z1 - x2)))) m355 m356 m356 m365 m366 m367 (by decide) rfl rfl rfl) rfl ?_
  simp only [HH, gW, gD]
  refine call_step (n_penumbraref05_Of (0) (1) (0) (by decide) (by decide) (by decide) (by decide) (by decide) (by decide) (Y0.trans (by decide +kernel)) (Y1.trans (by decide +kernel)) (Y0.trans (by decide +kernel))) rfl ?_
  simp only [HH, gW, gD]
  have m368 : Num 6300000017 (cr ((Z2 * (Z0 - x1)) / ((((Z0 - x0) * (Z0 - x0)) + ((Z0 - x1) * (Z0 - x1))) + ((Z1 - x2) * (Z1 - x2))))) ((Z2 * (Z0 - x1)) / ((((Z0 - x0) * (Z0 - x0)) + ((Z0 - x1) * (Z0 - x1))) + ((Z1 - x2) * (Z1 - x2)))) := Num.of (Sm.div m363.sm m362.sm)
  refine call_step (n_penumbraref05_Scale_0 (k0 := (((Z2 * (Z0 - x1)) / ((((Z0 - x0) * (Z0 - x0)) + ((Z0 - x1) * (Z0 - x1))) + ((Z1 - x2) * (Z1 - x2)))) * (Z0 - x0))) (k1 := (((Z2 * (Z0 - x1)) / ((((Z0 - x0) * (Z0 - x0)) + ((Z0 - x1) * (Z0 - x1))) + ((Z1 - x2) * (Z1 - x2)))) * (Z0 - x1))) (k2 := (((Z2 * (Z0 - x1)) / ((((Z0 - x0) * (Z0 - x0)) + ((Z0 - x1) * (Z0 - x1))) + ((Z1 - x2) * (Z1 - x2)))) * (Z1 - x2))) (m368.mono (by decide)) (m357.mono (by decide)) (m358.mono (by decide)) (m359.mono (by decide)) rfl rfl rfl) rfl ?_
  simp only [HH, gW, gD]
  have m369 : Num 7200000019 (cr (((Z2 * (Z0 - x1)) / ((((Z0 - x0) * (Z0 - x0)) + ((Z0 - x1) * (Z0 - x1))) + ((Z1 - x2) * (Z1 - x2)))) * (Z0 - x0))) (((Z2 * (Z0 - x1)) / ((((Z0 - x0) * (Z0 - x0)) + ((Z0 - x1) * (Z0 - x1))) + ((Z1 - x2) * (Z1 - x2)))) * (Z0 - x0)) := Num.of (Sm.mul m368.sm m357.sm)
  have m370 : Num 7200000019 (cr (((Z2 * (Z0 - x1)) / ((((Z0 - x0) * (Z0 - x0)) + ((Z0 - x1) * (Z0 - x1))) + ((Z1 - x2) * (Z1 - x2)))) * (Z0 - x1))) (((Z2 * (Z0 - x1)) / ((((Z0 - x0) * (Z0 - x0)) + ((Z0 - x1) * (Z0 - x1))) + ((Z1 - x2) * (Z1 - x2)))) * (Z0 - x1)) := Num.of (Sm.mul m368.sm m358.sm)
  have m371 : Num 7200000019 (cr (((Z2 * (Z0 - x1)) / ((((Z0 - x0) * (Z0 - x0)) + ((Z0 - x1) * (Z0 - x1))) + ((Z1 - x2) * (Z1 - x2)))) * (Z1 - x2))) (((Z2 * (Z0 - x1)) / ((((Z0 - x0) * (Z0 - x0)) + ((Z0 - x1) * (Z0 - x1))) + ((Z1 - x2) * (Z1 - x2)))) * (Z1 - x2)) := Num.of (Sm.mul m368.sm m359.sm)
  refine call_step (n_penumbraref05_Sub_0w (k0 := (Z0 - (((Z2 * (Z0 - x1)) / ((((Z0 - x0) * (Z0 - x0)) + ((Z0 - x1) * (Z0 - x1))) + ((Z1 - x2) * (Z1 - x2)))) * (Z0 - x0)))) (k1 := (Z1 - (((Z2 * (Z0 - x1)) / ((((Z0 - x0) * (Z0 - x0)) + ((Z0 - x1) * (Z0 - x1))) + ((Z1 - x2) * (Z1 - x2)))) * (Z0 - x1)))) (k2 := (Z0 - (((Z2 * (Z0 - x1)) / ((((Z0 - x0) * (Z0 - x0)) + ((Z0 - x1) * (Z0 - x1))) + ((Z1 - x2) * (Z1 - x2)))) * (Z1 - x2)))) m356 m355 m356 m369 m370 m371 (by decide) rfl rfl rfl) rfl ?_
  simp only [HH, gW, gD]
  refine call_step (n_penumbraref05_Read_0 (h0.mono (by decide)) (h1.mono (by decide)) (h2.mono (by decide))) rfl ?_
  simp only [HH, gW, gD]
  exact ret_step rfl

theorem n_penumbraref06_Of_2 {Z0 Z1 Z2 : Rat} (Y0 : Z0 = (0 : Rat)) (Y1 : Z1 = (1 : Rat)) (Y2 : Z2 = (2 : Rat)) {r0 r1 r2 : RR} {x0 x1 x2 : Rat} {k0 k1 k2 k3 k4 k5 k6 k7 k8 k9 k10 k11 : Rat} (h0 : Num 900000000 r0 x0) (h1 : Num 900000000 r1 x1) (h2 : Num 900000000 r2 x2) (e0 : k0 = (((x0 * x0) + (x1 * x1)) + (x2 * x2))) (e1 : k1 = (Z0 - x0)) (e2 : k2 = (Z0 - x1)) (e3 : k3 = (Z1 - x2)) (e4 : k4 = ((Z2 * k1) / (((k1 * k1) + (k2 * k2)) + (k3 * k3)))) (e5 : k5 = (Z1 - (k4 * k1))) (e6 : k6 = (Z0 - (k4 * k2))) (e7 : k7 = (Z0 - (k4 * k3))) (e8 : k8 = ((Z2 * k2) / (((k1 * k1) + (k2 * k2)) + (k3 * k3)))) (e9 : k9 = (Z0 - (k8 * k1))) (e10 : k10 = (Z1 - (k8 * k2))) (e11 : k11 = (Z0 - (k8 * k3))) (c0 : k0 = Z1) (c1 : k1 = Z0) (c2 : ¬k2 = Z0) : PureCalls prog F.penumbraref06_Of [.agg (gW [r0, r1, r2])] [.agg (gD [k5, k6, k7, k9, k10, k11, x0, x1, x2]), .one (.bool true)] := by
  subst e0 e1 e2 e3 e4 e5 e6 e7 e8 e9 e10 e11
  refine symFunc_sound hmix tree_penumbraref06_Of (by kernel_rfl) rfl ?_
  unfold ir_penumbraref06_Of
  simp only [HH, gW, gD]
  refine call_step (n_penumbraref05_Dot_0w (k0 := (((x0 * x0) + (x1 * x1)) + (x2 * x2))) h0 h1 h2 h0 h1 h2 (by decide) rfl) rfl ?_
  simp only [HH, gW, gD]
  refine call_step (n_penumbraref03_One Y1) rfl ?_
  simp only [HH, gW, gD]
  have m372 : Num 5400000002 (cr (((x0 * x0) + (x1 * x1)) + (x2 * x2))) (((x0 * x0) + (x1 * x1)) + (x2 * x2)) := Num.of (Sm.add (Sm.add (Sm.mul h0.sm h0.sm) (Sm.mul h1.sm h1.sm)) (Sm.mul h2.sm h2.sm))
  have m373 : Num 1 (cr Z1) Z1 := Num.c Y1 (by decide +kernel) (by decide +kernel)
  refine call_step (n_penumbraref03_Is_t (m372.mono (by decide)) (m373.mono (by decide)) c0) rfl ?_
  simp only [HH, gW, gD]
  refine primS (.bool false) rfl ?_
  refine itF rfl ?_
  refine call_step (n_penumbraref05_Of (0) (0) (1) (by decide) (by decide) (by decide) (by decide) (by decide) (by decide) (Y0.trans (by decide +kernel)) (Y0.trans (by decide +kernel)) (Y1.trans (by decide +kernel))) rfl ?_
  simp only [HH, gW, gD]
  have m374 : Num 1 (cr Z0) Z0 := Num.c Y0 (by decide +kernel) (by decide +kernel)
  refine call_step (n_penumbraref05_Sub_0w (k0 := (Z0 - x0)) (k1 := (Z0 - x1)) (k2 := (Z1 - x2)) m374 m374 m373 h0 h1 h2 (by decide) rfl rfl rfl) rfl ?_
  simp only [HH, gW, gD]
  have m375 : Num 900000002 (cr (Z0 - x0)) (Z0 - x0) := Num.of (Sm.sub m374.sm h0.sm)
  have m376 : Num 900000002 (cr (Z0 - x1)) (Z0 - x1) := Num.of (Sm.sub m374.sm h1.sm)
  have m377 : Num 900000002 (cr (Z1 - x2)) (Z1 - x2) := Num.of (Sm.sub m373.sm h2.sm)
  refine call_step (n_penumbraref05_Null_2 Y0 (m375.mono (by decide)) (m376.mono (by decide)) (m377.mono (by decide)) c1 c2) rfl ?_
  simp only [HH, gW, gD]
  refine itF rfl ?_
  refine call_step (n_penumbraref05_Dot_0w (k0 := ((((Z0 - x0) * (Z0 - x0)) + ((Z0 - x1) * (Z0 - x1))) + ((Z1 - x2) * (Z1 - x2)))) m375 m376 m377 m375 m376 m377 (by decide) rfl) rfl ?_
  simp only [HH, gW, gD]
  refine call_step (n_penumbraref03_Of (2) (1) (by decide) (by decide) (by decide) (by decide) (Y2.trans (by decide +kernel))) rfl ?_
  simp only [HH, gW, gD]
  have m378 : Num 1 (cr Z2) Z2 := Num.c Y2 (by decide +kernel) (by decide +kernel)
  refine call_step (n_penumbraref03_Mul (k0 := (Z2 * (Z0 - x0))) (m378.mono (by decide)) (m375.mono (by decide)) rfl) rfl ?_
  simp only [HH, gW, gD]
  have m379 : Num 900000003 (cr (Z2 * (Z0 - x0))) (Z2 * (Z0 - x0)) := Num.of (Sm.mul m378.sm m375.sm)
  have m380 : Num 5400000014 (cr ((((Z0 - x0) * (Z0 - x0)) + ((Z0 - x1) * (Z0 - x1))) + ((Z1 - x2) * (Z1 - x2)))) ((((Z0 - x0) * (Z0 - x0)) + ((Z0 - x1) * (Z0 - x1))) + ((Z1 - x2) * (Z1 - x2))) := Num.of (Sm.add (Sm.add (Sm.mul m375.sm m375.sm) (Sm.mul m376.sm m376.sm)) (Sm.mul m377.sm m377.sm))
  refine call_step (n_penumbraref03_Over (k0 := ((Z2 * (Z0 - x0)) / ((((Z0 - x0) * (Z0 - x0)) + ((Z0 - x1) * (Z0 - x1))) + ((Z1 - x2) * (Z1 - x2))))) (m379.mono (by decide)) (m380.mono (by decide)) rfl) rfl ?_
  simp only [HH, gW, gD]
  refine call_step (n_penumbraref03_Of (2) (1) (by decide) (by decide) (by decide) (by decide) (Y2.trans (by decide +kernel))) rfl ?_
  simp only [HH, gW, gD]
  refine call_step (n_penumbraref03_Mul (k0 := (Z2 * (Z0 - x1))) (m378.mono (by decide)) (m376.mono (by decide)) rfl) rfl ?_
  simp only [HH, gW, gD]
  have m381 : Num 900000003 (cr (Z2 * (Z0 - x1))) (Z2 * (Z0 - x1)) := Num.of (Sm.mul m378.sm m376.sm)
  refine call_step (n_penumbraref03_Over (k0 := ((Z2 * (Z0 - x1)) / ((((Z0 - x0) * (Z0 - x0)) + ((Z0 - x1) * (Z0 - x1))) + ((Z1 - x2) * (Z1 - x2))))) (m381.mono (by decide)) (m380.mono (by decide)) rfl) rfl ?_
  simp only [HH, gW, gD]
  refine call_step (n_penumbraref05_Of (1) (0) (0) (by decide) (by decide) (by decide) (by decide) (by decide) (by decide) (Y1.trans (by decide +kernel)) (Y0.trans (by decide +kernel)) (Y0.trans (by decide +kernel))) rfl ?_
  simp only [HH, gW, gD]
  have m382 : Num 6300000017 (cr ((Z2 * (Z0 - x0)) / ((((Z0 - x0) * (Z0 - x0)) + ((Z0 - x1) * (Z0 - x1))) + ((Z1 - x2) * (Z1 - x2))))) ((Z2 * (Z0 - x0)) / ((((Z0 - x0) * (Z0 - x0)) + ((Z0 - x1) * (Z0 - x1))) + ((Z1 - x2) * (Z1 - x2)))) := Num.of (Sm.div m379.sm m380.sm)
  refine call_step (n_penumbraref05_Scale_0 (k0 := (((Z2 * (Z0 - x0)) / ((((Z0 - x0) * (Z0 - x0)) + ((Z0 - x1) * (Z0 - x1))) + ((Z1 - x2) * (Z1 - x2)))) * (Z0 - x0))) (k1 := (((Z2 * (Z0 - x0)) / ((((Z0 - x0) * (Z0 - x0)) + ((Z0 - x1) * (Z0 - x1))) + ((Z1 - x2) * (Z1 - x2)))) * (Z0 - x1))) (k2 := (((Z2 * (Z0 - x0)) / ((((Z0 - x0) * (Z0 - x0)) + ((Z0 - x1) * (Z0 - x1))) + ((Z1 - x2) * (Z1 - x2)))) * (Z1 - x2))) (m382.mono (by decide)) (m375.mono (by decide)) (m376.mono (by decide)) (m377.mono (by decide)) rfl rfl rfl) rfl ?_
  simp only [HH, gW, gD]
  have m383 : Num 7200000019 (cr (((Z2 * (Z0 - x0)) / ((((Z0 - x0) * (Z0 - x0)) + ((Z0 - x1) * (Z0 - x1))) + ((Z1 - x2) * (Z1 - x2)))) * (Z0 - x0))) (((Z2 * (Z0 - x0)) / ((((Z0 - x0) * (Z0 - x0)) + ((Z0 - x1) * (Z0 - x1))) + ((Z1 - x2) * (Z1 - x2)))) * (Z0 - x0)) := Num.of (Sm.mul m382.sm m375.sm)
  have m384 : Num 7200000019 (cr (((Z2 * (Z0 - x0)) / ((((Z0 - x0) * (Z0 - x0)) + ((Z0 - x1) * (Z0 - x1))) + ((Z1 - x2) * (Z1 - x2)))) * (Z0 - x1))) (((Z2 * (Z0 - x0)) / ((((Z0 - x0) * (Z0 - x0)) + ((Z0 - x1) * (Z0 - x1))) + ((Z1 - x2) * (Z1 - x2)))) * (Z0 - x1)) := Num.of (Sm.mul m382.sm m376.sm)
  have m385 : Num 7200000019 (cr (((Z2 * (Z0 - x0)) / ((((Z0 - x0) * (Z0 - x0)) + ((Z0 - x1) * (Z0 - x1))) + ((Z1 - x2) * (Z1 - x2)))) * (Z1 - x2))) (((Z2 * (Z0 - x0)) / ((((Z0 - x0) * (Z0 - x0)) + ((Z0 - x1) * (Z0 - x1))) + ((Z1 - x2) * (Z1 - x2)))) * (Z1 - x2)) := Num.of (Sm.mul m382.sm m377.sm)
  refine call_step (n_penumbraref05_Sub_0w (k0 := (Z1 - (((Z2 * (Z0 - x0)) / ((((Z0 - x0) * (Z0 - x0)) + ((Z0 - x1) * (Z0 - x1))) + ((Z1 - x2) * (Z1 - x2)))) * (Z0 - x0)))) (k1 := (Z0 - (((Z2 * (Z0 - x0)) / ((((Z0 - x0) * (Z0 - x0)) + ((Z0 - x1) * (Z0 - x1))) + ((Z1 - x2) * (Z1 - x2)))) * (Z0 - x1)))) (k2 := (Z0 - (((Z2 * (Z0 - x0)) / ((((Z0 - x0) * (Z0 - x0)) + ((Z0 - x1) * (Z0 - x1))) + ((Z1 - x2) * (Z1 - x2)))) * (Z1 - x2)))) m373 m374 m374 m383 m384 m385 (by decide) rfl rfl rfl) rfl ?_
  simp only [HH, gW, gD]
  refine call_step (n_penumbraref05_Of (0) (1) (0) (by decide) (by decide) (by decide) (by decide) (by decide) (by decide) (Y0.trans (by decide +kernel)) (Y1.trans (by decide +kernel)) (Y0.trans (by decide +kernel))) rfl ?_
  simp only [HH, gW, gD]
  have m386 : Num 6300000017 (cr ((Z2 * (Z0 - x1)) / ((((Z0 - x0) * (Z0 - x0)) + ((Z0 - x1) * (Z0 - x1))) + ((Z1 - x2) * (Z1 - x2))))) ((Z2 * (Z0 - x1)) / ((((Z0 - x0) * (Z0 - x0)) + ((Z0 - x1) * (Z0 - x1))) + ((Z1 - x2) * (Z1 - x2)))) := Num.of (Sm.div m381.sm m380.sm)
  refine call_step (n_penumbraref05_Scale_0 (k0 := (((Z2 * (Z0 - x1)) / ((((Z0 - x0) * (Z0 - x0)) + ((Z0 - x1) * (Z0 - x1))) + ((Z1 - x2) * (Z1 - x2)))) * (Z0 - x0))) (k1 := (((Z2 * (Z0 - x1)) / ((((Z0 - x0) * (Z0 - x0)) + ((Z0 - x1) * (Z0 - x1))) + ((Z1 - x2) * (Z1 - x2)))) * (Z0 - x1))) (k2 := (((Z2 * (Z0 - x1)) / ((((Z0 - x0) * (Z0 - x0)) + ((Z0 - x1) * (Z0 - x1))) + ((Z1 - x2) * (Z1 - x2)))) * (Z1 - x2))) (m386.mono (by decide)) (m375.mono (by decide)) (m376.mono (by decide)) (m377.mono (by decide)) rfl rfl rfl) rfl ?_
  simp only [HH, gW, gD]
  have m387 : Num 7200000019 (cr (((Z2 * (Z0 - x1)) / ((((Z0 - x0) * (Z0 - x0)) + ((Z0 - x1) * (Z0 - x1))) + ((Z1 - x2) * (Z1 - x2)))) * (Z0 - x0))) (((Z2 * (Z0 - x1)) / ((((Z0 - x0) * (Z0 - x0)) + ((Z0 - x1) * (Z0 - x1))) + ((Z1 - x2) * (Z1 - x2)))) * (Z0 - x0)) := Num.of (Sm.mul m386.sm m375.sm)
  have m388 : Num 7200000019 (cr (((Z2 * (Z0 - x1)) / ((((Z0 - x0) * (Z0 - x0)) + ((Z0 - x1) * (Z0 - x1))) + ((Z1 - x2) * (Z1 - x2)))) * (Z0 - x1))) (((Z2 * (Z0 - x1)) / ((((Z0 - x0) * (Z0 - x0)) + ((Z0 - x1) * (Z0 - x1))) + ((Z1 - x2) * (Z1 - x2)))) * (Z0 - x1)) := Num.of (Sm.mul m386.sm m376.sm)
  have m389 : Num 7200000019 (cr (((Z2 * (Z0 - x1)) / ((((Z0 - x0) * (Z0 - x0)) + ((Z0 - x1) * (Z0 - x1))) + ((Z1 - x2) * (Z1 - x2)))) * (Z1 - x2))) (((Z2 * (Z0 - x1)) / ((((Z0 - x0) * (Z0 - x0)) + ((Z0 - x1) * (Z0 - x1))) + ((Z1 - x2) * (Z1 - x2)))) * (Z1 - x2)) := Num.of (Sm.mul m386.sm m377.sm)
  refine call_step (n_penumbraref05_Sub_0w (k0 := (Z0 - (((Z2 * (Z0 - x1)) / ((((Z0 - x0) * (Z0 - x0)) + ((Z0 - x1) * (Z0 - x1))) + ((Z1 - x2) * (Z1 - x2)))) * (Z0 - x0)))) (k1 := (Z1 - (((Z2 * (Z0 - x1)) / ((((Z0 - x0) * (Z0 - x0)) + ((Z0 - x1) * (Z0 - x1))) + ((Z1 - x2) * (Z1 - x2)))) * (Z0 - x1)))) (k2 := (Z0 - (((Z2 * (Z0 - x1)) / ((((Z0 - x0) * (Z0 - x0)) + ((Z0 - x1) * (Z0 - x1))) + ((Z1 - x2) * (Z1 - x2)))) * (Z1 - x2)))) m374 m373 m374 m387 m388 m389 (by decide) rfl rfl rfl) rfl ?_
  simp only [HH, gW, gD]
  refine call_step (n_penumbraref05_Read_0 (h0.mono (by decide)) (h1.mono (by decide)) (h2.mono (by decide))) rfl ?_
  simp only [HH, gW, gD]
  exact ret_step rfl

theorem n_penumbraref06_Of_3 {Z0 Z1 Z2 : Rat} (Y0 : Z0 = (0 : Rat)) (Y1 : Z1 = (1 : Rat)) (Y2 : Z2 = (2 : Rat)) {r0 r1 r2 : RR} {x0 x1 x2 : Rat} {k0 k1 k2 k3 k4 k5 k6 k7 k8 k9 k10 k11 : Rat} (h0 : Num 900000000 r0 x0) (h1 : Num 900000000 r1 x1) (h2 : Num 900000000 r2 x2) (e0 : k0 = (((x0 * x0) + (x1 * x1)) + (x2 * x2))) (e1 : k1 = (Z0 - x0)) (e2 : k2 = (Z0 - x1)) (e3 : k3 = (Z1 - x2)) (e4 : k4 = ((Z2 * k1) / (((k1 * k1) + (k2 * k2)) + (k3 * k3)))) (e5 : k5 = (Z1 - (k4 * k1))) (e6 : k6 = (Z0 - (k4 * k2))) (e7 : k7 = (Z0 - (k4 * k3))) (e8 : k8 = ((Z2 * k2) / (((k1 * k1) + (k2 * k2)) + (k3 * k3)))) (e9 : k9 = (Z0 - (k8 * k1))) (e10 : k10 = (Z1 - (k8 * k2))) (e11 : k11 = (Z0 - (k8 * k3))) (c0 : k0 = Z1) (c1 : ¬k1 = Z0) : PureCalls prog F.penumbraref06_Of [.agg (gW [r0, r1, r2])] [.agg (gD [k5, k6, k7, k9, k10, k11, x0, x1, x2]), .one (.bool true)] := by
  subst e0 e1 e2 e3 e4 e5 e6 e7 e8 e9 e10 e11
  refine symFunc_sound hmix tree_penumbraref06_Of (by kernel_rfl) rfl ?_
  unfold ir_penumbraref06_Of
  simp only [HH, gW, gD]
  refine call_step (n_penumbraref05_Dot_0w (k0 := (((x0 * x0) + (x1 * x1)) + (x2 * x2))) h0 h1 h2 h0 h1 h2 (by decide) rfl) rfl ?_
  simp only [HH, gW, gD]
  refine call_step (n_penumbraref03_One Y1) rfl ?_
  simp only [HH, gW, gD]
  have m390 : Num 5400000002 (cr (((x0 * x0) + (x1 * x1)) + (x2 * x2))) (((x0 * x0) + (x1 * x1)) + (x2 * x2)) := Num.of (Sm.add (Sm.add (Sm.mul h0.sm h0.sm) (Sm.mul h1.sm h1.sm)) (Sm.mul h2.sm h2.sm))
  have m391 : Num 1 (cr Z1) Z1 := Num.c Y1 (by decide +kernel) (by decide +kernel)
  refine call_step (n_penumbraref03_Is_t (m390.mono (by decide)) (m391.mono (by decide)) c0) rfl ?_
  simp only [HH, gW, gD]
  refine primS (.bool false) rfl ?_
  refine itF rfl ?_
  refine call_step (n_penumbraref05_Of (0) (0) (1) (by decide) (by decide) (by decide) (by decide) (by decide) (by decide) (Y0.trans (by decide +kernel)) (Y0.trans (by decide +kernel)) (Y1.trans (by decide +kernel))) rfl ?_
  simp only [HH, gW, gD]
  have m392 : Num 1 (cr Z0) Z0 := Num.c Y0 (by decide +kernel) (by decide +kernel)
  refine call_step (n_penumbraref05_Sub_0w (k0 := (Z0 - x0)) (k1 := (Z0 - x1)) (k2 := (Z1 - x2)) m392 m392 m391 h0 h1 h2 (by decide) rfl rfl rfl) rfl ?_
  simp only [HH, gW, gD]
  have m393 : Num 900000002 (cr (Z0 - x0)) (Z0 - x0) := Num.of (Sm.sub m392.sm h0.sm)
  have m394 : Num 900000002 (cr (Z0 - x1)) (Z0 - x1) := Num.of (Sm.sub m392.sm h1.sm)
  have m395 : Num 900000002 (cr (Z1 - x2)) (Z1 - x2) := Num.of (Sm.sub m391.sm h2.sm)
  refine call_step (n_penumbraref05_Null_3 Y0 (m393.mono (by decide)) (m394.mono (by decide)) (m395.mono (by decide)) c1) rfl ?_
  simp only [HH, gW, gD]
  refine itF rfl ?_
  refine call_step (n_penumbraref05_Dot_0w (k0 := ((((Z0 - x0) * (Z0 - x0)) + ((Z0 - x1) * (Z0 - x1))) + ((Z1 - x2) * (Z1 - x2)))) m393 m394 m395 m393 m394 m395 (by decide) rfl) rfl ?_
  simp only [HH, gW, gD]
  refine call_step (n_penumbraref03_Of (2) (1) (by decide) (by decide) (by decide) (by decide) (Y2.trans (by decide +kernel))) rfl ?_
  simp only [HH, gW, gD]
  have m396 : Num 1 (cr Z2) Z2 := Num.c Y2 (by decide +kernel) (by decide +kernel)
  refine call_step (n_penumbraref03_Mul (k0 := (Z2 * (Z0 - x0))) (m396.mono (by decide)) (m393.mono (by decide)) rfl) rfl ?_
  simp only [HH, gW, gD]
  have m397 : Num 900000003 (cr (Z2 * (Z0 - x0))) (Z2 * (Z0 - x0)) := Num.of (Sm.mul m396.sm m393.sm)
  have m398 : Num 5400000014 (cr ((((Z0 - x0) * (Z0 - x0)) + ((Z0 - x1) * (Z0 - x1))) + ((Z1 - x2) * (Z1 - x2)))) ((((Z0 - x0) * (Z0 - x0)) + ((Z0 - x1) * (Z0 - x1))) + ((Z1 - x2) * (Z1 - x2))) := Num.of (Sm.add (Sm.add (Sm.mul m393.sm m393.sm) (Sm.mul m394.sm m394.sm)) (Sm.mul m395.sm m395.sm))
  refine call_step (n_penumbraref03_Over (k0 := ((Z2 * (Z0 - x0)) / ((((Z0 - x0) * (Z0 - x0)) + ((Z0 - x1) * (Z0 - x1))) + ((Z1 - x2) * (Z1 - x2))))) (m397.mono (by decide)) (m398.mono (by decide)) rfl) rfl ?_
  simp only [HH, gW, gD]
  refine call_step (n_penumbraref03_Of (2) (1) (by decide) (by decide) (by decide) (by decide) (Y2.trans (by decide +kernel))) rfl ?_
  simp only [HH, gW, gD]
  refine call_step (n_penumbraref03_Mul (k0 := (Z2 * (Z0 - x1))) (m396.mono (by decide)) (m394.mono (by decide)) rfl) rfl ?_
  simp only [HH, gW, gD]
  have m399 : Num 900000003 (cr (Z2 * (Z0 - x1))) (Z2 * (Z0 - x1)) := Num.of (Sm.mul m396.sm m394.sm)
  refine call_step (n_penumbraref03_Over (k0 := ((Z2 * (Z0 - x1)) / ((((Z0 - x0) * (Z0 - x0)) + ((Z0 - x1) * (Z0 - x1))) + ((Z1 - x2) * (Z1 - x2))))) (m399.mono (by decide)) (m398.mono (by decide)) rfl) rfl ?_
  simp only [HH, gW, gD]
  refine call_step (n_penumbraref05_Of (1) (0) (0) (by decide) (by decide) (by decide) (by decide) (by decide) (by decide) (Y1.trans (by decide +kernel)) (Y0.trans (by decide +kernel)) (Y0.trans (by decide +kernel))) rfl ?_
  simp only [HH, gW, gD]
  have m400 : Num 6300000017 (cr ((Z2 * (Z0 - x0)) / ((((Z0 - x0) * (Z0 - x0)) + ((Z0 - x1) * (Z0 - x1))) + ((Z1 - x2) * (Z1 - x2))))) ((Z2 * (Z0 - x0)) / ((((Z0 - x0) * (Z0 - x0)) + ((Z0 - x1) * (Z0 - x1))) + ((Z1 - x2) * (Z1 - x2)))) := Num.of (Sm.div m397.sm m398.sm)
  refine call_step (n_penumbraref05_Scale_0 (k0 := (((Z2 * (Z0 - x0)) / ((((Z0 - x0) * (Z0 - x0)) + ((Z0 - x1) * (Z0 - x1))) + ((Z1 - x2) * (Z1 - x2)))) * (Z0 - x0))) (k1 := (((Z2 * (Z0 - x0)) / ((((Z0 - x0) * (Z0 - x0)) + ((Z0 - x1) * (Z0 - x1))) + ((Z1 - x2) * (Z1 - x2)))) * (Z0 - x1))) (k2 := (((Z2 * (Z0 - x0)) / ((((Z0 - x0) * (Z0 - x0)) + ((Z0 - x1) * (Z0 - x1))) + ((Z1 - x2) * (Z1 - x2)))) * (Z1 - x2))) (m400.mono (by decide)) (m393.mono (by decide)) (m394.mono (by decide)) (m395.mono (by decide)) rfl rfl rfl) rfl ?_
  simp only [HH, gW, gD]
  have m401 : Num 7200000019 (cr (((Z2 * (Z0 - x0)) / ((((Z0 - x0) * (Z0 - x0)) + ((Z0 - x1) * (Z0 - x1))) + ((Z1 - x2) * (Z1 - x2)))) * (Z0 - x0))) (((Z2 * (Z0 - x0)) / ((((Z0 - x0) * (Z0 - x0)) + ((Z0 - x1) * (Z0 - x1))) + ((Z1 - x2) * (Z1 - x2)))) * (Z0 - x0)) := Num.of (Sm.mul m400.sm m393.sm)
  have m402 : Num 7200000019 (cr (((Z2 * (Z0 - x0)) / ((((Z0 - x0) * (Z0 - x0)) + ((Z0 - x1) * (Z0 - x1))) + ((Z1 - x2) * (Z1 - x2)))) * (Z0 - x1))) (((Z2 * (Z0 - x0)) / ((((Z0 - x0) * (Z0 - x0)) + ((Z0 - x1) * (Z0 - x1))) + ((Z1 - x2) * (Z1 - x2)))) * (Z0 - x1)) := Num.of (Sm.mul m400.sm m394.sm)
  have m403 : Num 7200000019 (cr (((Z2 * (Z0 - x0)) / ((((Z0 - x0) * (Z0 - x0)) + ((Z0 - x1) * (Z0 - x1))) + ((Z1 - x2) * (Z1 - x2)))) * (Z1 - x2))) (((Z2 * (Z0 - x0)) / ((((Z0 - x0) * (Z0 - x0)) + ((Z0 - x1) * (Z0 - x1))) + ((Z1 - x2) * (Z1 - x2)))) * (Z1 - x2)) := Num.of (Sm.mul m400.sm m395.sm)
  refine call_step (n_penumbraref05_Sub_0w (k0 := (Z1 - (((Z2 * (Z0 - x0)) / ((((Z0 - x0) * (Z0 - x0)) + ((Z0 - x1) * (Z0 - x1))) + ((Z1 - x2) * (Z1 - x2)))) * (Z0 - x0)))) (k1 := (Z0 - (((Z2 * (Z0 - x0)) / ((((Z0 - x0) * (Z0 - x0)) + ((Z0 - x1) * (Z0 - x1))) + ((Z1 - x2) * (Z1 - x2)))) * (Z0 - x1)))) (k2 := (Z0 - (((Z2 * (Z0 - x0)) / ((((Z0 - x0) * (Z0 - x0)) + ((Z0 - x1) * (Z0 - x1))) + ((Z1 - x2) * (Z1 - x2)))) * (Z1 - x2)))) m391 m392 m392 m401 m402 m403 (by decide) rfl rfl rfl) rfl ?_
  simp only [HH, gW, gD]
  refine call_step (n_penumbraref05_Of (0) (1) (0) (by decide) (by decide) (by decide) (by decide) (by decide) (by decide) (Y0.trans (by decide +kernel)) (Y1.trans (by decide +kernel)) (Y0.trans (by decide +kernel))) rfl ?_
  simp only [HH, gW, gD]
  have m404 : Num 6300000017 (cr ((Z2 * (Z0 - x1)) / ((((Z0 - x0) * (Z0 - x0)) + ((Z0 - x1) * (Z0 - x1))) + ((Z1 - x2) * (Z1 - x2))))) ((Z2 * (Z0 - x1)) / ((((Z0 - x0) * (Z0 - x0)) + ((Z0 - x1) * (Z0 - x1))) + ((Z1 - x2) * (Z1 - x2)))) := Num.of (Sm.div m399.sm m398.sm)
  refine call_step (n_penumbraref05_Scale_0 (k0 := (((Z2 * (Z0 - x1)) / ((((Z0 - x0) * (Z0 - x0)) + ((Z0 - x1) * (Z0 - x1))) + ((Z1 - x2) * (Z1 - x2)))) * (Z0 - x0))) (k1 := (((Z2 * (Z0 - x1)) / ((((Z0 - x0) * (Z0 - x0)) + ((Z0 - x1) * (Z0 - x1))) + ((Z1 - x2) * (Z1 - x2)))) * (Z0 - x1))) (k2 := (((Z2 * (Z0 - x1)) / ((((Z0 - x0) * (Z0 - x0)) + ((Z0 - x1) * (Z0 - x1))) + ((Z1 - x2) * (Z1 - x2)))) * (Z1 - x2))) (m404.mono (by decide)) (m393.mono (by decide)) (m394.mono (by decide)) (m395.mono (by decide)) rfl rfl rfl) rfl ?_
  simp only [HH, gW, gD]
  have m405 : Num 7200000019 (cr (((Z2 * (Z0 - x1)) / ((((Z0 - x0) * (Z0 - x0)) + ((Z0 - x1) * (Z0 - x1))) + ((Z1 - x2) * (Z1 - x2)))) * (Z0 - x0))) (((Z2 * (Z0 - x1)) / ((((Z0 - x0) * (Z0 - x0)) + ((Z0 - x1) * (Z0 - x1))) + ((Z1 - x2) * (Z1 - x2)))) * (Z0 - x0)) := Num.of (Sm.mul m404.sm m393.sm)
  have m406 : Num 7200000019 (cr (((Z2 * (Z0 - x1)) / ((((Z0 - x0) * (Z0 - x0)) + ((Z0 - x1) * (Z0 - x1))) + ((Z1 - x2) * (Z1 - x2)))) * (Z0 - x1))) (((Z2 * (Z0 - x1)) / ((((Z0 - x0) * (Z0 - x0)) + ((Z0 - x1) * (Z0 - x1))) + ((Z1 - x2) * (Z1 - x2)))) * (Z0 - x1)) := Num.of (Sm.mul m404.sm m394.sm)
  have m407 : Num 7200000019 (cr (((Z2 * (Z0 - x1)) / ((((Z0 - x0) * (Z0 - x0)) + ((Z0 - x1) * (Z0 - x1))) + ((Z1 - x2) * (Z1 - x2)))) * (Z1 - x2))) (((Z2 * (Z0 - x1)) / ((((Z0 - x0) * (Z0 - x0)) + ((Z0 - x1) * (Z0 - x1))) + ((Z1 - x2) * (Z1 - x2)))) * (Z1 - x2)) := Num.of (Sm.mul m404.sm m395.sm)
  refine call_step (n_penumbraref05_Sub_0w (k0 := (Z0 - (((Z2 * (Z0 - x1)) / ((((Z0 - x0) * (Z0 - x0)) + ((Z0 - x1) * (Z0 - x1))) + ((Z1 - x2) * (Z1 - x2)))) * (Z0 - x0)))) (k1 := (Z1 - (((Z2 * (Z0 - x1)) / ((((Z0 - x0) * (Z0 - x0)) + ((Z0 - x1) * (Z0 - x1))) + ((Z1 - x2) * (Z1 - x2)))) * (Z0 - x1)))) (k2 := (Z0 - (((Z2 * (Z0 - x1)) / ((((Z0 - x0) * (Z0 - x0)) + ((Z0 - x1) * (Z0 - x1))) + ((Z1 - x2) * (Z1 - x2)))) * (Z1 - x2)))) m392 m391 m392 m405 m406 m407 (by decide) rfl rfl rfl) rfl ?_
  simp only [HH, gW, gD]
  refine call_step (n_penumbraref05_Read_0 (h0.mono (by decide)) (h1.mono (by decide)) (h2.mono (by decide))) rfl ?_
  simp only [HH, gW, gD]
  exact ret_step rfl

theorem n_penumbraref06_In_0w  {r0 r1 r2 r3 r4 r5 r6 r7 r8 r9 r10 r11 : RR} {x0 x1 x2 x3 x4 x5 x6 x7 x8 x9 x10 x11 : Rat} {k0 k1 k2 : Rat} {L0 L1 L2 L3 L4 L5 L6 L7 L8 L9 L10 L11 : Nat} (h0 : Num L0 r0 x0) (h1 : Num L1 r1 x1) (h2 : Num L2 r2 x2) (h3 : Num L3 r3 x3) (h4 : Num L4 r4 x4) (h5 : Num L5 r5 x5) (h6 : Num L6 r6 x6) (h7 : Num L7 r7 x7) (h8 : Num L8 r8 x8) (h9 : Num L9 r9 x9) (h10 : Num L10 r10 x10) (h11 : Num L11 r11 x11) (hl : L0 ≤ 9000000000 ∧ L1 ≤ 9000000000 ∧ L2 ≤ 9000000000 ∧ L3 ≤ 9000000000 ∧ L4 ≤ 9000000000 ∧ L5 ≤ 9000000000 ∧ L6 ≤ 9000000000 ∧ L7 ≤ 9000000000 ∧ L8 ≤ 9000000000 ∧ L9 ≤ 9000000000 ∧ L10 ≤ 9000000000 ∧ L11 ≤ 9000000000) (e0 : k0 = (((x9 * x0) + (x10 * x1)) + (x11 * x2))) (e1 : k1 = (((x9 * x3) + (x10 * x4)) + (x11 * x5))) (e2 : k2 = (((x9 * x6) + (x10 * x7)) + (x11 * x8)))  : PureCalls prog F.penumbraref06_In [.agg (gW [r0, r1, r2, r3, r4, r5, r6, r7, r8]), .agg (gW [r9, r10, r11])] [.agg (gD [k0, k1, k2])] := by
  replace h0 := h0.mono hl.1
  replace h1 := h1.mono hl.2.1
  replace h2 := h2.mono hl.2.2.1
  replace h3 := h3.mono hl.2.2.2.1
  replace h4 := h4.mono hl.2.2.2.2.1
  replace h5 := h5.mono hl.2.2.2.2.2.1
  replace h6 := h6.mono hl.2.2.2.2.2.2.1
  replace h7 := h7.mono hl.2.2.2.2.2.2.2.1
  replace h8 := h8.mono hl.2.2.2.2.2.2.2.2.1
  replace h9 := h9.mono hl.2.2.2.2.2.2.2.2.2.1
  replace h10 := h10.mono hl.2.2.2.2.2.2.2.2.2.2.1
  replace h11 := h11.mono hl.2.2.2.2.2.2.2.2.2.2.2
  subst e0 e1 e2
  refine symFunc_sound hmix tree_penumbraref06_In (by kernel_rfl) rfl ?_
  unfold ir_penumbraref06_In
  simp only [HH, gW, gD]
  refine call_step (n_penumbraref05_Dot_0w (k0 := (((x9 * x0) + (x10 * x1)) + (x11 * x2))) h9 h10 h11 h0 h1 h2 (by decide) rfl) rfl ?_
  simp only [HH, gW, gD]
  refine call_step (n_penumbraref05_Dot_0w (k0 := (((x9 * x3) + (x10 * x4)) + (x11 * x5))) h9 h10 h11 h3 h4 h5 (by decide) rfl) rfl ?_
  simp only [HH, gW, gD]
  refine call_step (n_penumbraref05_Dot_0w (k0 := (((x9 * x6) + (x10 * x7)) + (x11 * x8))) h9 h10 h11 h6 h7 h8 (by decide) rfl) rfl ?_
  simp only [HH, gW, gD]
  exact ret_step rfl

theorem n_penumbraref06_Slopes_1w {Z0 : Rat} (Y0 : Z0 = (0 : Rat)) {r0 r1 r2 r3 r4 r5 r6 r7 r8 r9 r10 r11 : RR} {x0 x1 x2 x3 x4 x5 x6 x7 x8 x9 x10 x11 : Rat} {k0 k1 k2 : Rat} {L0 L1 L2 L3 L4 L5 L6 L7 L8 L9 L10 L11 : Nat} (h0 : Num L0 r0 x0) (h1 : Num L1 r1 x1) (h2 : Num L2 r2 x2) (h3 : Num L3 r3 x3) (h4 : Num L4 r4 x4) (h5 : Num L5 r5 x5) (h6 : Num L6 r6 x6) (h7 : Num L7 r7 x7) (h8 : Num L8 r8 x8) (h9 : Num L9 r9 x9) (h10 : Num L10 r10 x10) (h11 : Num L11 r11 x11) (hl : L0 ≤ 900000000 ∧ L1 ≤ 900000000 ∧ L2 ≤ 900000000 ∧ L3 ≤ 900000000 ∧ L4 ≤ 900000000 ∧ L5 ≤ 900000000 ∧ L6 ≤ 900000000 ∧ L7 ≤ 900000000 ∧ L8 ≤ 900000000 ∧ L9 ≤ 900000000 ∧ L10 ≤ 900000000 ∧ L11 ≤ 900000000) (e0 : k0 = (((x9 * x6) + (x10 * x7)) + (x11 * x8))) (e1 : k1 = ((((x9 * x0) + (x10 * x1)) + (x11 * x2)) / k0)) (e2 : k2 = ((((x9 * x3) + (x10 * x4)) + (x11 * x5)) / k0)) (c0 : ¬k0 = Z0) : PureCalls prog F.penumbraref06_Slopes [.agg (gW [r0, r1, r2, r3, r4, r5, r6, r7, r8]), .agg (gW [r9, r10, r11])] [.agg (gD [k1]), .agg (gD [k2]), .agg (gD [k0]), .one (.bool true)] := by
  replace h0 := h0.mono hl.1
  replace h1 := h1.mono hl.2.1
  replace h2 := h2.mono hl.2.2.1
  replace h3 := h3.mono hl.2.2.2.1
  replace h4 := h4.mono hl.2.2.2.2.1
  replace h5 := h5.mono hl.2.2.2.2.2.1
  replace h6 := h6.mono hl.2.2.2.2.2.2.1
  replace h7 := h7.mono hl.2.2.2.2.2.2.2.1
  replace h8 := h8.mono hl.2.2.2.2.2.2.2.2.1
  replace h9 := h9.mono hl.2.2.2.2.2.2.2.2.2.1
  replace h10 := h10.mono hl.2.2.2.2.2.2.2.2.2.2.1
  replace h11 := h11.mono hl.2.2.2.2.2.2.2.2.2.2.2
  subst e0 e1 e2
  refine symFunc_sound hmix tree_penumbraref06_Slopes (by kernel_rfl) rfl ?_
  unfold ir_penumbraref06_Slopes
  simp only [HH, gW, gD]
  refine call_step (n_penumbraref06_In_0w (k0 := (((x9 * x0) + (x10 * x1)) + (x11 * x2))) (k1 := (((x9 * x3) + (x10 * x4)) + (x11 * x5))) (k2 := (((x9 * x6) + (x10 * x7)) + (x11 * x8))) h0 h1 h2 h3 h4 h5 h6 h7 h8 h9 h10 h11 (by decide) rfl rfl rfl) rfl ?_
  simp only [HH, gW, gD]
  have m415 : Num 5400000002 (cr (((x9 * x6) + (x10 * x7)) + (x11 * x8))) (((x9 * x6) + (x10 * x7)) + (x11 * x8)) := Num.of (Sm.add (Sm.add (Sm.mul h9.sm h6.sm) (Sm.mul h10.sm h7.sm)) (Sm.mul h11.sm h8.sm))
  refine call_step (n_penumbraref03_Sign (m415.mono (by decide))) rfl ?_
  simp only [HH, gW, gD]
  refine primS (.bool false) (cs_eql_f (fun z => c0 ((sg_eq Y0).1 z))) ?_
  refine itF rfl ?_
  have m416 : Num 5400000002 (cr (((x9 * x0) + (x10 * x1)) + (x11 * x2))) (((x9 * x0) + (x10 * x1)) + (x11 * x2)) := Num.of (Sm.add (Sm.add (Sm.mul h9.sm h0.sm) (Sm.mul h10.sm h1.sm)) (Sm.mul h11.sm h2.sm))
  refine call_step (n_penumbraref03_Over (k0 := ((((x9 * x0) + (x10 * x1)) + (x11 * x2)) / (((x9 * x6) + (x10 * x7)) + (x11 * x8)))) (m416.mono (by decide)) (m415.mono (by decide)) rfl) rfl ?_
  simp only [HH, gW, gD]
  have m417 : Num 5400000002 (cr (((x9 * x3) + (x10 * x4)) + (x11 * x5))) (((x9 * x3) + (x10 * x4)) + (x11 * x5)) := Num.of (Sm.add (Sm.add (Sm.mul h9.sm h3.sm) (Sm.mul h10.sm h4.sm)) (Sm.mul h11.sm h5.sm))
  refine call_step (n_penumbraref03_Over (k0 := ((((x9 * x3) + (x10 * x4)) + (x11 * x5)) / (((x9 * x6) + (x10 * x7)) + (x11 * x8)))) (m417.mono (by decide)) (m415.mono (by decide)) rfl) rfl ?_
  simp only [HH, gW, gD]
  exact ret_step rfl

theorem n_penumbraref14_Density_0 {Z1 Z2 : Rat} (Y1 : Z1 = (1 : Rat)) (Y2 : Z2 = (2 : Rat)) {r0 : RR} {x0 : Rat} {k0 : Rat} (h0 : Num 9000000000 r0 x0) (e0 : k0 = (Z1 / (Z2 * ((Z1 + (x0).abs) * (Z1 + (x0).abs)))))  : PureCalls prog F.penumbraref14_Density [.agg (gW [r0])] [.agg (gD [k0])] := by
  subst e0
  refine symFunc_sound hmix tree_penumbraref14_Density (by kernel_rfl) rfl ?_
  unfold ir_penumbraref14_Density
  simp only [HH, gW, gD]
  refine call_step (n_penumbraref03_One Y1) rfl ?_
  simp only [HH, gW, gD]
  refine call_step (n_penumbraref03_Abs_o (k0 := (x0).abs) (h0.mono (by decide)) rfl) rfl ?_
  simp only [HH, gW, gD]
  have m424 : Num 1 (cr Z1) Z1 := Num.c Y1 (by decide +kernel) (by decide +kernel)
  have m425 : Num 9000000000 (cr (x0).abs) (x0).abs := Num.of (Sm.abs h0.sm)
  refine call_step (n_penumbraref03_Add (k0 := (Z1 + (x0).abs)) (m424.mono (by decide)) (m425.mono (by decide)) rfl) rfl ?_
  simp only [HH, gW, gD]
  refine call_step (n_penumbraref03_One Y1) rfl ?_
  simp only [HH, gW, gD]
  refine call_step (n_penumbraref03_Of (2) (1) (by decide) (by decide) (by decide) (by decide) (Y2.trans (by decide +kernel))) rfl ?_
  simp only [HH, gW, gD]
  have m426 : Num 9000000002 (cr (Z1 + (x0).abs)) (Z1 + (x0).abs) := Num.of (Sm.add m424.sm m425.sm)
  refine call_step (n_penumbraref03_Mul (k0 := ((Z1 + (x0).abs) * (Z1 + (x0).abs))) (m426.mono (by decide)) (m426.mono (by decide)) rfl) rfl ?_
  simp only [HH, gW, gD]
  have m427 : Num 1 (cr Z2) Z2 := Num.c Y2 (by decide +kernel) (by decide +kernel)
  have m428 : Num 18000000004 (cr ((Z1 + (x0).abs) * (Z1 + (x0).abs))) ((Z1 + (x0).abs) * (Z1 + (x0).abs)) := Num.of (Sm.mul m426.sm m426.sm)
  refine call_step (n_penumbraref03_Mul (k0 := (Z2 * ((Z1 + (x0).abs) * (Z1 + (x0).abs)))) (m427.mono (by decide)) (m428.mono (by decide)) rfl) rfl ?_
  simp only [HH, gW, gD]
  have m429 : Num 18000000005 (cr (Z2 * ((Z1 + (x0).abs) * (Z1 + (x0).abs)))) (Z2 * ((Z1 + (x0).abs) * (Z1 + (x0).abs))) := Num.of (Sm.mul m427.sm m428.sm)
  refine call_step (n_penumbraref03_Over (k0 := (Z1 / (Z2 * ((Z1 + (x0).abs) * (Z1 + (x0).abs))))) (m424.mono (by decide)) (m429.mono (by decide)) rfl) rfl ?_
  simp only [HH, gW, gD]
  exact ret_step rfl

theorem n_penumbraref14_Density {r0 : RR} {x0 k0 : Rat} (h0 : Num 9000000000 r0 x0) (e : k0 = dns x0) : PureCalls prog F.penumbraref14_Density [.agg (gW [r0])] [.agg (gD [k0])] := by
  obtain ⟨Z1, Y1⟩ := ex_eq (1 : Rat)
  obtain ⟨Z2, Y2⟩ := ex_eq (2 : Rat)
  exact n_penumbraref14_Density_0 Y1 Y2 h0 (e.trans (dns_eq2 Y2 Y1))

theorem n_penumbraref16_three_0  {r0 : RR} {x0 : Rat} {k0 : Rat} (h0 : Num 9000000000 r0 x0) (e0 : k0 = (x0 * (x0 * x0)))  : PureCalls prog F.penumbraref16_three [.agg (gW [r0])] [.agg (gD [k0])] := by
  subst e0
  refine symFunc_sound hmix tree_penumbraref16_three (by kernel_rfl) rfl ?_
  unfold ir_penumbraref16_three
  simp only [HH, gW, gD]
  refine call_step (n_penumbraref03_Mul (k0 := (x0 * x0)) (h0.mono (by decide)) (h0.mono (by decide)) rfl) rfl ?_
  simp only [HH, gW, gD]
  have m431 : Num 18000000000 (cr (x0 * x0)) (x0 * x0) := Num.of (Sm.mul h0.sm h0.sm)
  refine call_step (n_penumbraref03_Mul (k0 := (x0 * (x0 * x0))) (h0.mono (by decide)) (m431.mono (by decide)) rfl) rfl ?_
  simp only [HH, gW, gD]
  exact ret_step rfl

theorem n_ref06s_0 {Zm2 Z0 Z1 : Rat} (Ym2 : Zm2 = (-2 : Rat)) (Y0 : Z0 = (0 : Rat)) (Y1 : Z1 = (1 : Rat)) {r0 r1 r2 : RR} {x0 x1 x2 : Rat} {k0 k1 : Rat} (h0 : Num 900000000 r0 x0) (h1 : Num 900000000 r1 x1) (h2 : Num 900000000 r2 x2) (e0 : k0 = (((x0 * x0) + (x1 * x1)) + (x2 * x2))) (e1 : k1 = ((((Z0 - x0) * (Z0 - x0)) + ((Z0 - x1) * (Z0 - x1))) + ((Z1 - x2) * (Z1 - x2)))) (c0 : k0 = Z1) (c1 : k1 = Z0) : PureCalls prog F.penumbraref06_Of [.agg (gW [r0, r1, r2])] [.agg (gD [Z1, Z0, Z0, Z0, Z1, Z0, Z0, Z0, Z1]), .one (.bool true)] := by
  subst e0 e1
  exact n_penumbraref06_Of_0 Y0 Y1 h0 h1 h2 rfl rfl rfl rfl c0 (sq3_0 Y0 c1) (sq3_1 Y0 c1) (sq3_2 Y0 c1)

theorem n_ref06s_1 {Zm2 Z0 Z1 : Rat} (Ym2 : Zm2 = (-2 : Rat)) (Y0 : Z0 = (0 : Rat)) (Y1 : Z1 = (1 : Rat)) {r0 r1 r2 : RR} {x0 x1 x2 : Rat} {k0 k1 k2 k3 k4 k5 k6 k7 k8 : Rat} (h0 : Num 900000000 r0 x0) (h1 : Num 900000000 r1 x1) (h2 : Num 900000000 r2 x2) (e0 : k0 = (((x0 * x0) + (x1 * x1)) + (x2 * x2))) (e1 : k1 = ((((Z0 - x0) * (Z0 - x0)) + ((Z0 - x1) * (Z0 - x1))) + ((Z1 - x2) * (Z1 - x2)))) (e2 : k2 = (Zm2 / k1)) (e3 : k3 = (Z1 + ((k2 * (Z0 - x0)) * (Z0 - x0)))) (e4 : k4 = (Z0 + ((k2 * (Z0 - x0)) * (Z0 - x1)))) (e5 : k5 = (Z0 + ((k2 * (Z0 - x0)) * (Z1 - x2)))) (e6 : k6 = (Z0 + ((k2 * (Z0 - x1)) * (Z0 - x0)))) (e7 : k7 = (Z1 + ((k2 * (Z0 - x1)) * (Z0 - x1)))) (e8 : k8 = (Z0 + ((k2 * (Z0 - x1)) * (Z1 - x2)))) (c0 : k0 = Z1) (c1 : ¬k1 = Z0) : PureCalls prog F.penumbraref06_Of [.agg (gW [r0, r1, r2])] [.agg (gD [k3, k4, k5, k6, k7, k8, x0, x1, x2]), .one (.bool true)] := by
  subst e0 e1 e2 e3 e4 e5 e6 e7 e8
  obtain ⟨Z2, Y2⟩ := ex_eq (2 : Rat)
  have f : ∀ (s a b W : Rat), s - ((Z2 * a) / W) * b = s + ((Zm2 / W) * a) * b := fun s a b W => by rw [Y2, Ym2, Rat.div_def, Rat.div_def]; grind
  by_cases a0 : (Z0 - x0) = Z0
  · by_cases a1 : (Z0 - x1) = Z0
    · by_cases a2 : (Z1 - x2) = Z0
      · exact absurd (by rw [a0, a1, a2, Y0]; grind) c1
      · have k := n_penumbraref06_Of_1 Y0 Y1 Y2 h0 h1 h2 rfl rfl rfl rfl rfl rfl rfl rfl rfl rfl rfl rfl c0 a0 a1 a2
        simp only [f] at k
        exact k
    · have k := n_penumbraref06_Of_2 Y0 Y1 Y2 h0 h1 h2 rfl rfl rfl rfl rfl rfl rfl rfl rfl rfl rfl rfl c0 a0 a1
      simp only [f] at k
      exact k
  · have k := n_penumbraref06_Of_3 Y0 Y1 Y2 h0 h1 h2 rfl rfl rfl rfl rfl rfl rfl rfl rfl rfl rfl rfl c0 a0
    simp only [f] at k
    exact k

end Go.Px.Na

/- XDensTurned: the trees of functions and their contracts, as programs of mine printed them. -/
import Derived.Test.YtgnhhdgepnfnmaaLs
import Derived.Test.YtgnhhdgepnfnmaaPx24
import Derived.Test.YtgnhhdgepnfnmaaProg
import Derived.Tactics
set_option maxRecDepth 20000
set_option maxHeartbeats 40000000
set_option linter.unusedVariables false
set_option linter.unusedSimpArgs false
namespace Go.Px
open Go.RowKit
def ir_affine_Identity : IR :=
 .call F.vec_Of [.one (.int .i64 (1)), .one (.int .i64 (0)), .one (.int .i64 (0))] [.agg 9] <|
 .call F.vec_Of [.one (.int .i64 (0)), .one (.int .i64 (1)), .one (.int .i64 (0))] [.agg 9] <|
 .call F.vec_Of [.one (.int .i64 (0)), .one (.int .i64 (0)), .one (.int .i64 (1))] [.agg 9] <|
 .call F.vec_Of [.one (.int .i64 (0)), .one (.int .i64 (0)), .one (.int .i64 (0))] [.agg 9] <|
 .ret [.agg [.var 0, .var 1, .var 2, .var 3, .var 4, .var 5, .var 6, .var 7, .var 8, .var 9, .var 10, .var 11, .var 12, .var 13, .var 14, .var 15, .var 16, .var 17, .var 18, .var 19, .var 20, .var 21, .var 22, .var 23, .var 24, .var 25, .var 26, .var 27, .var 28, .var 29, .var 30, .var 31, .var 32, .var 33, .var 34, .var 35]]

def ir_vec_Dot : IR :=
 .prim (.mk 2) [.var 0, .var 1, .var 2, .var 9, .var 10, .var 11] <|
 .call F.rat_Product [.one (.var 18)] [.agg 3] <|
 .prim (.mk 2) [.var 3, .var 4, .var 5, .var 12, .var 13, .var 14] <|
 .call F.rat_Product [.one (.var 22)] [.agg 3] <|
 .prim (.mk 2) [.var 6, .var 7, .var 8, .var 15, .var 16, .var 17] <|
 .call F.rat_Product [.one (.var 26)] [.agg 3] <|
 .prim (.mk 3) [.var 19, .var 20, .var 21, .var 23, .var 24, .var 25, .var 27, .var 28, .var 29] <|
 .call F.rat_Sum [.one (.var 30)] [.agg 3] <|
 .ret [.agg [.var 31, .var 32, .var 33]]

def ir_vec_Scale : IR :=
 .prim (.mk 2) [.var 0, .var 1, .var 2, .var 3, .var 4, .var 5] <|
 .call F.rat_Product [.one (.var 12)] [.agg 3] <|
 .prim (.mk 2) [.var 0, .var 1, .var 2, .var 6, .var 7, .var 8] <|
 .call F.rat_Product [.one (.var 16)] [.agg 3] <|
 .prim (.mk 2) [.var 0, .var 1, .var 2, .var 9, .var 10, .var 11] <|
 .call F.rat_Product [.one (.var 20)] [.agg 3] <|
 .ret [.agg [.var 13, .var 14, .var 15, .var 17, .var 18, .var 19, .var 21, .var 22, .var 23]]

def ir_affine_Stretch : IR :=
 .call F.rat_Of [.one (.int .i64 (1)), .one (.int .i64 (1))] [.agg 3] <|
 .call F.rat_Sub [.agg [.var 18, .var 19, .var 20], .agg [.var 21, .var 22, .var 23]] [.agg 3] <|
 .call F.affine_Identity [] [.agg 36] <|
 .prim (.mk 2) [.var 24, .var 25, .var 26, .var 9, .var 10, .var 11] <|
 .call F.rat_Product [.one (.var 63)] [.agg 3] <|
 .call F.vec_Scale [.agg [.var 64, .var 65, .var 66], .agg [.var 9, .var 10, .var 11, .var 12, .var 13, .var 14, .var 15, .var 16, .var 17]] [.agg 9] <|
 .prim (.mk 2) [.var 27, .var 28, .var 29, .var 30, .var 31, .var 32, .var 33, .var 34, .var 35, .var 67, .var 68, .var 69, .var 70, .var 71, .var 72, .var 73, .var 74, .var 75] <|
 .call F.vec_Sum [.one (.var 76)] [.agg 9] <|
 .prim (.mk 2) [.var 24, .var 25, .var 26, .var 12, .var 13, .var 14] <|
 .call F.rat_Product [.one (.var 86)] [.agg 3] <|
 .call F.vec_Scale [.agg [.var 87, .var 88, .var 89], .agg [.var 9, .var 10, .var 11, .var 12, .var 13, .var 14, .var 15, .var 16, .var 17]] [.agg 9] <|
 .prim (.mk 2) [.var 36, .var 37, .var 38, .var 39, .var 40, .var 41, .var 42, .var 43, .var 44, .var 90, .var 91, .var 92, .var 93, .var 94, .var 95, .var 96, .var 97, .var 98] <|
 .call F.vec_Sum [.one (.var 99)] [.agg 9] <|
 .prim (.mk 2) [.var 24, .var 25, .var 26, .var 15, .var 16, .var 17] <|
 .call F.rat_Product [.one (.var 109)] [.agg 3] <|
 .call F.vec_Scale [.agg [.var 110, .var 111, .var 112], .agg [.var 9, .var 10, .var 11, .var 12, .var 13, .var 14, .var 15, .var 16, .var 17]] [.agg 9] <|
 .prim (.mk 2) [.var 45, .var 46, .var 47, .var 48, .var 49, .var 50, .var 51, .var 52, .var 53, .var 113, .var 114, .var 115, .var 116, .var 117, .var 118, .var 119, .var 120, .var 121] <|
 .call F.vec_Sum [.one (.var 122)] [.agg 9] <|
 .call F.vec_Dot [.agg [.var 0, .var 1, .var 2, .var 3, .var 4, .var 5, .var 6, .var 7, .var 8], .agg [.var 9, .var 10, .var 11, .var 12, .var 13, .var 14, .var 15, .var 16, .var 17]] [.agg 3] <|
 .prim (.mk 2) [.var 24, .var 25, .var 26, .var 132, .var 133, .var 134] <|
 .call F.rat_Product [.one (.var 135)] [.agg 3] <|
 .call F.rat_Neg [.agg [.var 136, .var 137, .var 138]] [.agg 3] <|
 .call F.vec_Scale [.agg [.var 139, .var 140, .var 141], .agg [.var 9, .var 10, .var 11, .var 12, .var 13, .var 14, .var 15, .var 16, .var 17]] [.agg 9] <|
 .ret [.agg [.var 77, .var 78, .var 79, .var 80, .var 81, .var 82, .var 83, .var 84, .var 85, .var 100, .var 101, .var 102, .var 103, .var 104, .var 105, .var 106, .var 107, .var 108, .var 123, .var 124, .var 125, .var 126, .var 127, .var 128, .var 129, .var 130, .var 131, .var 142, .var 143, .var 144, .var 145, .var 146, .var 147, .var 148, .var 149, .var 150]]

def ir_affine_columns : IR :=
 .ret [.agg [.var 0, .var 1, .var 2, .var 9, .var 10, .var 11, .var 18, .var 19, .var 20, .var 3, .var 4, .var 5, .var 12, .var 13, .var 14, .var 21, .var 22, .var 23, .var 6, .var 7, .var 8, .var 15, .var 16, .var 17, .var 24, .var 25, .var 26]]

def ir_affine_Then_1 : IR :=
 .call F.vec_Dot [.agg [.var 0, .var 1, .var 2, .var 3, .var 4, .var 5, .var 6, .var 7, .var 8], .agg [.var 9, .var 10, .var 11, .var 12, .var 13, .var 14, .var 15, .var 16, .var 17]] [.agg 3] <|
 .call F.vec_Dot [.agg [.var 0, .var 1, .var 2, .var 3, .var 4, .var 5, .var 6, .var 7, .var 8], .agg [.var 18, .var 19, .var 20, .var 21, .var 22, .var 23, .var 24, .var 25, .var 26]] [.agg 3] <|
 .call F.vec_Dot [.agg [.var 0, .var 1, .var 2, .var 3, .var 4, .var 5, .var 6, .var 7, .var 8], .agg [.var 27, .var 28, .var 29, .var 30, .var 31, .var 32, .var 33, .var 34, .var 35]] [.agg 3] <|
 .ret [.agg [.var 36, .var 37, .var 38, .var 39, .var 40, .var 41, .var 42, .var 43, .var 44]]

def ir_affine_Turn : IR :=
 .call F.vec_Dot [.agg [.var 0, .var 1, .var 2, .var 3, .var 4, .var 5, .var 6, .var 7, .var 8], .agg [.var 36, .var 37, .var 38, .var 39, .var 40, .var 41, .var 42, .var 43, .var 44]] [.agg 3] <|
 .call F.vec_Dot [.agg [.var 9, .var 10, .var 11, .var 12, .var 13, .var 14, .var 15, .var 16, .var 17], .agg [.var 36, .var 37, .var 38, .var 39, .var 40, .var 41, .var 42, .var 43, .var 44]] [.agg 3] <|
 .call F.vec_Dot [.agg [.var 18, .var 19, .var 20, .var 21, .var 22, .var 23, .var 24, .var 25, .var 26], .agg [.var 36, .var 37, .var 38, .var 39, .var 40, .var 41, .var 42, .var 43, .var 44]] [.agg 3] <|
 .ret [.agg [.var 45, .var 46, .var 47, .var 48, .var 49, .var 50, .var 51, .var 52, .var 53]]

def ir_affine_Apply : IR :=
 .call F.affine_Turn [.agg [.var 0, .var 1, .var 2, .var 3, .var 4, .var 5, .var 6, .var 7, .var 8, .var 9, .var 10, .var 11, .var 12, .var 13, .var 14, .var 15, .var 16, .var 17, .var 18, .var 19, .var 20, .var 21, .var 22, .var 23, .var 24, .var 25, .var 26, .var 27, .var 28, .var 29, .var 30, .var 31, .var 32, .var 33, .var 34, .var 35], .agg [.var 36, .var 37, .var 38, .var 39, .var 40, .var 41, .var 42, .var 43, .var 44]] [.agg 9] <|
 .prim (.mk 2) [.var 45, .var 46, .var 47, .var 48, .var 49, .var 50, .var 51, .var 52, .var 53, .var 27, .var 28, .var 29, .var 30, .var 31, .var 32, .var 33, .var 34, .var 35] <|
 .call F.vec_Sum [.one (.var 54)] [.agg 9] <|
 .ret [.agg [.var 55, .var 56, .var 57, .var 58, .var 59, .var 60, .var 61, .var 62, .var 63]]

def ir_affine_Then : IR :=
 .call F.affine_columns [.agg [.var 0, .var 1, .var 2, .var 3, .var 4, .var 5, .var 6, .var 7, .var 8, .var 9, .var 10, .var 11, .var 12, .var 13, .var 14, .var 15, .var 16, .var 17, .var 18, .var 19, .var 20, .var 21, .var 22, .var 23, .var 24, .var 25, .var 26, .var 27, .var 28, .var 29, .var 30, .var 31, .var 32, .var 33, .var 34, .var 35]] [.agg 27] <|
 .call F.affine_Then_1 [.agg [.var 36, .var 37, .var 38, .var 39, .var 40, .var 41, .var 42, .var 43, .var 44], .ref [.var 72, .var 73, .var 74, .var 75, .var 76, .var 77, .var 78, .var 79, .var 80, .var 81, .var 82, .var 83, .var 84, .var 85, .var 86, .var 87, .var 88, .var 89, .var 90, .var 91, .var 92, .var 93, .var 94, .var 95, .var 96, .var 97, .var 98]] [.agg 9] <|
 .call F.affine_Then_1 [.agg [.var 45, .var 46, .var 47, .var 48, .var 49, .var 50, .var 51, .var 52, .var 53], .ref [.var 72, .var 73, .var 74, .var 75, .var 76, .var 77, .var 78, .var 79, .var 80, .var 81, .var 82, .var 83, .var 84, .var 85, .var 86, .var 87, .var 88, .var 89, .var 90, .var 91, .var 92, .var 93, .var 94, .var 95, .var 96, .var 97, .var 98]] [.agg 9] <|
 .call F.affine_Then_1 [.agg [.var 54, .var 55, .var 56, .var 57, .var 58, .var 59, .var 60, .var 61, .var 62], .ref [.var 72, .var 73, .var 74, .var 75, .var 76, .var 77, .var 78, .var 79, .var 80, .var 81, .var 82, .var 83, .var 84, .var 85, .var 86, .var 87, .var 88, .var 89, .var 90, .var 91, .var 92, .var 93, .var 94, .var 95, .var 96, .var 97, .var 98]] [.agg 9] <|
 .call F.affine_Apply [.agg [.var 36, .var 37, .var 38, .var 39, .var 40, .var 41, .var 42, .var 43, .var 44, .var 45, .var 46, .var 47, .var 48, .var 49, .var 50, .var 51, .var 52, .var 53, .var 54, .var 55, .var 56, .var 57, .var 58, .var 59, .var 60, .var 61, .var 62, .var 63, .var 64, .var 65, .var 66, .var 67, .var 68, .var 69, .var 70, .var 71], .agg [.var 27, .var 28, .var 29, .var 30, .var 31, .var 32, .var 33, .var 34, .var 35]] [.agg 9] <|
 .ret [.agg [.var 99, .var 100, .var 101, .var 102, .var 103, .var 104, .var 105, .var 106, .var 107, .var 108, .var 109, .var 110, .var 111, .var 112, .var 113, .var 114, .var 115, .var 116, .var 117, .var 118, .var 119, .var 120, .var 121, .var 122, .var 123, .var 124, .var 125, .var 126, .var 127, .var 128, .var 129, .var 130, .var 131, .var 132, .var 133, .var 134]]

def ir_penumbralaw16_mirrors : IR :=
 .call F.affine_Identity [] [.agg 36] <|
 .loop [.var 0, .int .i64 (0), .var 1, .var 2, .var 3, .var 4, .var 5, .var 6, .var 7, .var 8, .var 9, .var 10, .var 11, .var 12, .var 13, .var 14, .var 15, .var 16, .var 17, .var 18, .var 19, .var 20, .var 21, .var 22, .var 23, .var 24, .var 25, .var 26, .var 27, .var 28, .var 29, .var 30, .var 31, .var 32, .var 33, .var 34, .var 35, .var 36] (
  .prim .len [.var 0] <|
  .prim (.bin .lss) [.var 1, .var 38] <|
  .ite (.var 39) (
   .prim (.bin .lss) [.var 1, .int .i64 (4)] <|
   .ite (.var 40) (
    .prim (.inb 18) [.var 0, .var 1] <|
    .prim (.get 18 9) [.var 0, .var 1] <|
    .prim (.get 18 10) [.var 0, .var 1] <|
    .prim (.get 18 11) [.var 0, .var 1] <|
    .prim (.get 18 12) [.var 0, .var 1] <|
    .prim (.get 18 13) [.var 0, .var 1] <|
    .prim (.get 18 14) [.var 0, .var 1] <|
    .prim (.get 18 15) [.var 0, .var 1] <|
    .prim (.get 18 16) [.var 0, .var 1] <|
    .prim (.get 18 17) [.var 0, .var 1] <|
    .prim (.inb 18) [.var 0, .var 1] <|
    .prim (.get 18 9) [.var 0, .var 1] <|
    .prim (.get 18 10) [.var 0, .var 1] <|
    .prim (.get 18 11) [.var 0, .var 1] <|
    .prim (.get 18 12) [.var 0, .var 1] <|
    .prim (.get 18 13) [.var 0, .var 1] <|
    .prim (.get 18 14) [.var 0, .var 1] <|
    .prim (.get 18 15) [.var 0, .var 1] <|
    .prim (.get 18 16) [.var 0, .var 1] <|
    .prim (.get 18 17) [.var 0, .var 1] <|
    .call F.vec_Dot [.agg [.var 42, .var 43, .var 44, .var 45, .var 46, .var 47, .var 48, .var 49, .var 50], .agg [.var 52, .var 53, .var 54, .var 55, .var 56, .var 57, .var 58, .var 59, .var 60]] [.agg 3] <|
    .call F.rat_Of [.one (.int .i64 (1)), .one (.int .i64 (1))] [.agg 3] <|
    .call F.rat_Same [.agg [.var 61, .var 62, .var 63], .agg [.var 64, .var 65, .var 66]] [.one] <|
    .ite (.var 67) (
     .prim (.inb 18) [.var 0, .var 1] <|
     .prim (.get 18 0) [.var 0, .var 1] <|
     .prim (.get 18 1) [.var 0, .var 1] <|
     .prim (.get 18 2) [.var 0, .var 1] <|
     .prim (.get 18 3) [.var 0, .var 1] <|
     .prim (.get 18 4) [.var 0, .var 1] <|
     .prim (.get 18 5) [.var 0, .var 1] <|
     .prim (.get 18 6) [.var 0, .var 1] <|
     .prim (.get 18 7) [.var 0, .var 1] <|
     .prim (.get 18 8) [.var 0, .var 1] <|
     .prim (.inb 18) [.var 0, .var 1] <|
     .prim (.get 18 9) [.var 0, .var 1] <|
     .prim (.get 18 10) [.var 0, .var 1] <|
     .prim (.get 18 11) [.var 0, .var 1] <|
     .prim (.get 18 12) [.var 0, .var 1] <|
     .prim (.get 18 13) [.var 0, .var 1] <|
     .prim (.get 18 14) [.var 0, .var 1] <|
     .prim (.get 18 15) [.var 0, .var 1] <|
     .prim (.get 18 16) [.var 0, .var 1] <|
     .prim (.get 18 17) [.var 0, .var 1] <|
     .call F.rat_Of [.one (.int .i64 (-1)), .one (.int .i64 (1))] [.agg 3] <|
     .call F.affine_Stretch [.agg [.var 69, .var 70, .var 71, .var 72, .var 73, .var 74, .var 75, .var 76, .var 77], .agg [.var 79, .var 80, .var 81, .var 82, .var 83, .var 84, .var 85, .var 86, .var 87], .agg [.var 88, .var 89, .var 90]] [.agg 36] <|
     .call F.affine_Then [.agg [.var 91, .var 92, .var 93, .var 94, .var 95, .var 96, .var 97, .var 98, .var 99, .var 100, .var 101, .var 102, .var 103, .var 104, .var 105, .var 106, .var 107, .var 108, .var 109, .var 110, .var 111, .var 112, .var 113, .var 114, .var 115, .var 116, .var 117, .var 118, .var 119, .var 120, .var 121, .var 122, .var 123, .var 124, .var 125, .var 126], .agg [.var 2, .var 3, .var 4, .var 5, .var 6, .var 7, .var 8, .var 9, .var 10, .var 11, .var 12, .var 13, .var 14, .var 15, .var 16, .var 17, .var 18, .var 19, .var 20, .var 21, .var 22, .var 23, .var 24, .var 25, .var 26, .var 27, .var 28, .var 29, .var 30, .var 31, .var 32, .var 33, .var 34, .var 35, .var 36, .var 37]] [.agg 36] <|
     .prim (.bin .add) [.var 1, .int .i64 (1)] <|
     .jump 0 [.var 0, .var 163, .var 127, .var 128, .var 129, .var 130, .var 131, .var 132, .var 133, .var 134, .var 135, .var 136, .var 137, .var 138, .var 139, .var 140, .var 141, .var 142, .var 143, .var 144, .var 145, .var 146, .var 147, .var 148, .var 149, .var 150, .var 151, .var 152, .var 153, .var 154, .var 155, .var 156, .var 157, .var 158, .var 159, .var 160, .var 161, .var 162]) (
     .prim (.bin .add) [.var 1, .int .i64 (1)] <|
     .jump 0 [.var 0, .var 68, .var 2, .var 3, .var 4, .var 5, .var 6, .var 7, .var 8, .var 9, .var 10, .var 11, .var 12, .var 13, .var 14, .var 15, .var 16, .var 17, .var 18, .var 19, .var 20, .var 21, .var 22, .var 23, .var 24, .var 25, .var 26, .var 27, .var 28, .var 29, .var 30, .var 31, .var 32, .var 33, .var 34, .var 35, .var 36, .var 37])) (
    .ret [.agg [.var 2, .var 3, .var 4, .var 5, .var 6, .var 7, .var 8, .var 9, .var 10, .var 11, .var 12, .var 13, .var 14, .var 15, .var 16, .var 17, .var 18, .var 19, .var 20, .var 21, .var 22, .var 23, .var 24, .var 25, .var 26, .var 27, .var 28, .var 29, .var 30, .var 31, .var 32, .var 33, .var 34, .var 35, .var 36, .var 37]])) (
   .ret [.agg [.var 2, .var 3, .var 4, .var 5, .var 6, .var 7, .var 8, .var 9, .var 10, .var 11, .var 12, .var 13, .var 14, .var 15, .var 16, .var 17, .var 18, .var 19, .var 20, .var 21, .var 22, .var 23, .var 24, .var 25, .var 26, .var 27, .var 28, .var 29, .var 30, .var 31, .var 32, .var 33, .var 34, .var 35, .var 36, .var 37]]))

def ir_vec_minor : IR :=
 .prim (.mk 2) [.var 0, .var 1, .var 2, .var 9, .var 10, .var 11] <|
 .call F.rat_Product [.one (.var 12)] [.agg 3] <|
 .prim (.mk 2) [.var 3, .var 4, .var 5, .var 6, .var 7, .var 8] <|
 .call F.rat_Product [.one (.var 16)] [.agg 3] <|
 .call F.rat_Sub [.agg [.var 13, .var 14, .var 15], .agg [.var 17, .var 18, .var 19]] [.agg 3] <|
 .ret [.agg [.var 20, .var 21, .var 22]]

def ir_vec_Cross : IR :=
 .call F.vec_minor [.agg [.var 3, .var 4, .var 5], .agg [.var 6, .var 7, .var 8], .agg [.var 12, .var 13, .var 14], .agg [.var 15, .var 16, .var 17]] [.agg 3] <|
 .call F.vec_minor [.agg [.var 6, .var 7, .var 8], .agg [.var 0, .var 1, .var 2], .agg [.var 15, .var 16, .var 17], .agg [.var 9, .var 10, .var 11]] [.agg 3] <|
 .call F.vec_minor [.agg [.var 0, .var 1, .var 2], .agg [.var 3, .var 4, .var 5], .agg [.var 9, .var 10, .var 11], .agg [.var 12, .var 13, .var 14]] [.agg 3] <|
 .ret [.agg [.var 18, .var 19, .var 20, .var 21, .var 22, .var 23, .var 24, .var 25, .var 26]]

def ir_affine_Det : IR :=
 .call F.vec_Cross [.agg [.var 9, .var 10, .var 11, .var 12, .var 13, .var 14, .var 15, .var 16, .var 17], .agg [.var 18, .var 19, .var 20, .var 21, .var 22, .var 23, .var 24, .var 25, .var 26]] [.agg 9] <|
 .call F.vec_Dot [.agg [.var 0, .var 1, .var 2, .var 3, .var 4, .var 5, .var 6, .var 7, .var 8], .agg [.var 36, .var 37, .var 38, .var 39, .var 40, .var 41, .var 42, .var 43, .var 44]] [.agg 3] <|
 .ret [.agg [.var 45, .var 46, .var 47]]

def ir_affine_cofactors : IR :=
 .call F.vec_Cross [.agg [.var 9, .var 10, .var 11, .var 12, .var 13, .var 14, .var 15, .var 16, .var 17], .agg [.var 18, .var 19, .var 20, .var 21, .var 22, .var 23, .var 24, .var 25, .var 26]] [.agg 9] <|
 .call F.vec_Cross [.agg [.var 18, .var 19, .var 20, .var 21, .var 22, .var 23, .var 24, .var 25, .var 26], .agg [.var 0, .var 1, .var 2, .var 3, .var 4, .var 5, .var 6, .var 7, .var 8]] [.agg 9] <|
 .call F.vec_Cross [.agg [.var 0, .var 1, .var 2, .var 3, .var 4, .var 5, .var 6, .var 7, .var 8], .agg [.var 9, .var 10, .var 11, .var 12, .var 13, .var 14, .var 15, .var 16, .var 17]] [.agg 9] <|
 .ret [.agg [.var 36, .var 37, .var 38, .var 39, .var 40, .var 41, .var 42, .var 43, .var 44, .var 45, .var 46, .var 47, .var 48, .var 49, .var 50, .var 51, .var 52, .var 53, .var 54, .var 55, .var 56, .var 57, .var 58, .var 59, .var 60, .var 61, .var 62]]

def ir_affine_Inverse : IR :=
 .call F.rat_Of [.one (.int .i64 (1)), .one (.int .i64 (1))] [.agg 3] <|
 .call F.affine_Det [.agg [.var 0, .var 1, .var 2, .var 3, .var 4, .var 5, .var 6, .var 7, .var 8, .var 9, .var 10, .var 11, .var 12, .var 13, .var 14, .var 15, .var 16, .var 17, .var 18, .var 19, .var 20, .var 21, .var 22, .var 23, .var 24, .var 25, .var 26, .var 27, .var 28, .var 29, .var 30, .var 31, .var 32, .var 33, .var 34, .var 35]] [.agg 3] <|
 .call F.rat_Div [.agg [.var 36, .var 37, .var 38], .agg [.var 39, .var 40, .var 41]] [.agg 3, .one] <|
 .prim .not [.var 45] <|
 .ite (.var 46) (
  .call F.affine_Identity [] [.agg 36] <|
  .ret [.agg [.var 47, .var 48, .var 49, .var 50, .var 51, .var 52, .var 53, .var 54, .var 55, .var 56, .var 57, .var 58, .var 59, .var 60, .var 61, .var 62, .var 63, .var 64, .var 65, .var 66, .var 67, .var 68, .var 69, .var 70, .var 71, .var 72, .var 73, .var 74, .var 75, .var 76, .var 77, .var 78, .var 79, .var 80, .var 81, .var 82], .one (.bol false)]) (
  .call F.affine_cofactors [.agg [.var 0, .var 1, .var 2, .var 3, .var 4, .var 5, .var 6, .var 7, .var 8, .var 9, .var 10, .var 11, .var 12, .var 13, .var 14, .var 15, .var 16, .var 17, .var 18, .var 19, .var 20, .var 21, .var 22, .var 23, .var 24, .var 25, .var 26, .var 27, .var 28, .var 29, .var 30, .var 31, .var 32, .var 33, .var 34, .var 35]] [.agg 27] <|
  .call F.vec_Scale [.agg [.var 42, .var 43, .var 44], .agg [.var 47, .var 48, .var 49, .var 50, .var 51, .var 52, .var 53, .var 54, .var 55]] [.agg 9] <|
  .call F.vec_Scale [.agg [.var 42, .var 43, .var 44], .agg [.var 56, .var 57, .var 58, .var 59, .var 60, .var 61, .var 62, .var 63, .var 64]] [.agg 9] <|
  .call F.vec_Scale [.agg [.var 42, .var 43, .var 44], .agg [.var 65, .var 66, .var 67, .var 68, .var 69, .var 70, .var 71, .var 72, .var 73]] [.agg 9] <|
  .call F.rat_Of [.one (.int .i64 (-1)), .one (.int .i64 (1))] [.agg 3] <|
  .call F.affine_Turn [.agg [.var 74, .var 75, .var 76, .var 83, .var 84, .var 85, .var 92, .var 93, .var 94, .var 77, .var 78, .var 79, .var 86, .var 87, .var 88, .var 95, .var 96, .var 97, .var 80, .var 81, .var 82, .var 89, .var 90, .var 91, .var 98, .var 99, .var 100, .bol false, .nil, .nil, .bol false, .nil, .nil, .bol false, .nil, .nil], .agg [.var 27, .var 28, .var 29, .var 30, .var 31, .var 32, .var 33, .var 34, .var 35]] [.agg 9] <|
  .call F.vec_Scale [.agg [.var 101, .var 102, .var 103], .agg [.var 104, .var 105, .var 106, .var 107, .var 108, .var 109, .var 110, .var 111, .var 112]] [.agg 9] <|
  .ret [.agg [.var 74, .var 75, .var 76, .var 83, .var 84, .var 85, .var 92, .var 93, .var 94, .var 77, .var 78, .var 79, .var 86, .var 87, .var 88, .var 95, .var 96, .var 97, .var 80, .var 81, .var 82, .var 89, .var 90, .var 91, .var 98, .var 99, .var 100, .var 113, .var 114, .var 115, .var 116, .var 117, .var 118, .var 119, .var 120, .var 121], .one (.bol true)])

def ir_vec_Sub : IR :=
 .call F.rat_Sub [.agg [.var 0, .var 1, .var 2], .agg [.var 9, .var 10, .var 11]] [.agg 3] <|
 .call F.rat_Sub [.agg [.var 3, .var 4, .var 5], .agg [.var 12, .var 13, .var 14]] [.agg 3] <|
 .call F.rat_Sub [.agg [.var 6, .var 7, .var 8], .agg [.var 15, .var 16, .var 17]] [.agg 3] <|
 .ret [.agg [.var 18, .var 19, .var 20, .var 21, .var 22, .var 23, .var 24, .var 25, .var 26]]

def ir_vec_Read : IR :=
 .call F.rat_Read [.agg [.var 0, .var 1, .var 2]] [.agg 3] <|
 .call F.rat_Read [.agg [.var 3, .var 4, .var 5]] [.agg 3] <|
 .call F.rat_Read [.agg [.var 6, .var 7, .var 8]] [.agg 3] <|
 .ret [.agg [.var 9, .var 10, .var 11, .var 12, .var 13, .var 14, .var 15, .var 16, .var 17]]

def ir_frame_Of : IR :=
 .call F.vec_Of [.one (.int .i64 (1)), .one (.int .i64 (0)), .one (.int .i64 (0))] [.agg 9] <|
 .call F.vec_Of [.one (.int .i64 (0)), .one (.int .i64 (1)), .one (.int .i64 (0))] [.agg 9] <|
 .call F.vec_Of [.one (.int .i64 (0)), .one (.int .i64 (0)), .one (.int .i64 (1))] [.agg 9] <|
 .call F.vec_Of [.one (.int .i64 (0)), .one (.int .i64 (0)), .one (.int .i64 (0))] [.agg 9] <|
 .call F.vec_Dot [.agg [.var 0, .var 1, .var 2, .var 3, .var 4, .var 5, .var 6, .var 7, .var 8], .agg [.var 0, .var 1, .var 2, .var 3, .var 4, .var 5, .var 6, .var 7, .var 8]] [.agg 3] <|
 .call F.rat_Of [.one (.int .i64 (1)), .one (.int .i64 (1))] [.agg 3] <|
 .call F.rat_Same [.agg [.var 45, .var 46, .var 47], .agg [.var 48, .var 49, .var 50]] [.one] <|
 .prim .not [.var 51] <|
 .ite (.var 52) (
  .ret [.agg [.var 36, .var 37, .var 38, .var 39, .var 40, .var 41, .var 42, .var 43, .var 44, .var 36, .var 37, .var 38, .var 39, .var 40, .var 41, .var 42, .var 43, .var 44, .var 36, .var 37, .var 38, .var 39, .var 40, .var 41, .var 42, .var 43, .var 44], .one (.bol false)]) (
  .call F.vec_Sub [.agg [.var 27, .var 28, .var 29, .var 30, .var 31, .var 32, .var 33, .var 34, .var 35], .agg [.var 0, .var 1, .var 2, .var 3, .var 4, .var 5, .var 6, .var 7, .var 8]] [.agg 9] <|
  .call F.rat_Of [.one (.int .i64 (-2)), .one (.int .i64 (1))] [.agg 3] <|
  .call F.vec_Dot [.agg [.var 53, .var 54, .var 55, .var 56, .var 57, .var 58, .var 59, .var 60, .var 61], .agg [.var 53, .var 54, .var 55, .var 56, .var 57, .var 58, .var 59, .var 60, .var 61]] [.agg 3] <|
  .call F.rat_Div [.agg [.var 62, .var 63, .var 64], .agg [.var 65, .var 66, .var 67]] [.agg 3, .one] <|
  .prim .not [.var 71] <|
  .ite (.var 72) (
   .ret [.agg [.var 9, .var 10, .var 11, .var 12, .var 13, .var 14, .var 15, .var 16, .var 17, .var 18, .var 19, .var 20, .var 21, .var 22, .var 23, .var 24, .var 25, .var 26, .var 27, .var 28, .var 29, .var 30, .var 31, .var 32, .var 33, .var 34, .var 35], .one (.bol true)]) (
   .prim (.mk 2) [.var 68, .var 69, .var 70, .var 53, .var 54, .var 55] <|
   .call F.rat_Product [.one (.var 73)] [.agg 3] <|
   .call F.vec_Scale [.agg [.var 74, .var 75, .var 76], .agg [.var 53, .var 54, .var 55, .var 56, .var 57, .var 58, .var 59, .var 60, .var 61]] [.agg 9] <|
   .prim (.mk 2) [.var 9, .var 10, .var 11, .var 12, .var 13, .var 14, .var 15, .var 16, .var 17, .var 77, .var 78, .var 79, .var 80, .var 81, .var 82, .var 83, .var 84, .var 85] <|
   .call F.vec_Sum [.one (.var 86)] [.agg 9] <|
   .prim (.mk 2) [.var 68, .var 69, .var 70, .var 56, .var 57, .var 58] <|
   .call F.rat_Product [.one (.var 96)] [.agg 3] <|
   .call F.vec_Scale [.agg [.var 97, .var 98, .var 99], .agg [.var 53, .var 54, .var 55, .var 56, .var 57, .var 58, .var 59, .var 60, .var 61]] [.agg 9] <|
   .prim (.mk 2) [.var 18, .var 19, .var 20, .var 21, .var 22, .var 23, .var 24, .var 25, .var 26, .var 100, .var 101, .var 102, .var 103, .var 104, .var 105, .var 106, .var 107, .var 108] <|
   .call F.vec_Sum [.one (.var 109)] [.agg 9] <|
   .call F.vec_Read [.agg [.var 0, .var 1, .var 2, .var 3, .var 4, .var 5, .var 6, .var 7, .var 8]] [.agg 9] <|
   .ret [.agg [.var 87, .var 88, .var 89, .var 90, .var 91, .var 92, .var 93, .var 94, .var 95, .var 110, .var 111, .var 112, .var 113, .var 114, .var 115, .var 116, .var 117, .var 118, .var 119, .var 120, .var 121, .var 122, .var 123, .var 124, .var 125, .var 126, .var 127], .one (.bol true)]))

def ir_affine_Area : IR :=
 .call F.affine_cofactors [.agg [.var 0, .var 1, .var 2, .var 3, .var 4, .var 5, .var 6, .var 7, .var 8, .var 9, .var 10, .var 11, .var 12, .var 13, .var 14, .var 15, .var 16, .var 17, .var 18, .var 19, .var 20, .var 21, .var 22, .var 23, .var 24, .var 25, .var 26, .var 27, .var 28, .var 29, .var 30, .var 31, .var 32, .var 33, .var 34, .var 35]] [.agg 27] <|
 .call F.vec_Dot [.agg [.var 45, .var 46, .var 47, .var 48, .var 49, .var 50, .var 51, .var 52, .var 53], .agg [.var 36, .var 37, .var 38, .var 39, .var 40, .var 41, .var 42, .var 43, .var 44]] [.agg 3] <|
 .call F.vec_Dot [.agg [.var 54, .var 55, .var 56, .var 57, .var 58, .var 59, .var 60, .var 61, .var 62], .agg [.var 36, .var 37, .var 38, .var 39, .var 40, .var 41, .var 42, .var 43, .var 44]] [.agg 3] <|
 .call F.vec_Dot [.agg [.var 63, .var 64, .var 65, .var 66, .var 67, .var 68, .var 69, .var 70, .var 71], .agg [.var 36, .var 37, .var 38, .var 39, .var 40, .var 41, .var 42, .var 43, .var 44]] [.agg 3] <|
 .ret [.agg [.var 72, .var 73, .var 74, .var 75, .var 76, .var 77, .var 78, .var 79, .var 80]]

def ir_dens_seen : IR :=
 .call F.frame_Of [.agg [.var 9, .var 10, .var 11, .var 12, .var 13, .var 14, .var 15, .var 16, .var 17]] [.agg 27, .one] <|
 .prim .not [.var 99] <|
 .ite (.var 100) (
  .ret [.agg [.bol false, .nil, .nil, .bol false, .nil, .nil, .bol false, .nil, .nil, .bol false, .nil, .nil, .bol false, .nil, .nil, .bol false, .nil, .nil, .bol false, .nil, .nil, .bol false, .nil, .nil, .bol false, .nil, .nil, .bol false, .nil, .nil, .bol false, .nil, .nil, .bol false, .nil, .nil, .bol false, .nil, .nil, .bol false, .nil, .nil], .one (.bol false)]) (
  .call F.vec_Dot [.agg [.var 27, .var 28, .var 29, .var 30, .var 31, .var 32, .var 33, .var 34, .var 35], .agg [.var 27, .var 28, .var 29, .var 30, .var 31, .var 32, .var 33, .var 34, .var 35]] [.agg 3] <|
  .call F.rat_Of [.one (.int .i64 (1)), .one (.int .i64 (1))] [.agg 3] <|
  .call F.rat_Same [.agg [.var 101, .var 102, .var 103], .agg [.var 104, .var 105, .var 106]] [.one] <|
  .prim .not [.var 107] <|
  .ite (.var 108) (
   .ret [.agg [.bol false, .nil, .nil, .bol false, .nil, .nil, .bol false, .nil, .nil, .bol false, .nil, .nil, .bol false, .nil, .nil, .bol false, .nil, .nil, .bol false, .nil, .nil, .bol false, .nil, .nil, .bol false, .nil, .nil, .bol false, .nil, .nil, .bol false, .nil, .nil, .bol false, .nil, .nil, .bol false, .nil, .nil, .bol false, .nil, .nil], .one (.bol false)]) (
   .call F.affine_Apply [.agg [.var 36, .var 37, .var 38, .var 39, .var 40, .var 41, .var 42, .var 43, .var 44, .var 45, .var 46, .var 47, .var 48, .var 49, .var 50, .var 51, .var 52, .var 53, .var 54, .var 55, .var 56, .var 57, .var 58, .var 59, .var 60, .var 61, .var 62, .var 63, .var 64, .var 65, .var 66, .var 67, .var 68, .var 69, .var 70, .var 71], .agg [.var 18, .var 19, .var 20, .var 21, .var 22, .var 23, .var 24, .var 25, .var 26]] [.agg 9] <|
   .call F.vec_Sub [.agg [.var 109, .var 110, .var 111, .var 112, .var 113, .var 114, .var 115, .var 116, .var 117], .agg [.var 0, .var 1, .var 2, .var 3, .var 4, .var 5, .var 6, .var 7, .var 8]] [.agg 9] <|
   .call F.vec_Dot [.agg [.var 118, .var 119, .var 120, .var 121, .var 122, .var 123, .var 124, .var 125, .var 126], .agg [.var 9, .var 10, .var 11, .var 12, .var 13, .var 14, .var 15, .var 16, .var 17]] [.agg 3] <|
   .call F.affine_Area [.agg [.var 36, .var 37, .var 38, .var 39, .var 40, .var 41, .var 42, .var 43, .var 44, .var 45, .var 46, .var 47, .var 48, .var 49, .var 50, .var 51, .var 52, .var 53, .var 54, .var 55, .var 56, .var 57, .var 58, .var 59, .var 60, .var 61, .var 62, .var 63, .var 64, .var 65, .var 66, .var 67, .var 68, .var 69, .var 70, .var 71], .agg [.var 27, .var 28, .var 29, .var 30, .var 31, .var 32, .var 33, .var 34, .var 35]] [.agg 9] <|
   .call F.vec_Dot [.agg [.var 130, .var 131, .var 132, .var 133, .var 134, .var 135, .var 136, .var 137, .var 138], .agg [.var 118, .var 119, .var 120, .var 121, .var 122, .var 123, .var 124, .var 125, .var 126]] [.agg 3] <|
   .call F.rat_Abs [.agg [.var 139, .var 140, .var 141]] [.agg 3] <|
   .call F.rat_Sign [.agg [.var 127, .var 128, .var 129]] [.one] <|
   .prim (.bin .gtr) [.var 145, .int .i64 (0)] <|
   .ite (.var 146) (
    .call F.rat_Sign [.agg [.var 139, .var 140, .var 141]] [.one] <|
    .call F.affine_Det [.agg [.var 36, .var 37, .var 38, .var 39, .var 40, .var 41, .var 42, .var 43, .var 44, .var 45, .var 46, .var 47, .var 48, .var 49, .var 50, .var 51, .var 52, .var 53, .var 54, .var 55, .var 56, .var 57, .var 58, .var 59, .var 60, .var 61, .var 62, .var 63, .var 64, .var 65, .var 66, .var 67, .var 68, .var 69, .var 70, .var 71]] [.agg 3] <|
    .call F.rat_Sign [.agg [.var 148, .var 149, .var 150]] [.one] <|
    .prim (.bin .mul) [.var 147, .var 151] <|
    .prim (.bin .lss) [.var 152, .int .i64 (0)] <|
    .ret [.agg [.var 72, .var 73, .var 74, .var 75, .var 76, .var 77, .var 78, .var 79, .var 80, .var 81, .var 82, .var 83, .var 84, .var 85, .var 86, .var 87, .var 88, .var 89, .var 90, .var 91, .var 92, .var 93, .var 94, .var 95, .var 96, .var 97, .var 98, .var 118, .var 119, .var 120, .var 121, .var 122, .var 123, .var 124, .var 125, .var 126, .var 127, .var 128, .var 129, .var 142, .var 143, .var 144], .one (.var 153)]) (
    .ret [.agg [.var 72, .var 73, .var 74, .var 75, .var 76, .var 77, .var 78, .var 79, .var 80, .var 81, .var 82, .var 83, .var 84, .var 85, .var 86, .var 87, .var 88, .var 89, .var 90, .var 91, .var 92, .var 93, .var 94, .var 95, .var 96, .var 97, .var 98, .var 118, .var 119, .var 120, .var 121, .var 122, .var 123, .var 124, .var 125, .var 126, .var 127, .var 128, .var 129, .var 142, .var 143, .var 144], .one (.bol false)])))

def ir_frame_In : IR :=
 .call F.vec_Dot [.agg [.var 27, .var 28, .var 29, .var 30, .var 31, .var 32, .var 33, .var 34, .var 35], .agg [.var 0, .var 1, .var 2, .var 3, .var 4, .var 5, .var 6, .var 7, .var 8]] [.agg 3] <|
 .call F.vec_Dot [.agg [.var 27, .var 28, .var 29, .var 30, .var 31, .var 32, .var 33, .var 34, .var 35], .agg [.var 9, .var 10, .var 11, .var 12, .var 13, .var 14, .var 15, .var 16, .var 17]] [.agg 3] <|
 .call F.vec_Dot [.agg [.var 27, .var 28, .var 29, .var 30, .var 31, .var 32, .var 33, .var 34, .var 35], .agg [.var 18, .var 19, .var 20, .var 21, .var 22, .var 23, .var 24, .var 25, .var 26]] [.agg 3] <|
 .ret [.agg [.var 36, .var 37, .var 38, .var 39, .var 40, .var 41, .var 42, .var 43, .var 44]]

def ir_frame_Slopes : IR :=
 .call F.frame_In [.agg [.var 0, .var 1, .var 2, .var 3, .var 4, .var 5, .var 6, .var 7, .var 8, .var 9, .var 10, .var 11, .var 12, .var 13, .var 14, .var 15, .var 16, .var 17, .var 18, .var 19, .var 20, .var 21, .var 22, .var 23, .var 24, .var 25, .var 26], .agg [.var 27, .var 28, .var 29, .var 30, .var 31, .var 32, .var 33, .var 34, .var 35]] [.agg 9] <|
 .call F.rat_Div [.agg [.var 36, .var 37, .var 38], .agg [.var 42, .var 43, .var 44]] [.agg 3, .one] <|
 .call F.rat_Div [.agg [.var 39, .var 40, .var 41], .agg [.var 42, .var 43, .var 44]] [.agg 3, .one] <|
 .ret [.agg [.var 45, .var 46, .var 47], .agg [.var 49, .var 50, .var 51], .agg [.var 42, .var 43, .var 44], .one (.var 48)]

def ir_warp_one : IR :=
 .call F.rat_Of [.one (.int .i64 (1)), .one (.int .i64 (1))] [.agg 3] <|
 .ret [.agg [.var 0, .var 1, .var 2]]

def ir_warp_over : IR :=
 .call F.rat_Div [.agg [.var 0, .var 1, .var 2], .agg [.var 3, .var 4, .var 5]] [.agg 3, .one] <|
 .ret [.agg [.var 6, .var 7, .var 8]]

def ir_warp_Density : IR :=
 .call F.warp_one [] [.agg 3] <|
 .call F.rat_Abs [.agg [.var 0, .var 1, .var 2]] [.agg 3] <|
 .prim (.mk 2) [.var 3, .var 4, .var 5, .var 6, .var 7, .var 8] <|
 .call F.rat_Sum [.one (.var 9)] [.agg 3] <|
 .call F.rat_Of [.one (.int .i64 (1)), .one (.int .i64 (2))] [.agg 3] <|
 .prim (.mk 2) [.var 10, .var 11, .var 12, .var 10, .var 11, .var 12] <|
 .call F.rat_Product [.one (.var 16)] [.agg 3] <|
 .call F.warp_over [.agg [.var 13, .var 14, .var 15], .agg [.var 17, .var 18, .var 19]] [.agg 3] <|
 .ret [.agg [.var 20, .var 21, .var 22]]

def ir_dens_cube : IR :=
 .prim (.mk 3) [.var 0, .var 1, .var 2, .var 0, .var 1, .var 2, .var 0, .var 1, .var 2] <|
 .call F.rat_Product [.one (.var 3)] [.agg 3] <|
 .ret [.agg [.var 4, .var 5, .var 6]]

def ir_dens_over : IR :=
 .call F.rat_Div [.agg [.var 0, .var 1, .var 2], .agg [.var 3, .var 4, .var 5]] [.agg 3, .one] <|
 .ret [.agg [.var 6, .var 7, .var 8]]

def ir_dens_Ahead : IR :=
 .call F.dens_seen [.agg [.var 0, .var 1, .var 2, .var 3, .var 4, .var 5, .var 6, .var 7, .var 8, .var 9, .var 10, .var 11, .var 12, .var 13, .var 14, .var 15, .var 16, .var 17], .agg [.var 18, .var 19, .var 20, .var 21, .var 22, .var 23, .var 24, .var 25, .var 26, .var 27, .var 28, .var 29, .var 30, .var 31, .var 32, .var 33, .var 34, .var 35], .agg [.var 36, .var 37, .var 38, .var 39, .var 40, .var 41, .var 42, .var 43, .var 44, .var 45, .var 46, .var 47, .var 48, .var 49, .var 50, .var 51, .var 52, .var 53, .var 54, .var 55, .var 56, .var 57, .var 58, .var 59, .var 60, .var 61, .var 62, .var 63, .var 64, .var 65, .var 66, .var 67, .var 68, .var 69, .var 70, .var 71]] [.agg 42, .one] <|
 .prim .not [.var 114] <|
 .ite (.var 115) (
  .call F.rat_Of [.one (.int .i64 (0)), .one (.int .i64 (1))] [.agg 3] <|
  .ret [.agg [.var 116, .var 117, .var 118]]) (
  .call F.frame_Slopes [.agg [.var 72, .var 73, .var 74, .var 75, .var 76, .var 77, .var 78, .var 79, .var 80, .var 81, .var 82, .var 83, .var 84, .var 85, .var 86, .var 87, .var 88, .var 89, .var 90, .var 91, .var 92, .var 93, .var 94, .var 95, .var 96, .var 97, .var 98], .agg [.var 99, .var 100, .var 101, .var 102, .var 103, .var 104, .var 105, .var 106, .var 107]] [.agg 3, .agg 3, .agg 3, .one] <|
  .call F.warp_Density [.agg [.var 116, .var 117, .var 118]] [.agg 3] <|
  .call F.warp_Density [.agg [.var 119, .var 120, .var 121]] [.agg 3] <|
  .prim (.mk 3) [.var 126, .var 127, .var 128, .var 129, .var 130, .var 131, .var 111, .var 112, .var 113] <|
  .call F.rat_Product [.one (.var 132)] [.agg 3] <|
  .call F.dens_cube [.agg [.var 108, .var 109, .var 110]] [.agg 3] <|
  .call F.dens_over [.agg [.var 133, .var 134, .var 135], .agg [.var 136, .var 137, .var 138]] [.agg 3] <|
  .ret [.agg [.var 139, .var 140, .var 141]])

def ir_dens_Transfer : IR :=
 .call F.dens_seen [.agg [.var 0, .var 1, .var 2, .var 3, .var 4, .var 5, .var 6, .var 7, .var 8, .var 9, .var 10, .var 11, .var 12, .var 13, .var 14, .var 15, .var 16, .var 17], .agg [.var 18, .var 19, .var 20, .var 21, .var 22, .var 23, .var 24, .var 25, .var 26, .var 27, .var 28, .var 29, .var 30, .var 31, .var 32, .var 33, .var 34, .var 35], .agg [.var 36, .var 37, .var 38, .var 39, .var 40, .var 41, .var 42, .var 43, .var 44, .var 45, .var 46, .var 47, .var 48, .var 49, .var 50, .var 51, .var 52, .var 53, .var 54, .var 55, .var 56, .var 57, .var 58, .var 59, .var 60, .var 61, .var 62, .var 63, .var 64, .var 65, .var 66, .var 67, .var 68, .var 69, .var 70, .var 71]] [.agg 42, .one] <|
 .prim .not [.var 114] <|
 .ite (.var 115) (
  .call F.rat_Of [.one (.int .i64 (0)), .one (.int .i64 (1))] [.agg 3] <|
  .ret [.agg [.var 116, .var 117, .var 118]]) (
  .call F.vec_Dot [.agg [.var 99, .var 100, .var 101, .var 102, .var 103, .var 104, .var 105, .var 106, .var 107], .agg [.var 99, .var 100, .var 101, .var 102, .var 103, .var 104, .var 105, .var 106, .var 107]] [.agg 3] <|
  .prim (.mk 2) [.var 108, .var 109, .var 110, .var 111, .var 112, .var 113] <|
  .call F.rat_Product [.one (.var 119)] [.agg 3] <|
  .prim (.mk 2) [.var 116, .var 117, .var 118, .var 116, .var 117, .var 118] <|
  .call F.rat_Product [.one (.var 123)] [.agg 3] <|
  .call F.dens_over [.agg [.var 120, .var 121, .var 122], .agg [.var 124, .var 125, .var 126]] [.agg 3] <|
  .ret [.agg [.var 127, .var 128, .var 129]])

def ir_penumbralaw16_fixed : IR :=
 .call F.vec_Of [.one (.int .i64 (0)), .one (.int .i64 (0)), .one (.int .i64 (0))] [.agg 9] <|
 .call F.vec_Of [.one (.int .i64 (0)), .one (.int .i64 (0)), .one (.int .i64 (1))] [.agg 9] <|
 .call F.vec_Of [.one (.int .i64 (0)), .one (.int .i64 (0)), .one (.int .i64 (2))] [.agg 9] <|
 .call F.vec_Of [.one (.int .i64 (0)), .one (.int .i64 (0)), .one (.int .i64 (-1))] [.agg 9] <|
 .call F.vec_Of [.one (.int .i64 (0)), .one (.int .i64 (0)), .one (.int .i64 (2))] [.agg 9] <|
 .call F.vec_Of [.one (.int .i64 (0)), .one (.int .i64 (0)), .one (.int .i64 (1))] [.agg 9] <|
 .call F.affine_Identity [] [.agg 36] <|
 .call F.dens_Ahead [.agg [.var 0, .var 1, .var 2, .var 3, .var 4, .var 5, .var 6, .var 7, .var 8, .var 9, .var 10, .var 11, .var 12, .var 13, .var 14, .var 15, .var 16, .var 17], .agg [.var 18, .var 19, .var 20, .var 21, .var 22, .var 23, .var 24, .var 25, .var 26, .var 27, .var 28, .var 29, .var 30, .var 31, .var 32, .var 33, .var 34, .var 35], .agg [.var 54, .var 55, .var 56, .var 57, .var 58, .var 59, .var 60, .var 61, .var 62, .var 63, .var 64, .var 65, .var 66, .var 67, .var 68, .var 69, .var 70, .var 71, .var 72, .var 73, .var 74, .var 75, .var 76, .var 77, .var 78, .var 79, .var 80, .var 81, .var 82, .var 83, .var 84, .var 85, .var 86, .var 87, .var 88, .var 89]] [.agg 3] <|
 .call F.penumbraref03_Of [.one (.int .i64 (1)), .one (.int .i64 (16))] [.agg 3] <|
 .call F.penumbraref03_Is [.agg [.var 90, .var 91, .var 92], .agg [.var 93, .var 94, .var 95]] [.one] <|
 .ite (.var 96) (
  .call F.dens_Transfer [.agg [.var 0, .var 1, .var 2, .var 3, .var 4, .var 5, .var 6, .var 7, .var 8, .var 9, .var 10, .var 11, .var 12, .var 13, .var 14, .var 15, .var 16, .var 17], .agg [.var 18, .var 19, .var 20, .var 21, .var 22, .var 23, .var 24, .var 25, .var 26, .var 27, .var 28, .var 29, .var 30, .var 31, .var 32, .var 33, .var 34, .var 35], .agg [.var 54, .var 55, .var 56, .var 57, .var 58, .var 59, .var 60, .var 61, .var 62, .var 63, .var 64, .var 65, .var 66, .var 67, .var 68, .var 69, .var 70, .var 71, .var 72, .var 73, .var 74, .var 75, .var 76, .var 77, .var 78, .var 79, .var 80, .var 81, .var 82, .var 83, .var 84, .var 85, .var 86, .var 87, .var 88, .var 89]] [.agg 3] <|
  .call F.penumbraref03_Of [.one (.int .i64 (1)), .one (.int .i64 (4))] [.agg 3] <|
  .call F.penumbraref03_Is [.agg [.var 97, .var 98, .var 99], .agg [.var 100, .var 101, .var 102]] [.one] <|
  .ite (.var 103) (
   .call F.dens_Ahead [.agg [.var 0, .var 1, .var 2, .var 3, .var 4, .var 5, .var 6, .var 7, .var 8, .var 9, .var 10, .var 11, .var 12, .var 13, .var 14, .var 15, .var 16, .var 17], .agg [.var 36, .var 37, .var 38, .var 39, .var 40, .var 41, .var 42, .var 43, .var 44, .var 45, .var 46, .var 47, .var 48, .var 49, .var 50, .var 51, .var 52, .var 53], .agg [.var 54, .var 55, .var 56, .var 57, .var 58, .var 59, .var 60, .var 61, .var 62, .var 63, .var 64, .var 65, .var 66, .var 67, .var 68, .var 69, .var 70, .var 71, .var 72, .var 73, .var 74, .var 75, .var 76, .var 77, .var 78, .var 79, .var 80, .var 81, .var 82, .var 83, .var 84, .var 85, .var 86, .var 87, .var 88, .var 89]] [.agg 3] <|
   .call F.penumbraref03_Zero [] [.agg 3] <|
   .call F.penumbraref03_Is [.agg [.var 104, .var 105, .var 106], .agg [.var 107, .var 108, .var 109]] [.one] <|
   .ite (.var 110) (
    .call F.dens_Transfer [.agg [.var 0, .var 1, .var 2, .var 3, .var 4, .var 5, .var 6, .var 7, .var 8, .var 9, .var 10, .var 11, .var 12, .var 13, .var 14, .var 15, .var 16, .var 17], .agg [.var 36, .var 37, .var 38, .var 39, .var 40, .var 41, .var 42, .var 43, .var 44, .var 45, .var 46, .var 47, .var 48, .var 49, .var 50, .var 51, .var 52, .var 53], .agg [.var 54, .var 55, .var 56, .var 57, .var 58, .var 59, .var 60, .var 61, .var 62, .var 63, .var 64, .var 65, .var 66, .var 67, .var 68, .var 69, .var 70, .var 71, .var 72, .var 73, .var 74, .var 75, .var 76, .var 77, .var 78, .var 79, .var 80, .var 81, .var 82, .var 83, .var 84, .var 85, .var 86, .var 87, .var 88, .var 89]] [.agg 3] <|
    .call F.penumbraref03_Zero [] [.agg 3] <|
    .call F.penumbraref03_Is [.agg [.var 111, .var 112, .var 113], .agg [.var 114, .var 115, .var 116]] [.one] <|
    .ret [.one (.var 117)]) (
    .ret [.one (.bol false)])) (
   .ret [.one (.bol false)])) (
  .ret [.one (.bol false)])

def ir_penumbralaw16_DensTurned : IR :=
 .call F.penumbralaw16_mirrors [.one (.var 36)] [.agg 36] <|
 .call F.affine_Inverse [.agg [.var 37, .var 38, .var 39, .var 40, .var 41, .var 42, .var 43, .var 44, .var 45, .var 46, .var 47, .var 48, .var 49, .var 50, .var 51, .var 52, .var 53, .var 54, .var 55, .var 56, .var 57, .var 58, .var 59, .var 60, .var 61, .var 62, .var 63, .var 64, .var 65, .var 66, .var 67, .var 68, .var 69, .var 70, .var 71, .var 72]] [.agg 36, .one] <|
 .call F.penumbralaw16_fixed [] [.one] <|
 .ite (.var 110) (
  .ite (.var 109) (
   .call F.dens_Transfer [.agg [.var 0, .var 1, .var 2, .var 3, .var 4, .var 5, .var 6, .var 7, .var 8, .var 9, .var 10, .var 11, .var 12, .var 13, .var 14, .var 15, .var 16, .var 17], .agg [.var 18, .var 19, .var 20, .var 21, .var 22, .var 23, .var 24, .var 25, .var 26, .var 27, .var 28, .var 29, .var 30, .var 31, .var 32, .var 33, .var 34, .var 35], .agg [.var 37, .var 38, .var 39, .var 40, .var 41, .var 42, .var 43, .var 44, .var 45, .var 46, .var 47, .var 48, .var 49, .var 50, .var 51, .var 52, .var 53, .var 54, .var 55, .var 56, .var 57, .var 58, .var 59, .var 60, .var 61, .var 62, .var 63, .var 64, .var 65, .var 66, .var 67, .var 68, .var 69, .var 70, .var 71, .var 72]] [.agg 3] <|
   .call F.dens_Transfer [.agg [.var 18, .var 19, .var 20, .var 21, .var 22, .var 23, .var 24, .var 25, .var 26, .var 27, .var 28, .var 29, .var 30, .var 31, .var 32, .var 33, .var 34, .var 35], .agg [.var 0, .var 1, .var 2, .var 3, .var 4, .var 5, .var 6, .var 7, .var 8, .var 9, .var 10, .var 11, .var 12, .var 13, .var 14, .var 15, .var 16, .var 17], .agg [.var 73, .var 74, .var 75, .var 76, .var 77, .var 78, .var 79, .var 80, .var 81, .var 82, .var 83, .var 84, .var 85, .var 86, .var 87, .var 88, .var 89, .var 90, .var 91, .var 92, .var 93, .var 94, .var 95, .var 96, .var 97, .var 98, .var 99, .var 100, .var 101, .var 102, .var 103, .var 104, .var 105, .var 106, .var 107, .var 108]] [.agg 3] <|
   .call F.penumbraref03_Is [.agg [.var 111, .var 112, .var 113], .agg [.var 114, .var 115, .var 116]] [.one] <|
   .ret [.one (.var 117)]) (
   .ret [.one (.bol false)])) (
  .ret [.one (.bol false)])

theorem tree_affine_Identity : symFunc Go.Proofs.Try.prog H0 400 F.affine_Identity [] = some ir_affine_Identity := by kernel_rfl
theorem tree_vec_Dot : symFunc Go.Proofs.Try.prog H0 400 F.vec_Dot [.agg 9, .agg 9] = some ir_vec_Dot := by kernel_rfl
theorem tree_vec_Scale : symFunc Go.Proofs.Try.prog H0 400 F.vec_Scale [.agg 3, .agg 9] = some ir_vec_Scale := by kernel_rfl
theorem tree_affine_Stretch : symFunc Go.Proofs.Try.prog H0 400 F.affine_Stretch [.agg 9, .agg 9, .agg 3] = some ir_affine_Stretch := by kernel_rfl
theorem tree_affine_columns : symFunc Go.Proofs.Try.prog H0 400 F.affine_columns [.agg 36] = some ir_affine_columns := by kernel_rfl
theorem tree_affine_Then_1 : symFunc Go.Proofs.Try.prog H0 400 F.affine_Then_1 [.agg 9, .ref 27 0] = some ir_affine_Then_1 := by kernel_rfl
theorem tree_affine_Turn : symFunc Go.Proofs.Try.prog H0 400 F.affine_Turn [.agg 36, .agg 9] = some ir_affine_Turn := by kernel_rfl
theorem tree_affine_Apply : symFunc Go.Proofs.Try.prog H0 400 F.affine_Apply [.agg 36, .agg 9] = some ir_affine_Apply := by kernel_rfl
theorem tree_affine_Then : symFunc Go.Proofs.Try.prog H0 400 F.affine_Then [.agg 36, .agg 36] = some ir_affine_Then := by kernel_rfl
theorem tree_penumbralaw16_mirrors : symFunc Go.Proofs.Try.prog ⟨fun f => [].contains f, fun f i => if f = 39 ∧ i = 3 then [⟨[(0, .s (.one (.at (.var 0)))), (2, .s (.one (.lp 0 0))), (3, .s (.one (.lp 1 0))), (4, .s (.one (.at (.var 1))))], [], [(0, .box [.at (.bol false), .nils, .nils, .at (.bol false), .nils, .nils, .at (.bol false), .nils, .nils, .at (.bol false), .nils, .nils, .at (.bol false), .nils, .nils, .at (.bol false), .nils, .nils, .at (.bol false), .nils, .nils, .at (.bol false), .nils, .nils, .at (.bol false), .nils, .nils, .at (.bol false), .nils, .nils, .at (.bol false), .nils, .nils, .at (.bol false), .nils, .nils] 62 false), (1, .box [.at (.var 2), .at (.var 3), .at (.var 4), .at (.var 5), .at (.var 6), .at (.var 7), .at (.var 8), .at (.var 9), .at (.var 10), .at (.var 11), .at (.var 12), .at (.var 13), .at (.var 14), .at (.var 15), .at (.var 16), .at (.var 17), .at (.var 18), .at (.var 19), .at (.var 20), .at (.var 21), .at (.var 22), .at (.var 23), .at (.var 24), .at (.var 25), .at (.var 26), .at (.var 27), .at (.var 28), .at (.var 29), .at (.var 30), .at (.var 31), .at (.var 32), .at (.var 33), .at (.var 34), .at (.var 35), .at (.var 36), .at (.var 37)] 62 false)], 2, 38⟩] else [], fun f i => [], fun f => [].contains f⟩ 400 F.penumbralaw16_mirrors [.one] = some ir_penumbralaw16_mirrors := by kernel_rfl
theorem tree_vec_minor : symFunc Go.Proofs.Try.prog H0 400 F.vec_minor [.agg 3, .agg 3, .agg 3, .agg 3] = some ir_vec_minor := by kernel_rfl
theorem tree_vec_Cross : symFunc Go.Proofs.Try.prog H0 400 F.vec_Cross [.agg 9, .agg 9] = some ir_vec_Cross := by kernel_rfl
theorem tree_affine_Det : symFunc Go.Proofs.Try.prog H0 400 F.affine_Det [.agg 36] = some ir_affine_Det := by kernel_rfl
theorem tree_affine_cofactors : symFunc Go.Proofs.Try.prog H0 400 F.affine_cofactors [.agg 36] = some ir_affine_cofactors := by kernel_rfl
theorem tree_affine_Inverse : symFunc Go.Proofs.Try.prog H0 400 F.affine_Inverse [.agg 36] = some ir_affine_Inverse := by kernel_rfl
theorem tree_vec_Sub : symFunc Go.Proofs.Try.prog H0 400 F.vec_Sub [.agg 9, .agg 9] = some ir_vec_Sub := by kernel_rfl
theorem tree_vec_Read : symFunc Go.Proofs.Try.prog H0 400 F.vec_Read [.agg 9] = some ir_vec_Read := by kernel_rfl
theorem tree_frame_Of : symFunc Go.Proofs.Try.prog H0 400 F.frame_Of [.agg 9] = some ir_frame_Of := by kernel_rfl
theorem tree_affine_Area : symFunc Go.Proofs.Try.prog H0 400 F.affine_Area [.agg 36, .agg 9] = some ir_affine_Area := by kernel_rfl
theorem tree_dens_seen : symFunc Go.Proofs.Try.prog H0 400 F.dens_seen [.agg 18, .agg 18, .agg 36] = some ir_dens_seen := by kernel_rfl
theorem tree_frame_In : symFunc Go.Proofs.Try.prog H0 400 F.frame_In [.agg 27, .agg 9] = some ir_frame_In := by kernel_rfl
theorem tree_frame_Slopes : symFunc Go.Proofs.Try.prog H0 400 F.frame_Slopes [.agg 27, .agg 9] = some ir_frame_Slopes := by kernel_rfl
theorem tree_warp_one : symFunc Go.Proofs.Try.prog H0 400 F.warp_one [] = some ir_warp_one := by kernel_rfl
theorem tree_warp_over : symFunc Go.Proofs.Try.prog H0 400 F.warp_over [.agg 3, .agg 3] = some ir_warp_over := by kernel_rfl
theorem tree_warp_Density : symFunc Go.Proofs.Try.prog H0 400 F.warp_Density [.agg 3] = some ir_warp_Density := by kernel_rfl
theorem tree_dens_cube : symFunc Go.Proofs.Try.prog H0 400 F.dens_cube [.agg 3] = some ir_dens_cube := by kernel_rfl
theorem tree_dens_over : symFunc Go.Proofs.Try.prog H0 400 F.dens_over [.agg 3, .agg 3] = some ir_dens_over := by kernel_rfl
theorem tree_dens_Ahead : symFunc Go.Proofs.Try.prog H0 400 F.dens_Ahead [.agg 18, .agg 18, .agg 36] = some ir_dens_Ahead := by kernel_rfl
theorem tree_dens_Transfer : symFunc Go.Proofs.Try.prog H0 400 F.dens_Transfer [.agg 18, .agg 18, .agg 36] = some ir_dens_Transfer := by kernel_rfl
theorem tree_penumbralaw16_fixed : symFunc Go.Proofs.Try.prog H0 400 F.penumbralaw16_fixed [] = some ir_penumbralaw16_fixed := by kernel_rfl
theorem tree_penumbralaw16_DensTurned : symFunc Go.Proofs.Try.prog H0 400 F.penumbralaw16_DensTurned [.agg 18, .agg 18, .one] = some ir_penumbralaw16_DensTurned := by kernel_rfl
end Go.Px
namespace Go.Px.Na
open Go.RowKit
open Go.Proofs.Try (prog)

theorem n_vec_Dot_0w  {r0 r1 r2 r3 r4 r5 : RR} {x0 x1 x2 x3 x4 x5 : Rat} {k0 : Rat} {L0 L1 L2 L3 L4 L5 : Nat} (h0 : Num L0 r0 x0) (h1 : Num L1 r1 x1) (h2 : Num L2 r2 x2) (h3 : Num L3 r3 x3) (h4 : Num L4 r4 x4) (h5 : Num L5 r5 x5) (hl : L0 ≤ 20000000000 ∧ L1 ≤ 20000000000 ∧ L2 ≤ 20000000000 ∧ L3 ≤ 20000000000 ∧ L4 ≤ 20000000000 ∧ L5 ≤ 20000000000) (e0 : k0 = (((x0 * x3) + (x1 * x4)) + (x2 * x5)))  : PureCalls prog F.vec_Dot [.agg (gW [r0, r1, r2]), .agg (gW [r3, r4, r5])] [.agg (gD [k0])] := by
  replace h0 := h0.mono hl.1
  replace h1 := h1.mono hl.2.1
  replace h2 := h2.mono hl.2.2.1
  replace h3 := h3.mono hl.2.2.2.1
  replace h4 := h4.mono hl.2.2.2.2.1
  replace h5 := h5.mono hl.2.2.2.2.2
  subst e0
  refine symFunc_sound hmix tree_vec_Dot (by kernel_rfl) rfl ?_
  unfold ir_vec_Dot
  simp only [HH, gW, gD]
  refine primS (rl [r0, r3]) rfl ?_
  refine call_step (n_rat_Product_2 (k0 := (x0 * x3)) (h0.mono (by decide)) (h3.mono (by decide)) rfl) rfl ?_
  simp only [HH, gW, gD]
  refine primS (rl [r1, r4]) rfl ?_
  refine call_step (n_rat_Product_2 (k0 := (x1 * x4)) (h1.mono (by decide)) (h4.mono (by decide)) rfl) rfl ?_
  simp only [HH, gW, gD]
  refine primS (rl [r2, r5]) rfl ?_
  refine call_step (n_rat_Product_2 (k0 := (x2 * x5)) (h2.mono (by decide)) (h5.mono (by decide)) rfl) rfl ?_
  simp only [HH, gW, gD]
  refine primS (rl [(cr (x0 * x3)), (cr (x1 * x4)), (cr (x2 * x5))]) rfl ?_
  have m20 : Num 40000000000 (cr (x0 * x3)) (x0 * x3) := Num.of (Sm.mul h0.sm h3.sm)
  have m21 : Num 40000000000 (cr (x1 * x4)) (x1 * x4) := Num.of (Sm.mul h1.sm h4.sm)
  have m22 : Num 40000000000 (cr (x2 * x5)) (x2 * x5) := Num.of (Sm.mul h2.sm h5.sm)
  refine call_step (n_rat_Sum_3 (k0 := (((x0 * x3) + (x1 * x4)) + (x2 * x5))) (m20.mono (by decide)) (m21.mono (by decide)) (m22.mono (by decide)) rfl) rfl ?_
  simp only [HH, gW, gD]
  exact ret_step rfl

theorem n_vec_Sub_0w  {r0 r1 r2 r3 r4 r5 : RR} {x0 x1 x2 x3 x4 x5 : Rat} {k0 k1 k2 : Rat} {L0 L1 L2 L3 L4 L5 : Nat} (h0 : Num L0 r0 x0) (h1 : Num L1 r1 x1) (h2 : Num L2 r2 x2) (h3 : Num L3 r3 x3) (h4 : Num L4 r4 x4) (h5 : Num L5 r5 x5) (hl : L0 ≤ 40000000000 ∧ L1 ≤ 40000000000 ∧ L2 ≤ 40000000000 ∧ L3 ≤ 40000000000 ∧ L4 ≤ 40000000000 ∧ L5 ≤ 40000000000) (e0 : k0 = (x0 - x3)) (e1 : k1 = (x1 - x4)) (e2 : k2 = (x2 - x5))  : PureCalls prog F.vec_Sub [.agg (gW [r0, r1, r2]), .agg (gW [r3, r4, r5])] [.agg (gD [k0, k1, k2])] := by
  replace h0 := h0.mono hl.1
  replace h1 := h1.mono hl.2.1
  replace h2 := h2.mono hl.2.2.1
  replace h3 := h3.mono hl.2.2.2.1
  replace h4 := h4.mono hl.2.2.2.2.1
  replace h5 := h5.mono hl.2.2.2.2.2
  subst e0 e1 e2
  refine symFunc_sound hmix tree_vec_Sub (by kernel_rfl) rfl ?_
  unfold ir_vec_Sub
  simp only [HH, gW, gD]
  refine call_step (n_rat_Sub (k0 := (x0 - x3)) (h0.mono (by decide)) (h3.mono (by decide)) rfl) rfl ?_
  simp only [HH, gW, gD]
  refine call_step (n_rat_Sub (k0 := (x1 - x4)) (h1.mono (by decide)) (h4.mono (by decide)) rfl) rfl ?_
  simp only [HH, gW, gD]
  refine call_step (n_rat_Sub (k0 := (x2 - x5)) (h2.mono (by decide)) (h5.mono (by decide)) rfl) rfl ?_
  simp only [HH, gW, gD]
  exact ret_step rfl

theorem n_vec_Scale_0  {r0 r1 r2 r3 : RR} {x0 x1 x2 x3 : Rat} {k0 k1 k2 : Rat} (h0 : Num 40000000000 r0 x0) (h1 : Num 40000000000 r1 x1) (h2 : Num 40000000000 r2 x2) (h3 : Num 40000000000 r3 x3) (e0 : k0 = (x0 * x1)) (e1 : k1 = (x0 * x2)) (e2 : k2 = (x0 * x3))  : PureCalls prog F.vec_Scale [.agg (gW [r0]), .agg (gW [r1, r2, r3])] [.agg (gD [k0, k1, k2])] := by
  subst e0 e1 e2
  refine symFunc_sound hmix tree_vec_Scale (by kernel_rfl) rfl ?_
  unfold ir_vec_Scale
  simp only [HH, gW, gD]
  refine primS (rl [r0, r1]) rfl ?_
  refine call_step (n_rat_Product_2 (k0 := (x0 * x1)) (h0.mono (by decide)) (h1.mono (by decide)) rfl) rfl ?_
  simp only [HH, gW, gD]
  refine primS (rl [r0, r2]) rfl ?_
  refine call_step (n_rat_Product_2 (k0 := (x0 * x2)) (h0.mono (by decide)) (h2.mono (by decide)) rfl) rfl ?_
  simp only [HH, gW, gD]
  refine primS (rl [r0, r3]) rfl ?_
  refine call_step (n_rat_Product_2 (k0 := (x0 * x3)) (h0.mono (by decide)) (h3.mono (by decide)) rfl) rfl ?_
  simp only [HH, gW, gD]
  exact ret_step rfl

theorem n_vec_Read_0  {r0 r1 r2 : RR} {x0 x1 x2 : Rat} (h0 : Num 40000000000 r0 x0) (h1 : Num 40000000000 r1 x1) (h2 : Num 40000000000 r2 x2)   : PureCalls prog F.vec_Read [.agg (gW [r0, r1, r2])] [.agg (gD [x0, x1, x2])] := by
  refine symFunc_sound hmix tree_vec_Read (by kernel_rfl) rfl ?_
  unfold ir_vec_Read
  simp only [HH, gW, gD]
  refine call_step (n_rat_Read (h0.mono (by decide))) rfl ?_
  simp only [HH, gW, gD]
  refine call_step (n_rat_Read (h1.mono (by decide))) rfl ?_
  simp only [HH, gW, gD]
  refine call_step (n_rat_Read (h2.mono (by decide))) rfl ?_
  simp only [HH, gW, gD]
  exact ret_step rfl

theorem n_frame_Of_0 {Zm2 Z0 Z1 : Rat} (Ym2 : Zm2 = (-2 : Rat)) (Y0 : Z0 = (0 : Rat)) (Y1 : Z1 = (1 : Rat)) {r0 r1 r2 : RR} {x0 x1 x2 : Rat} {k0 k1 : Rat} (h0 : Num 900000000 r0 x0) (h1 : Num 900000000 r1 x1) (h2 : Num 900000000 r2 x2) (e0 : k0 = (((x0 * x0) + (x1 * x1)) + (x2 * x2))) (e1 : k1 = ((((Z0 - x0) * (Z0 - x0)) + ((Z0 - x1) * (Z0 - x1))) + ((Z1 - x2) * (Z1 - x2)))) (c0 : k0 = Z1) (c1 : k1 = Z0) : PureCalls prog F.frame_Of [.agg (gW [r0, r1, r2])] [.agg (gD [Z1, Z0, Z0, Z0, Z1, Z0, Z0, Z0, Z1]), .one (.bool true)] := by
  subst e0 e1
  refine symFunc_sound hmix tree_frame_Of (by kernel_rfl) rfl ?_
  unfold ir_frame_Of
  simp only [HH, gW, gD]
  refine call_step (n_vec_Of (1) (0) (0) (by decide) (by decide) (by decide) (by decide) (by decide) (by decide) (Y1.trans (by decide +kernel)) (Y0.trans (by decide +kernel)) (Y0.trans (by decide +kernel))) rfl ?_
  simp only [HH, gW, gD]
  refine call_step (n_vec_Of (0) (1) (0) (by decide) (by decide) (by decide) (by decide) (by decide) (by decide) (Y0.trans (by decide +kernel)) (Y1.trans (by decide +kernel)) (Y0.trans (by decide +kernel))) rfl ?_
  simp only [HH, gW, gD]
  refine call_step (n_vec_Of (0) (0) (1) (by decide) (by decide) (by decide) (by decide) (by decide) (by decide) (Y0.trans (by decide +kernel)) (Y0.trans (by decide +kernel)) (Y1.trans (by decide +kernel))) rfl ?_
  simp only [HH, gW, gD]
  refine call_step (n_vec_Of (0) (0) (0) (by decide) (by decide) (by decide) (by decide) (by decide) (by decide) (Y0.trans (by decide +kernel)) (Y0.trans (by decide +kernel)) (Y0.trans (by decide +kernel))) rfl ?_
  simp only [HH, gW, gD]
  refine call_step (n_vec_Dot_0w (k0 := (((x0 * x0) + (x1 * x1)) + (x2 * x2))) h0 h1 h2 h0 h1 h2 (by decide) rfl) rfl ?_
  simp only [HH, gW, gD]
  refine call_step (n_rat_Of (1) (1) (by decide) (by decide) (by decide) (by decide) (Y1.trans (by decide +kernel))) rfl ?_
  simp only [HH, gW, gD]
  have m118 : Num 5400000002 (cr (((x0 * x0) + (x1 * x1)) + (x2 * x2))) (((x0 * x0) + (x1 * x1)) + (x2 * x2)) := Num.of (Sm.add (Sm.add (Sm.mul h0.sm h0.sm) (Sm.mul h1.sm h1.sm)) (Sm.mul h2.sm h2.sm))
  have m119 : Num 1 (cr Z1) Z1 := Num.c Y1 (by decide +kernel) (by decide +kernel)
  refine call_step (n_rat_Same_t (m118.mono (by decide)) (m119.mono (by decide)) c0) rfl ?_
  simp only [HH, gW, gD]
  refine primS (.bool false) rfl ?_
  refine itF rfl ?_
  have m120 : Num 1 (cr Z0) Z0 := Num.c Y0 (by decide +kernel) (by decide +kernel)
  refine call_step (n_vec_Sub_0w (k0 := (Z0 - x0)) (k1 := (Z0 - x1)) (k2 := (Z1 - x2)) m120 m120 m119 h0 h1 h2 (by decide) rfl rfl rfl) rfl ?_
  simp only [HH, gW, gD]
  refine call_step (n_rat_Of (-2) (1) (by decide) (by decide) (by decide) (by decide) (Ym2.trans (by decide +kernel))) rfl ?_
  simp only [HH, gW, gD]
  have m121 : Num 900000002 (cr (Z0 - x0)) (Z0 - x0) := Num.of (Sm.sub m120.sm h0.sm)
  have m122 : Num 900000002 (cr (Z0 - x1)) (Z0 - x1) := Num.of (Sm.sub m120.sm h1.sm)
  have m123 : Num 900000002 (cr (Z1 - x2)) (Z1 - x2) := Num.of (Sm.sub m119.sm h2.sm)
  refine call_step (n_vec_Dot_0w (k0 := ((((Z0 - x0) * (Z0 - x0)) + ((Z0 - x1) * (Z0 - x1))) + ((Z1 - x2) * (Z1 - x2)))) m121 m122 m123 m121 m122 m123 (by decide) rfl) rfl ?_
  simp only [HH, gW, gD]
  have m124 : Num 1 (cr Zm2) Zm2 := Num.c Ym2 (by decide +kernel) (by decide +kernel)
  have m125 : Num 5400000014 (cr ((((Z0 - x0) * (Z0 - x0)) + ((Z0 - x1) * (Z0 - x1))) + ((Z1 - x2) * (Z1 - x2)))) ((((Z0 - x0) * (Z0 - x0)) + ((Z0 - x1) * (Z0 - x1))) + ((Z1 - x2) * (Z1 - x2))) := Num.of (Sm.add (Sm.add (Sm.mul m121.sm m121.sm) (Sm.mul m122.sm m122.sm)) (Sm.mul m123.sm m123.sm))
  refine call_step (n_rat_Div_t Y0 (m124.mono (by decide)) (m125.mono (by decide)) c1) rfl ?_
  simp only [HH, gW, gD]
  refine primS (.bool true) rfl ?_
  refine itT rfl ?_
  exact ret_step rfl

theorem n_frame_Of_1 {Zm2 Z0 Z1 : Rat} (Ym2 : Zm2 = (-2 : Rat)) (Y0 : Z0 = (0 : Rat)) (Y1 : Z1 = (1 : Rat)) {r0 r1 r2 : RR} {x0 x1 x2 : Rat} {k0 k1 k2 k3 k4 k5 k6 k7 k8 : Rat} (h0 : Num 900000000 r0 x0) (h1 : Num 900000000 r1 x1) (h2 : Num 900000000 r2 x2) (e0 : k0 = (((x0 * x0) + (x1 * x1)) + (x2 * x2))) (e1 : k1 = ((((Z0 - x0) * (Z0 - x0)) + ((Z0 - x1) * (Z0 - x1))) + ((Z1 - x2) * (Z1 - x2)))) (e2 : k2 = (Zm2 / k1)) (e3 : k3 = (Z1 + ((k2 * (Z0 - x0)) * (Z0 - x0)))) (e4 : k4 = (Z0 + ((k2 * (Z0 - x0)) * (Z0 - x1)))) (e5 : k5 = (Z0 + ((k2 * (Z0 - x0)) * (Z1 - x2)))) (e6 : k6 = (Z0 + ((k2 * (Z0 - x1)) * (Z0 - x0)))) (e7 : k7 = (Z1 + ((k2 * (Z0 - x1)) * (Z0 - x1)))) (e8 : k8 = (Z0 + ((k2 * (Z0 - x1)) * (Z1 - x2)))) (c0 : k0 = Z1) (c1 : ¬k1 = Z0) : PureCalls prog F.frame_Of [.agg (gW [r0, r1, r2])] [.agg (gD [k3, k4, k5, k6, k7, k8, x0, x1, x2]), .one (.bool true)] := by
  subst e0 e1 e2 e3 e4 e5 e6 e7 e8
  refine symFunc_sound hmix tree_frame_Of (by kernel_rfl) rfl ?_
  unfold ir_frame_Of
  simp only [HH, gW, gD]
  refine call_step (n_vec_Of (1) (0) (0) (by decide) (by decide) (by decide) (by decide) (by decide) (by decide) (Y1.trans (by decide +kernel)) (Y0.trans (by decide +kernel)) (Y0.trans (by decide +kernel))) rfl ?_
  simp only [HH, gW, gD]
  refine call_step (n_vec_Of (0) (1) (0) (by decide) (by decide) (by decide) (by decide) (by decide) (by decide) (Y0.trans (by decide +kernel)) (Y1.trans (by decide +kernel)) (Y0.trans (by decide +kernel))) rfl ?_
  simp only [HH, gW, gD]
  refine call_step (n_vec_Of (0) (0) (1) (by decide) (by decide) (by decide) (by decide) (by decide) (by decide) (Y0.trans (by decide +kernel)) (Y0.trans (by decide +kernel)) (Y1.trans (by decide +kernel))) rfl ?_
  simp only [HH, gW, gD]
  refine call_step (n_vec_Of (0) (0) (0) (by decide) (by decide) (by decide) (by decide) (by decide) (by decide) (Y0.trans (by decide +kernel)) (Y0.trans (by decide +kernel)) (Y0.trans (by decide +kernel))) rfl ?_
  simp only [HH, gW, gD]
  refine call_step (n_vec_Dot_0w (k0 := (((x0 * x0) + (x1 * x1)) + (x2 * x2))) h0 h1 h2 h0 h1 h2 (by decide) rfl) rfl ?_
  simp only [HH, gW, gD]
  refine call_step (n_rat_Of (1) (1) (by decide) (by decide) (by decide) (by decide) (Y1.trans (by decide +kernel))) rfl ?_
  simp only [HH, gW, gD]
  have m126 : Num 5400000002 (cr (((x0 * x0) + (x1 * x1)) + (x2 * x2))) (((x0 * x0) + (x1 * x1)) + (x2 * x2)) := Num.of (Sm.add (Sm.add (Sm.mul h0.sm h0.sm) (Sm.mul h1.sm h1.sm)) (Sm.mul h2.sm h2.sm))
  have m127 : Num 1 (cr Z1) Z1 := Num.c Y1 (by decide +kernel) (by decide +kernel)
  refine call_step (n_rat_Same_t (m126.mono (by decide)) (m127.mono (by decide)) c0) rfl ?_
  simp only [HH, gW, gD]
  refine primS (.bool false) rfl ?_
  refine itF rfl ?_
  have m128 : Num 1 (cr Z0) Z0 := Num.c Y0 (by decide +kernel) (by decide +kernel)
  refine call_step (n_vec_Sub_0w (k0 := (Z0 - x0)) (k1 := (Z0 - x1)) (k2 := (Z1 - x2)) m128 m128 m127 h0 h1 h2 (by decide) rfl rfl rfl) rfl ?_
  simp only [HH, gW, gD]
  refine call_step (n_rat_Of (-2) (1) (by decide) (by decide) (by decide) (by decide) (Ym2.trans (by decide +kernel))) rfl ?_
  simp only [HH, gW, gD]
  have m129 : Num 900000002 (cr (Z0 - x0)) (Z0 - x0) := Num.of (Sm.sub m128.sm h0.sm)
  have m130 : Num 900000002 (cr (Z0 - x1)) (Z0 - x1) := Num.of (Sm.sub m128.sm h1.sm)
  have m131 : Num 900000002 (cr (Z1 - x2)) (Z1 - x2) := Num.of (Sm.sub m127.sm h2.sm)
  refine call_step (n_vec_Dot_0w (k0 := ((((Z0 - x0) * (Z0 - x0)) + ((Z0 - x1) * (Z0 - x1))) + ((Z1 - x2) * (Z1 - x2)))) m129 m130 m131 m129 m130 m131 (by decide) rfl) rfl ?_
  simp only [HH, gW, gD]
  have m132 : Num 1 (cr Zm2) Zm2 := Num.c Ym2 (by decide +kernel) (by decide +kernel)
  have m133 : Num 5400000014 (cr ((((Z0 - x0) * (Z0 - x0)) + ((Z0 - x1) * (Z0 - x1))) + ((Z1 - x2) * (Z1 - x2)))) ((((Z0 - x0) * (Z0 - x0)) + ((Z0 - x1) * (Z0 - x1))) + ((Z1 - x2) * (Z1 - x2))) := Num.of (Sm.add (Sm.add (Sm.mul m129.sm m129.sm) (Sm.mul m130.sm m130.sm)) (Sm.mul m131.sm m131.sm))
  refine call_step (n_rat_Div_f (k0 := (Zm2 / ((((Z0 - x0) * (Z0 - x0)) + ((Z0 - x1) * (Z0 - x1))) + ((Z1 - x2) * (Z1 - x2))))) Y0 (m132.mono (by decide)) (m133.mono (by decide)) rfl c1) rfl ?_
  simp only [HH, gW, gD]
  refine primS (.bool false) rfl ?_
  refine itF rfl ?_
  refine primS (rl [(cr (Zm2 / ((((Z0 - x0) * (Z0 - x0)) + ((Z0 - x1) * (Z0 - x1))) + ((Z1 - x2) * (Z1 - x2))))), (cr (Z0 - x0))]) rfl ?_
  have m135 : Num 5400000015 (cr (Zm2 / ((((Z0 - x0) * (Z0 - x0)) + ((Z0 - x1) * (Z0 - x1))) + ((Z1 - x2) * (Z1 - x2))))) (Zm2 / ((((Z0 - x0) * (Z0 - x0)) + ((Z0 - x1) * (Z0 - x1))) + ((Z1 - x2) * (Z1 - x2)))) := Num.of (Sm.div m132.sm m133.sm)
  refine call_step (n_rat_Product_2 (k0 := ((Zm2 / ((((Z0 - x0) * (Z0 - x0)) + ((Z0 - x1) * (Z0 - x1))) + ((Z1 - x2) * (Z1 - x2)))) * (Z0 - x0))) (m135.mono (by decide)) (m129.mono (by decide)) rfl) rfl ?_
  simp only [HH, gW, gD]
  have m136 : Num 6300000017 (cr ((Zm2 / ((((Z0 - x0) * (Z0 - x0)) + ((Z0 - x1) * (Z0 - x1))) + ((Z1 - x2) * (Z1 - x2)))) * (Z0 - x0))) ((Zm2 / ((((Z0 - x0) * (Z0 - x0)) + ((Z0 - x1) * (Z0 - x1))) + ((Z1 - x2) * (Z1 - x2)))) * (Z0 - x0)) := Num.of (Sm.mul m135.sm m129.sm)
  refine call_step (n_vec_Scale_0 (k0 := (((Zm2 / ((((Z0 - x0) * (Z0 - x0)) + ((Z0 - x1) * (Z0 - x1))) + ((Z1 - x2) * (Z1 - x2)))) * (Z0 - x0)) * (Z0 - x0))) (k1 := (((Zm2 / ((((Z0 - x0) * (Z0 - x0)) + ((Z0 - x1) * (Z0 - x1))) + ((Z1 - x2) * (Z1 - x2)))) * (Z0 - x0)) * (Z0 - x1))) (k2 := (((Zm2 / ((((Z0 - x0) * (Z0 - x0)) + ((Z0 - x1) * (Z0 - x1))) + ((Z1 - x2) * (Z1 - x2)))) * (Z0 - x0)) * (Z1 - x2))) (m136.mono (by decide)) (m129.mono (by decide)) (m130.mono (by decide)) (m131.mono (by decide)) rfl rfl rfl) rfl ?_
  simp only [HH, gW, gD]
  refine primS (rl3 [((cr Z1), (cr Z0), (cr Z0)), ((cr (((Zm2 / ((((Z0 - x0) * (Z0 - x0)) + ((Z0 - x1) * (Z0 - x1))) + ((Z1 - x2) * (Z1 - x2)))) * (Z0 - x0)) * (Z0 - x0))), (cr (((Zm2 / ((((Z0 - x0) * (Z0 - x0)) + ((Z0 - x1) * (Z0 - x1))) + ((Z1 - x2) * (Z1 - x2)))) * (Z0 - x0)) * (Z0 - x1))), (cr (((Zm2 / ((((Z0 - x0) * (Z0 - x0)) + ((Z0 - x1) * (Z0 - x1))) + ((Z1 - x2) * (Z1 - x2)))) * (Z0 - x0)) * (Z1 - x2))))]) rfl ?_
  have m138 : Num 7200000019 (cr (((Zm2 / ((((Z0 - x0) * (Z0 - x0)) + ((Z0 - x1) * (Z0 - x1))) + ((Z1 - x2) * (Z1 - x2)))) * (Z0 - x0)) * (Z0 - x0))) (((Zm2 / ((((Z0 - x0) * (Z0 - x0)) + ((Z0 - x1) * (Z0 - x1))) + ((Z1 - x2) * (Z1 - x2)))) * (Z0 - x0)) * (Z0 - x0)) := Num.of (Sm.mul m136.sm m129.sm)
  have m139 : Num 7200000019 (cr (((Zm2 / ((((Z0 - x0) * (Z0 - x0)) + ((Z0 - x1) * (Z0 - x1))) + ((Z1 - x2) * (Z1 - x2)))) * (Z0 - x0)) * (Z0 - x1))) (((Zm2 / ((((Z0 - x0) * (Z0 - x0)) + ((Z0 - x1) * (Z0 - x1))) + ((Z1 - x2) * (Z1 - x2)))) * (Z0 - x0)) * (Z0 - x1)) := Num.of (Sm.mul m136.sm m130.sm)
  have m140 : Num 7200000019 (cr (((Zm2 / ((((Z0 - x0) * (Z0 - x0)) + ((Z0 - x1) * (Z0 - x1))) + ((Z1 - x2) * (Z1 - x2)))) * (Z0 - x0)) * (Z1 - x2))) (((Zm2 / ((((Z0 - x0) * (Z0 - x0)) + ((Z0 - x1) * (Z0 - x1))) + ((Z1 - x2) * (Z1 - x2)))) * (Z0 - x0)) * (Z1 - x2)) := Num.of (Sm.mul m136.sm m131.sm)
  refine call_step (n_vec_Sum_2 (o0 := (Z1 + (((Zm2 / ((((Z0 - x0) * (Z0 - x0)) + ((Z0 - x1) * (Z0 - x1))) + ((Z1 - x2) * (Z1 - x2)))) * (Z0 - x0)) * (Z0 - x0)))) (o1 := (Z0 + (((Zm2 / ((((Z0 - x0) * (Z0 - x0)) + ((Z0 - x1) * (Z0 - x1))) + ((Z1 - x2) * (Z1 - x2)))) * (Z0 - x0)) * (Z0 - x1)))) (o2 := (Z0 + (((Zm2 / ((((Z0 - x0) * (Z0 - x0)) + ((Z0 - x1) * (Z0 - x1))) + ((Z1 - x2) * (Z1 - x2)))) * (Z0 - x0)) * (Z1 - x2)))) (m127.mono (by decide)) (m128.mono (by decide)) (m128.mono (by decide)) (m138.mono (by decide)) (m139.mono (by decide)) (m140.mono (by decide)) rfl rfl rfl) rfl ?_
  simp only [HH, gW, gD]
  refine primS (rl [(cr (Zm2 / ((((Z0 - x0) * (Z0 - x0)) + ((Z0 - x1) * (Z0 - x1))) + ((Z1 - x2) * (Z1 - x2))))), (cr (Z0 - x1))]) rfl ?_
  refine call_step (n_rat_Product_2 (k0 := ((Zm2 / ((((Z0 - x0) * (Z0 - x0)) + ((Z0 - x1) * (Z0 - x1))) + ((Z1 - x2) * (Z1 - x2)))) * (Z0 - x1))) (m135.mono (by decide)) (m130.mono (by decide)) rfl) rfl ?_
  simp only [HH, gW, gD]
  have m142 : Num 6300000017 (cr ((Zm2 / ((((Z0 - x0) * (Z0 - x0)) + ((Z0 - x1) * (Z0 - x1))) + ((Z1 - x2) * (Z1 - x2)))) * (Z0 - x1))) ((Zm2 / ((((Z0 - x0) * (Z0 - x0)) + ((Z0 - x1) * (Z0 - x1))) + ((Z1 - x2) * (Z1 - x2)))) * (Z0 - x1)) := Num.of (Sm.mul m135.sm m130.sm)
  refine call_step (n_vec_Scale_0 (k0 := (((Zm2 / ((((Z0 - x0) * (Z0 - x0)) + ((Z0 - x1) * (Z0 - x1))) + ((Z1 - x2) * (Z1 - x2)))) * (Z0 - x1)) * (Z0 - x0))) (k1 := (((Zm2 / ((((Z0 - x0) * (Z0 - x0)) + ((Z0 - x1) * (Z0 - x1))) + ((Z1 - x2) * (Z1 - x2)))) * (Z0 - x1)) * (Z0 - x1))) (k2 := (((Zm2 / ((((Z0 - x0) * (Z0 - x0)) + ((Z0 - x1) * (Z0 - x1))) + ((Z1 - x2) * (Z1 - x2)))) * (Z0 - x1)) * (Z1 - x2))) (m142.mono (by decide)) (m129.mono (by decide)) (m130.mono (by decide)) (m131.mono (by decide)) rfl rfl rfl) rfl ?_
  simp only [HH, gW, gD]
  refine primS (rl3 [((cr Z0), (cr Z1), (cr Z0)), ((cr (((Zm2 / ((((Z0 - x0) * (Z0 - x0)) + ((Z0 - x1) * (Z0 - x1))) + ((Z1 - x2) * (Z1 - x2)))) * (Z0 - x1)) * (Z0 - x0))), (cr (((Zm2 / ((((Z0 - x0) * (Z0 - x0)) + ((Z0 - x1) * (Z0 - x1))) + ((Z1 - x2) * (Z1 - x2)))) * (Z0 - x1)) * (Z0 - x1))), (cr (((Zm2 / ((((Z0 - x0) * (Z0 - x0)) + ((Z0 - x1) * (Z0 - x1))) + ((Z1 - x2) * (Z1 - x2)))) * (Z0 - x1)) * (Z1 - x2))))]) rfl ?_
  have m144 : Num 7200000019 (cr (((Zm2 / ((((Z0 - x0) * (Z0 - x0)) + ((Z0 - x1) * (Z0 - x1))) + ((Z1 - x2) * (Z1 - x2)))) * (Z0 - x1)) * (Z0 - x0))) (((Zm2 / ((((Z0 - x0) * (Z0 - x0)) + ((Z0 - x1) * (Z0 - x1))) + ((Z1 - x2) * (Z1 - x2)))) * (Z0 - x1)) * (Z0 - x0)) := Num.of (Sm.mul m142.sm m129.sm)
  have m145 : Num 7200000019 (cr (((Zm2 / ((((Z0 - x0) * (Z0 - x0)) + ((Z0 - x1) * (Z0 - x1))) + ((Z1 - x2) * (Z1 - x2)))) * (Z0 - x1)) * (Z0 - x1))) (((Zm2 / ((((Z0 - x0) * (Z0 - x0)) + ((Z0 - x1) * (Z0 - x1))) + ((Z1 - x2) * (Z1 - x2)))) * (Z0 - x1)) * (Z0 - x1)) := Num.of (Sm.mul m142.sm m130.sm)
  have m146 : Num 7200000019 (cr (((Zm2 / ((((Z0 - x0) * (Z0 - x0)) + ((Z0 - x1) * (Z0 - x1))) + ((Z1 - x2) * (Z1 - x2)))) * (Z0 - x1)) * (Z1 - x2))) (((Zm2 / ((((Z0 - x0) * (Z0 - x0)) + ((Z0 - x1) * (Z0 - x1))) + ((Z1 - x2) * (Z1 - x2)))) * (Z0 - x1)) * (Z1 - x2)) := Num.of (Sm.mul m142.sm m131.sm)
  refine call_step (n_vec_Sum_2 (o0 := (Z0 + (((Zm2 / ((((Z0 - x0) * (Z0 - x0)) + ((Z0 - x1) * (Z0 - x1))) + ((Z1 - x2) * (Z1 - x2)))) * (Z0 - x1)) * (Z0 - x0)))) (o1 := (Z1 + (((Zm2 / ((((Z0 - x0) * (Z0 - x0)) + ((Z0 - x1) * (Z0 - x1))) + ((Z1 - x2) * (Z1 - x2)))) * (Z0 - x1)) * (Z0 - x1)))) (o2 := (Z0 + (((Zm2 / ((((Z0 - x0) * (Z0 - x0)) + ((Z0 - x1) * (Z0 - x1))) + ((Z1 - x2) * (Z1 - x2)))) * (Z0 - x1)) * (Z1 - x2)))) (m128.mono (by decide)) (m127.mono (by decide)) (m128.mono (by decide)) (m144.mono (by decide)) (m145.mono (by decide)) (m146.mono (by decide)) rfl rfl rfl) rfl ?_
  simp only [HH, gW, gD]
  refine call_step (n_vec_Read_0 (h0.mono (by decide)) (h1.mono (by decide)) (h2.mono (by decide))) rfl ?_
  simp only [HH, gW, gD]
  exact ret_step rfl

theorem n_frame_Of_2 {Z0 Z1 : Rat} (Y0 : Z0 = (0 : Rat)) (Y1 : Z1 = (1 : Rat)) {r0 r1 r2 : RR} {x0 x1 x2 : Rat} {k0 : Rat} (h0 : Num 900000000 r0 x0) (h1 : Num 900000000 r1 x1) (h2 : Num 900000000 r2 x2) (e0 : k0 = (((x0 * x0) + (x1 * x1)) + (x2 * x2))) (c0 : ¬k0 = Z1) : PureCalls prog F.frame_Of [.agg (gW [r0, r1, r2])] [.agg (gD [Z0, Z0, Z0, Z0, Z0, Z0, Z0, Z0, Z0]), .one (.bool false)] := by
  subst e0
  refine symFunc_sound hmix tree_frame_Of (by kernel_rfl) rfl ?_
  unfold ir_frame_Of
  simp only [HH, gW, gD]
  refine call_step (n_vec_Of (1) (0) (0) (by decide) (by decide) (by decide) (by decide) (by decide) (by decide) (Y1.trans (by decide +kernel)) (Y0.trans (by decide +kernel)) (Y0.trans (by decide +kernel))) rfl ?_
  simp only [HH, gW, gD]
  refine call_step (n_vec_Of (0) (1) (0) (by decide) (by decide) (by decide) (by decide) (by decide) (by decide) (Y0.trans (by decide +kernel)) (Y1.trans (by decide +kernel)) (Y0.trans (by decide +kernel))) rfl ?_
  simp only [HH, gW, gD]
  refine call_step (n_vec_Of (0) (0) (1) (by decide) (by decide) (by decide) (by decide) (by decide) (by decide) (Y0.trans (by decide +kernel)) (Y0.trans (by decide +kernel)) (Y1.trans (by decide +kernel))) rfl ?_
  simp only [HH, gW, gD]
  refine call_step (n_vec_Of (0) (0) (0) (by decide) (by decide) (by decide) (by decide) (by decide) (by decide) (Y0.trans (by decide +kernel)) (Y0.trans (by decide +kernel)) (Y0.trans (by decide +kernel))) rfl ?_
  simp only [HH, gW, gD]
  refine call_step (n_vec_Dot_0w (k0 := (((x0 * x0) + (x1 * x1)) + (x2 * x2))) h0 h1 h2 h0 h1 h2 (by decide) rfl) rfl ?_
  simp only [HH, gW, gD]
  refine call_step (n_rat_Of (1) (1) (by decide) (by decide) (by decide) (by decide) (Y1.trans (by decide +kernel))) rfl ?_
  simp only [HH, gW, gD]
  have m147 : Num 5400000002 (cr (((x0 * x0) + (x1 * x1)) + (x2 * x2))) (((x0 * x0) + (x1 * x1)) + (x2 * x2)) := Num.of (Sm.add (Sm.add (Sm.mul h0.sm h0.sm) (Sm.mul h1.sm h1.sm)) (Sm.mul h2.sm h2.sm))
  have m148 : Num 1 (cr Z1) Z1 := Num.c Y1 (by decide +kernel) (by decide +kernel)
  refine call_step (n_rat_Same_f (m147.mono (by decide)) (m148.mono (by decide)) c0) rfl ?_
  simp only [HH, gW, gD]
  refine primS (.bool true) rfl ?_
  refine itT rfl ?_
  exact ret_step rfl

theorem n_affine_Turn_0w  {r0 r1 r2 r3 r4 r5 r6 r7 r8 r9 r10 r11 r12 r13 r14 : RR} {x0 x1 x2 x3 x4 x5 x6 x7 x8 x9 x10 x11 x12 x13 x14 : Rat} {k0 k1 k2 : Rat} {L0 L1 L2 L3 L4 L5 L6 L7 L8 L9 L10 L11 L12 L13 L14 : Nat} (h0 : Num L0 r0 x0) (h1 : Num L1 r1 x1) (h2 : Num L2 r2 x2) (h3 : Num L3 r3 x3) (h4 : Num L4 r4 x4) (h5 : Num L5 r5 x5) (h6 : Num L6 r6 x6) (h7 : Num L7 r7 x7) (h8 : Num L8 r8 x8) (h9 : Num L9 r9 x9) (h10 : Num L10 r10 x10) (h11 : Num L11 r11 x11) (h12 : Num L12 r12 x12) (h13 : Num L13 r13 x13) (h14 : Num L14 r14 x14) (hl : L0 ≤ 20000000000 ∧ L1 ≤ 20000000000 ∧ L2 ≤ 20000000000 ∧ L3 ≤ 20000000000 ∧ L4 ≤ 20000000000 ∧ L5 ≤ 20000000000 ∧ L6 ≤ 20000000000 ∧ L7 ≤ 20000000000 ∧ L8 ≤ 20000000000 ∧ L9 ≤ 20000000000 ∧ L10 ≤ 20000000000 ∧ L11 ≤ 20000000000 ∧ L12 ≤ 20000000000 ∧ L13 ≤ 20000000000 ∧ L14 ≤ 20000000000) (e0 : k0 = (((x0 * x12) + (x1 * x13)) + (x2 * x14))) (e1 : k1 = (((x3 * x12) + (x4 * x13)) + (x5 * x14))) (e2 : k2 = (((x6 * x12) + (x7 * x13)) + (x8 * x14)))  : PureCalls prog F.affine_Turn [.agg (gW [r0, r1, r2, r3, r4, r5, r6, r7, r8, r9, r10, r11]), .agg (gW [r12, r13, r14])] [.agg (gD [k0, k1, k2])] := by
  replace h0 := h0.mono hl.1
  replace h1 := h1.mono hl.2.1
  replace h2 := h2.mono hl.2.2.1
  replace h3 := h3.mono hl.2.2.2.1
  replace h4 := h4.mono hl.2.2.2.2.1
  replace h5 := h5.mono hl.2.2.2.2.2.1
  replace h6 := h6.mono hl.2.2.2.2.2.2.1
  replace h7 := h7.mono hl.2.2.2.2.2.2.2.1
  replace h8 := h8.mono hl.2.2.2.2.2.2.2.2.1
  replace h9 := h9.mono hl.2.2.2.2.2.2.2.2.2.1
  replace h10 := h10.mono hl.2.2.2.2.2.2.2.2.2.2.1
  replace h11 := h11.mono hl.2.2.2.2.2.2.2.2.2.2.2.1
  replace h12 := h12.mono hl.2.2.2.2.2.2.2.2.2.2.2.2.1
  replace h13 := h13.mono hl.2.2.2.2.2.2.2.2.2.2.2.2.2.1
  replace h14 := h14.mono hl.2.2.2.2.2.2.2.2.2.2.2.2.2.2
  subst e0 e1 e2
  refine symFunc_sound hmix tree_affine_Turn (by kernel_rfl) rfl ?_
  unfold ir_affine_Turn
  simp only [HH, gW, gD]
  refine call_step (n_vec_Dot_0w (k0 := (((x0 * x12) + (x1 * x13)) + (x2 * x14))) h0 h1 h2 h12 h13 h14 (by decide) rfl) rfl ?_
  simp only [HH, gW, gD]
  refine call_step (n_vec_Dot_0w (k0 := (((x3 * x12) + (x4 * x13)) + (x5 * x14))) h3 h4 h5 h12 h13 h14 (by decide) rfl) rfl ?_
  simp only [HH, gW, gD]
  refine call_step (n_vec_Dot_0w (k0 := (((x6 * x12) + (x7 * x13)) + (x8 * x14))) h6 h7 h8 h12 h13 h14 (by decide) rfl) rfl ?_
  simp only [HH, gW, gD]
  exact ret_step rfl

theorem n_affine_Apply_0w  {r0 r1 r2 r3 r4 r5 r6 r7 r8 r9 r10 r11 r12 r13 r14 : RR} {x0 x1 x2 x3 x4 x5 x6 x7 x8 x9 x10 x11 x12 x13 x14 : Rat} {k0 k1 k2 : Rat} {L0 L1 L2 L3 L4 L5 L6 L7 L8 L9 L10 L11 L12 L13 L14 : Nat} (h0 : Num L0 r0 x0) (h1 : Num L1 r1 x1) (h2 : Num L2 r2 x2) (h3 : Num L3 r3 x3) (h4 : Num L4 r4 x4) (h5 : Num L5 r5 x5) (h6 : Num L6 r6 x6) (h7 : Num L7 r7 x7) (h8 : Num L8 r8 x8) (h9 : Num L9 r9 x9) (h10 : Num L10 r10 x10) (h11 : Num L11 r11 x11) (h12 : Num L12 r12 x12) (h13 : Num L13 r13 x13) (h14 : Num L14 r14 x14) (hl : L0 ≤ 900000000 ∧ L1 ≤ 900000000 ∧ L2 ≤ 900000000 ∧ L3 ≤ 900000000 ∧ L4 ≤ 900000000 ∧ L5 ≤ 900000000 ∧ L6 ≤ 900000000 ∧ L7 ≤ 900000000 ∧ L8 ≤ 900000000 ∧ L9 ≤ 900000000 ∧ L10 ≤ 900000000 ∧ L11 ≤ 900000000 ∧ L12 ≤ 900000000 ∧ L13 ≤ 900000000 ∧ L14 ≤ 900000000) (e0 : k0 = ((((x0 * x12) + (x1 * x13)) + (x2 * x14)) + x9)) (e1 : k1 = ((((x3 * x12) + (x4 * x13)) + (x5 * x14)) + x10)) (e2 : k2 = ((((x6 * x12) + (x7 * x13)) + (x8 * x14)) + x11))  : PureCalls prog F.affine_Apply [.agg (gW [r0, r1, r2, r3, r4, r5, r6, r7, r8, r9, r10, r11]), .agg (gW [r12, r13, r14])] [.agg (gD [k0, k1, k2])] := by
  replace h0 := h0.mono hl.1
  replace h1 := h1.mono hl.2.1
  replace h2 := h2.mono hl.2.2.1
  replace h3 := h3.mono hl.2.2.2.1
  replace h4 := h4.mono hl.2.2.2.2.1
  replace h5 := h5.mono hl.2.2.2.2.2.1
  replace h6 := h6.mono hl.2.2.2.2.2.2.1
  replace h7 := h7.mono hl.2.2.2.2.2.2.2.1
  replace h8 := h8.mono hl.2.2.2.2.2.2.2.2.1
  replace h9 := h9.mono hl.2.2.2.2.2.2.2.2.2.1
  replace h10 := h10.mono hl.2.2.2.2.2.2.2.2.2.2.1
  replace h11 := h11.mono hl.2.2.2.2.2.2.2.2.2.2.2.1
  replace h12 := h12.mono hl.2.2.2.2.2.2.2.2.2.2.2.2.1
  replace h13 := h13.mono hl.2.2.2.2.2.2.2.2.2.2.2.2.2.1
  replace h14 := h14.mono hl.2.2.2.2.2.2.2.2.2.2.2.2.2.2
  subst e0 e1 e2
  refine symFunc_sound hmix tree_affine_Apply (by kernel_rfl) rfl ?_
  unfold ir_affine_Apply
  simp only [HH, gW, gD]
  refine call_step (n_affine_Turn_0w (k0 := (((x0 * x12) + (x1 * x13)) + (x2 * x14))) (k1 := (((x3 * x12) + (x4 * x13)) + (x5 * x14))) (k2 := (((x6 * x12) + (x7 * x13)) + (x8 * x14))) h0 h1 h2 h3 h4 h5 h6 h7 h8 h9 h10 h11 h12 h13 h14 (by decide) rfl rfl rfl) rfl ?_
  simp only [HH, gW, gD]
  refine primS (rl3 [((cr (((x0 * x12) + (x1 * x13)) + (x2 * x14))), (cr (((x3 * x12) + (x4 * x13)) + (x5 * x14))), (cr (((x6 * x12) + (x7 * x13)) + (x8 * x14)))), (r9, r10, r11)]) rfl ?_
  have m161 : Num 5400000002 (cr (((x0 * x12) + (x1 * x13)) + (x2 * x14))) (((x0 * x12) + (x1 * x13)) + (x2 * x14)) := Num.of (Sm.add (Sm.add (Sm.mul h0.sm h12.sm) (Sm.mul h1.sm h13.sm)) (Sm.mul h2.sm h14.sm))
  have m162 : Num 5400000002 (cr (((x3 * x12) + (x4 * x13)) + (x5 * x14))) (((x3 * x12) + (x4 * x13)) + (x5 * x14)) := Num.of (Sm.add (Sm.add (Sm.mul h3.sm h12.sm) (Sm.mul h4.sm h13.sm)) (Sm.mul h5.sm h14.sm))
  have m163 : Num 5400000002 (cr (((x6 * x12) + (x7 * x13)) + (x8 * x14))) (((x6 * x12) + (x7 * x13)) + (x8 * x14)) := Num.of (Sm.add (Sm.add (Sm.mul h6.sm h12.sm) (Sm.mul h7.sm h13.sm)) (Sm.mul h8.sm h14.sm))
  refine call_step (n_vec_Sum_2 (o0 := ((((x0 * x12) + (x1 * x13)) + (x2 * x14)) + x9)) (o1 := ((((x3 * x12) + (x4 * x13)) + (x5 * x14)) + x10)) (o2 := ((((x6 * x12) + (x7 * x13)) + (x8 * x14)) + x11)) (m161.mono (by decide)) (m162.mono (by decide)) (m163.mono (by decide)) (h9.mono (by decide)) (h10.mono (by decide)) (h11.mono (by decide)) rfl rfl rfl) rfl ?_
  simp only [HH, gW, gD]
  exact ret_step rfl

theorem n_vec_minor_0  {r0 r1 r2 r3 : RR} {x0 x1 x2 x3 : Rat} {k0 : Rat} (h0 : Num 20000000000 r0 x0) (h1 : Num 20000000000 r1 x1) (h2 : Num 20000000000 r2 x2) (h3 : Num 20000000000 r3 x3) (e0 : k0 = ((x0 * x3) - (x1 * x2)))  : PureCalls prog F.vec_minor [.agg (gW [r0]), .agg (gW [r1]), .agg (gW [r2]), .agg (gW [r3])] [.agg (gD [k0])] := by
  subst e0
  refine symFunc_sound hmix tree_vec_minor (by kernel_rfl) rfl ?_
  unfold ir_vec_minor
  simp only [HH, gW, gD]
  refine primS (rl [r0, r3]) rfl ?_
  refine call_step (n_rat_Product_2 (k0 := (x0 * x3)) (h0.mono (by decide)) (h3.mono (by decide)) rfl) rfl ?_
  simp only [HH, gW, gD]
  refine primS (rl [r1, r2]) rfl ?_
  refine call_step (n_rat_Product_2 (k0 := (x1 * x2)) (h1.mono (by decide)) (h2.mono (by decide)) rfl) rfl ?_
  simp only [HH, gW, gD]
  have m174 : Num 40000000000 (cr (x0 * x3)) (x0 * x3) := Num.of (Sm.mul h0.sm h3.sm)
  have m175 : Num 40000000000 (cr (x1 * x2)) (x1 * x2) := Num.of (Sm.mul h1.sm h2.sm)
  refine call_step (n_rat_Sub (k0 := ((x0 * x3) - (x1 * x2))) (m174.mono (by decide)) (m175.mono (by decide)) rfl) rfl ?_
  simp only [HH, gW, gD]
  exact ret_step rfl

theorem n_vec_Cross_0w  {r0 r1 r2 r3 r4 r5 : RR} {x0 x1 x2 x3 x4 x5 : Rat} {k0 k1 k2 : Rat} {L0 L1 L2 L3 L4 L5 : Nat} (h0 : Num L0 r0 x0) (h1 : Num L1 r1 x1) (h2 : Num L2 r2 x2) (h3 : Num L3 r3 x3) (h4 : Num L4 r4 x4) (h5 : Num L5 r5 x5) (hl : L0 ≤ 20000000000 ∧ L1 ≤ 20000000000 ∧ L2 ≤ 20000000000 ∧ L3 ≤ 20000000000 ∧ L4 ≤ 20000000000 ∧ L5 ≤ 20000000000) (e0 : k0 = ((x1 * x5) - (x2 * x4))) (e1 : k1 = ((x2 * x3) - (x0 * x5))) (e2 : k2 = ((x0 * x4) - (x1 * x3)))  : PureCalls prog F.vec_Cross [.agg (gW [r0, r1, r2]), .agg (gW [r3, r4, r5])] [.agg (gD [k0, k1, k2])] := by
  replace h0 := h0.mono hl.1
  replace h1 := h1.mono hl.2.1
  replace h2 := h2.mono hl.2.2.1
  replace h3 := h3.mono hl.2.2.2.1
  replace h4 := h4.mono hl.2.2.2.2.1
  replace h5 := h5.mono hl.2.2.2.2.2
  subst e0 e1 e2
  refine symFunc_sound hmix tree_vec_Cross (by kernel_rfl) rfl ?_
  unfold ir_vec_Cross
  simp only [HH, gW, gD]
  refine call_step (n_vec_minor_0 (k0 := ((x1 * x5) - (x2 * x4))) (h1.mono (by decide)) (h2.mono (by decide)) (h4.mono (by decide)) (h5.mono (by decide)) rfl) rfl ?_
  simp only [HH, gW, gD]
  refine call_step (n_vec_minor_0 (k0 := ((x2 * x3) - (x0 * x5))) (h2.mono (by decide)) (h0.mono (by decide)) (h5.mono (by decide)) (h3.mono (by decide)) rfl) rfl ?_
  simp only [HH, gW, gD]
  refine call_step (n_vec_minor_0 (k0 := ((x0 * x4) - (x1 * x3))) (h0.mono (by decide)) (h1.mono (by decide)) (h3.mono (by decide)) (h4.mono (by decide)) rfl) rfl ?_
  simp only [HH, gW, gD]
  exact ret_step rfl

theorem n_affine_cofactors_0w  {r0 r1 r2 r3 r4 r5 r6 r7 r8 r9 r10 r11 : RR} {x0 x1 x2 x3 x4 x5 x6 x7 x8 x9 x10 x11 : Rat} {k0 k1 k2 k3 k4 k5 k6 k7 k8 : Rat} {L0 L1 L2 L3 L4 L5 L6 L7 L8 L9 L10 L11 : Nat} (h0 : Num L0 r0 x0) (h1 : Num L1 r1 x1) (h2 : Num L2 r2 x2) (h3 : Num L3 r3 x3) (h4 : Num L4 r4 x4) (h5 : Num L5 r5 x5) (h6 : Num L6 r6 x6) (h7 : Num L7 r7 x7) (h8 : Num L8 r8 x8) (h9 : Num L9 r9 x9) (h10 : Num L10 r10 x10) (h11 : Num L11 r11 x11) (hl : L0 ≤ 20000000000 ∧ L1 ≤ 20000000000 ∧ L2 ≤ 20000000000 ∧ L3 ≤ 20000000000 ∧ L4 ≤ 20000000000 ∧ L5 ≤ 20000000000 ∧ L6 ≤ 20000000000 ∧ L7 ≤ 20000000000 ∧ L8 ≤ 20000000000 ∧ L9 ≤ 20000000000 ∧ L10 ≤ 20000000000 ∧ L11 ≤ 20000000000) (e0 : k0 = ((x4 * x8) - (x5 * x7))) (e1 : k1 = ((x5 * x6) - (x3 * x8))) (e2 : k2 = ((x3 * x7) - (x4 * x6))) (e3 : k3 = ((x7 * x2) - (x8 * x1))) (e4 : k4 = ((x8 * x0) - (x6 * x2))) (e5 : k5 = ((x6 * x1) - (x7 * x0))) (e6 : k6 = ((x1 * x5) - (x2 * x4))) (e7 : k7 = ((x2 * x3) - (x0 * x5))) (e8 : k8 = ((x0 * x4) - (x1 * x3)))  : PureCalls prog F.affine_cofactors [.agg (gW [r0, r1, r2, r3, r4, r5, r6, r7, r8, r9, r10, r11])] [.agg (gD [k0, k1, k2, k3, k4, k5, k6, k7, k8])] := by
  replace h0 := h0.mono hl.1
  replace h1 := h1.mono hl.2.1
  replace h2 := h2.mono hl.2.2.1
  replace h3 := h3.mono hl.2.2.2.1
  replace h4 := h4.mono hl.2.2.2.2.1
  replace h5 := h5.mono hl.2.2.2.2.2.1
  replace h6 := h6.mono hl.2.2.2.2.2.2.1
  replace h7 := h7.mono hl.2.2.2.2.2.2.2.1
  replace h8 := h8.mono hl.2.2.2.2.2.2.2.2.1
  replace h9 := h9.mono hl.2.2.2.2.2.2.2.2.2.1
  replace h10 := h10.mono hl.2.2.2.2.2.2.2.2.2.2.1
  replace h11 := h11.mono hl.2.2.2.2.2.2.2.2.2.2.2
  subst e0 e1 e2 e3 e4 e5 e6 e7 e8
  refine symFunc_sound hmix tree_affine_cofactors (by kernel_rfl) rfl ?_
  unfold ir_affine_cofactors
  simp only [HH, gW, gD]
  refine call_step (n_vec_Cross_0w (k0 := ((x4 * x8) - (x5 * x7))) (k1 := ((x5 * x6) - (x3 * x8))) (k2 := ((x3 * x7) - (x4 * x6))) h3 h4 h5 h6 h7 h8 (by decide) rfl rfl rfl) rfl ?_
  simp only [HH, gW, gD]
  refine call_step (n_vec_Cross_0w (k0 := ((x7 * x2) - (x8 * x1))) (k1 := ((x8 * x0) - (x6 * x2))) (k2 := ((x6 * x1) - (x7 * x0))) h6 h7 h8 h0 h1 h2 (by decide) rfl rfl rfl) rfl ?_
  simp only [HH, gW, gD]
  refine call_step (n_vec_Cross_0w (k0 := ((x1 * x5) - (x2 * x4))) (k1 := ((x2 * x3) - (x0 * x5))) (k2 := ((x0 * x4) - (x1 * x3))) h0 h1 h2 h3 h4 h5 (by decide) rfl rfl rfl) rfl ?_
  simp only [HH, gW, gD]
  exact ret_step rfl

theorem n_affine_Area_0w  {r0 r1 r2 r3 r4 r5 r6 r7 r8 r9 r10 r11 r12 r13 r14 : RR} {x0 x1 x2 x3 x4 x5 x6 x7 x8 x9 x10 x11 x12 x13 x14 : Rat} {k0 k1 k2 : Rat} {L0 L1 L2 L3 L4 L5 L6 L7 L8 L9 L10 L11 L12 L13 L14 : Nat} (h0 : Num L0 r0 x0) (h1 : Num L1 r1 x1) (h2 : Num L2 r2 x2) (h3 : Num L3 r3 x3) (h4 : Num L4 r4 x4) (h5 : Num L5 r5 x5) (h6 : Num L6 r6 x6) (h7 : Num L7 r7 x7) (h8 : Num L8 r8 x8) (h9 : Num L9 r9 x9) (h10 : Num L10 r10 x10) (h11 : Num L11 r11 x11) (h12 : Num L12 r12 x12) (h13 : Num L13 r13 x13) (h14 : Num L14 r14 x14) (hl : L0 ≤ 4000000000 ∧ L1 ≤ 4000000000 ∧ L2 ≤ 4000000000 ∧ L3 ≤ 4000000000 ∧ L4 ≤ 4000000000 ∧ L5 ≤ 4000000000 ∧ L6 ≤ 4000000000 ∧ L7 ≤ 4000000000 ∧ L8 ≤ 4000000000 ∧ L9 ≤ 4000000000 ∧ L10 ≤ 4000000000 ∧ L11 ≤ 4000000000 ∧ L12 ≤ 4000000000 ∧ L13 ≤ 4000000000 ∧ L14 ≤ 4000000000) (e0 : k0 = (((((x4 * x8) - (x5 * x7)) * x12) + (((x5 * x6) - (x3 * x8)) * x13)) + (((x3 * x7) - (x4 * x6)) * x14))) (e1 : k1 = (((((x7 * x2) - (x8 * x1)) * x12) + (((x8 * x0) - (x6 * x2)) * x13)) + (((x6 * x1) - (x7 * x0)) * x14))) (e2 : k2 = (((((x1 * x5) - (x2 * x4)) * x12) + (((x2 * x3) - (x0 * x5)) * x13)) + (((x0 * x4) - (x1 * x3)) * x14)))  : PureCalls prog F.affine_Area [.agg (gW [r0, r1, r2, r3, r4, r5, r6, r7, r8, r9, r10, r11]), .agg (gW [r12, r13, r14])] [.agg (gD [k0, k1, k2])] := by
  replace h0 := h0.mono hl.1
  replace h1 := h1.mono hl.2.1
  replace h2 := h2.mono hl.2.2.1
  replace h3 := h3.mono hl.2.2.2.1
  replace h4 := h4.mono hl.2.2.2.2.1
  replace h5 := h5.mono hl.2.2.2.2.2.1
  replace h6 := h6.mono hl.2.2.2.2.2.2.1
  replace h7 := h7.mono hl.2.2.2.2.2.2.2.1
  replace h8 := h8.mono hl.2.2.2.2.2.2.2.2.1
  replace h9 := h9.mono hl.2.2.2.2.2.2.2.2.2.1
  replace h10 := h10.mono hl.2.2.2.2.2.2.2.2.2.2.1
  replace h11 := h11.mono hl.2.2.2.2.2.2.2.2.2.2.2.1
  replace h12 := h12.mono hl.2.2.2.2.2.2.2.2.2.2.2.2.1
  replace h13 := h13.mono hl.2.2.2.2.2.2.2.2.2.2.2.2.2.1
  replace h14 := h14.mono hl.2.2.2.2.2.2.2.2.2.2.2.2.2.2
  subst e0 e1 e2
  refine symFunc_sound hmix tree_affine_Area (by kernel_rfl) rfl ?_
  unfold ir_affine_Area
  simp only [HH, gW, gD]
  refine call_step (n_affine_cofactors_0w (k0 := ((x4 * x8) - (x5 * x7))) (k1 := ((x5 * x6) - (x3 * x8))) (k2 := ((x3 * x7) - (x4 * x6))) (k3 := ((x7 * x2) - (x8 * x1))) (k4 := ((x8 * x0) - (x6 * x2))) (k5 := ((x6 * x1) - (x7 * x0))) (k6 := ((x1 * x5) - (x2 * x4))) (k7 := ((x2 * x3) - (x0 * x5))) (k8 := ((x0 * x4) - (x1 * x3))) h0 h1 h2 h3 h4 h5 h6 h7 h8 h9 h10 h11 (by decide) rfl rfl rfl rfl rfl rfl rfl rfl rfl) rfl ?_
  simp only [HH, gW, gD]
  have m185 : Num 16000000001 (cr ((x4 * x8) - (x5 * x7))) ((x4 * x8) - (x5 * x7)) := Num.of (Sm.sub (Sm.mul h4.sm h8.sm) (Sm.mul h5.sm h7.sm))
  have m186 : Num 16000000001 (cr ((x5 * x6) - (x3 * x8))) ((x5 * x6) - (x3 * x8)) := Num.of (Sm.sub (Sm.mul h5.sm h6.sm) (Sm.mul h3.sm h8.sm))
  have m187 : Num 16000000001 (cr ((x3 * x7) - (x4 * x6))) ((x3 * x7) - (x4 * x6)) := Num.of (Sm.sub (Sm.mul h3.sm h7.sm) (Sm.mul h4.sm h6.sm))
  refine call_step (n_vec_Dot_0w (k0 := (((((x4 * x8) - (x5 * x7)) * x12) + (((x5 * x6) - (x3 * x8)) * x13)) + (((x3 * x7) - (x4 * x6)) * x14))) m185 m186 m187 h12 h13 h14 (by decide) rfl) rfl ?_
  simp only [HH, gW, gD]
  have m188 : Num 16000000001 (cr ((x7 * x2) - (x8 * x1))) ((x7 * x2) - (x8 * x1)) := Num.of (Sm.sub (Sm.mul h7.sm h2.sm) (Sm.mul h8.sm h1.sm))
  have m189 : Num 16000000001 (cr ((x8 * x0) - (x6 * x2))) ((x8 * x0) - (x6 * x2)) := Num.of (Sm.sub (Sm.mul h8.sm h0.sm) (Sm.mul h6.sm h2.sm))
  have m190 : Num 16000000001 (cr ((x6 * x1) - (x7 * x0))) ((x6 * x1) - (x7 * x0)) := Num.of (Sm.sub (Sm.mul h6.sm h1.sm) (Sm.mul h7.sm h0.sm))
  refine call_step (n_vec_Dot_0w (k0 := (((((x7 * x2) - (x8 * x1)) * x12) + (((x8 * x0) - (x6 * x2)) * x13)) + (((x6 * x1) - (x7 * x0)) * x14))) m188 m189 m190 h12 h13 h14 (by decide) rfl) rfl ?_
  simp only [HH, gW, gD]
  have m191 : Num 16000000001 (cr ((x1 * x5) - (x2 * x4))) ((x1 * x5) - (x2 * x4)) := Num.of (Sm.sub (Sm.mul h1.sm h5.sm) (Sm.mul h2.sm h4.sm))
  have m192 : Num 16000000001 (cr ((x2 * x3) - (x0 * x5))) ((x2 * x3) - (x0 * x5)) := Num.of (Sm.sub (Sm.mul h2.sm h3.sm) (Sm.mul h0.sm h5.sm))
  have m193 : Num 16000000001 (cr ((x0 * x4) - (x1 * x3))) ((x0 * x4) - (x1 * x3)) := Num.of (Sm.sub (Sm.mul h0.sm h4.sm) (Sm.mul h1.sm h3.sm))
  refine call_step (n_vec_Dot_0w (k0 := (((((x1 * x5) - (x2 * x4)) * x12) + (((x2 * x3) - (x0 * x5)) * x13)) + (((x0 * x4) - (x1 * x3)) * x14))) m191 m192 m193 h12 h13 h14 (by decide) rfl) rfl ?_
  simp only [HH, gW, gD]
  exact ret_step rfl

theorem n_affine_Det_0w  {r0 r1 r2 r3 r4 r5 r6 r7 r8 r9 r10 r11 : RR} {x0 x1 x2 x3 x4 x5 x6 x7 x8 x9 x10 x11 : Rat} {k0 : Rat} {L0 L1 L2 L3 L4 L5 L6 L7 L8 L9 L10 L11 : Nat} (h0 : Num L0 r0 x0) (h1 : Num L1 r1 x1) (h2 : Num L2 r2 x2) (h3 : Num L3 r3 x3) (h4 : Num L4 r4 x4) (h5 : Num L5 r5 x5) (h6 : Num L6 r6 x6) (h7 : Num L7 r7 x7) (h8 : Num L8 r8 x8) (h9 : Num L9 r9 x9) (h10 : Num L10 r10 x10) (h11 : Num L11 r11 x11) (hl : L0 ≤ 4000000000 ∧ L1 ≤ 4000000000 ∧ L2 ≤ 4000000000 ∧ L3 ≤ 4000000000 ∧ L4 ≤ 4000000000 ∧ L5 ≤ 4000000000 ∧ L6 ≤ 4000000000 ∧ L7 ≤ 4000000000 ∧ L8 ≤ 4000000000 ∧ L9 ≤ 4000000000 ∧ L10 ≤ 4000000000 ∧ L11 ≤ 4000000000) (e0 : k0 = (((x0 * ((x4 * x8) - (x5 * x7))) + (x1 * ((x5 * x6) - (x3 * x8)))) + (x2 * ((x3 * x7) - (x4 * x6)))))  : PureCalls prog F.affine_Det [.agg (gW [r0, r1, r2, r3, r4, r5, r6, r7, r8, r9, r10, r11])] [.agg (gD [k0])] := by
  replace h0 := h0.mono hl.1
  replace h1 := h1.mono hl.2.1
  replace h2 := h2.mono hl.2.2.1
  replace h3 := h3.mono hl.2.2.2.1
  replace h4 := h4.mono hl.2.2.2.2.1
  replace h5 := h5.mono hl.2.2.2.2.2.1
  replace h6 := h6.mono hl.2.2.2.2.2.2.1
  replace h7 := h7.mono hl.2.2.2.2.2.2.2.1
  replace h8 := h8.mono hl.2.2.2.2.2.2.2.2.1
  replace h9 := h9.mono hl.2.2.2.2.2.2.2.2.2.1
  replace h10 := h10.mono hl.2.2.2.2.2.2.2.2.2.2.1
  replace h11 := h11.mono hl.2.2.2.2.2.2.2.2.2.2.2
  subst e0
  refine symFunc_sound hmix tree_affine_Det (by kernel_rfl) rfl ?_
  unfold ir_affine_Det
  simp only [HH, gW, gD]
  refine call_step (n_vec_Cross_0w (k0 := ((x4 * x8) - (x5 * x7))) (k1 := ((x5 * x6) - (x3 * x8))) (k2 := ((x3 * x7) - (x4 * x6))) h3 h4 h5 h6 h7 h8 (by decide) rfl rfl rfl) rfl ?_
  simp only [HH, gW, gD]
  have m197 : Num 16000000001 (cr ((x4 * x8) - (x5 * x7))) ((x4 * x8) - (x5 * x7)) := Num.of (Sm.sub (Sm.mul h4.sm h8.sm) (Sm.mul h5.sm h7.sm))
  have m198 : Num 16000000001 (cr ((x5 * x6) - (x3 * x8))) ((x5 * x6) - (x3 * x8)) := Num.of (Sm.sub (Sm.mul h5.sm h6.sm) (Sm.mul h3.sm h8.sm))
  have m199 : Num 16000000001 (cr ((x3 * x7) - (x4 * x6))) ((x3 * x7) - (x4 * x6)) := Num.of (Sm.sub (Sm.mul h3.sm h7.sm) (Sm.mul h4.sm h6.sm))
  refine call_step (n_vec_Dot_0w (k0 := (((x0 * ((x4 * x8) - (x5 * x7))) + (x1 * ((x5 * x6) - (x3 * x8)))) + (x2 * ((x3 * x7) - (x4 * x6))))) h0 h1 h2 m197 m198 m199 (by decide) rfl) rfl ?_
  simp only [HH, gW, gD]
  exact ret_step rfl

theorem n_affine_Identity_0 {Z0 Z1 : Rat} (Y0 : Z0 = (0 : Rat)) (Y1 : Z1 = (1 : Rat))    : PureCalls prog F.affine_Identity [] [.agg (gD [Z1, Z0, Z0, Z0, Z1, Z0, Z0, Z0, Z1, Z0, Z0, Z0])] := by
  refine symFunc_sound hmix tree_affine_Identity (by kernel_rfl) rfl ?_
  unfold ir_affine_Identity
  simp only [HH, gW, gD]
  refine call_step (n_vec_Of (1) (0) (0) (by decide) (by decide) (by decide) (by decide) (by decide) (by decide) (Y1.trans (by decide +kernel)) (Y0.trans (by decide +kernel)) (Y0.trans (by decide +kernel))) rfl ?_
  simp only [HH, gW, gD]
  refine call_step (n_vec_Of (0) (1) (0) (by decide) (by decide) (by decide) (by decide) (by decide) (by decide) (Y0.trans (by decide +kernel)) (Y1.trans (by decide +kernel)) (Y0.trans (by decide +kernel))) rfl ?_
  simp only [HH, gW, gD]
  refine call_step (n_vec_Of (0) (0) (1) (by decide) (by decide) (by decide) (by decide) (by decide) (by decide) (Y0.trans (by decide +kernel)) (Y0.trans (by decide +kernel)) (Y1.trans (by decide +kernel))) rfl ?_
  simp only [HH, gW, gD]
  refine call_step (n_vec_Of (0) (0) (0) (by decide) (by decide) (by decide) (by decide) (by decide) (by decide) (Y0.trans (by decide +kernel)) (Y0.trans (by decide +kernel)) (Y0.trans (by decide +kernel))) rfl ?_
  simp only [HH, gW, gD]
  exact ret_step rfl

theorem n_frame_In_0w  {r0 r1 r2 r3 r4 r5 r6 r7 r8 r9 r10 r11 : RR} {x0 x1 x2 x3 x4 x5 x6 x7 x8 x9 x10 x11 : Rat} {k0 k1 k2 : Rat} {L0 L1 L2 L3 L4 L5 L6 L7 L8 L9 L10 L11 : Nat} (h0 : Num L0 r0 x0) (h1 : Num L1 r1 x1) (h2 : Num L2 r2 x2) (h3 : Num L3 r3 x3) (h4 : Num L4 r4 x4) (h5 : Num L5 r5 x5) (h6 : Num L6 r6 x6) (h7 : Num L7 r7 x7) (h8 : Num L8 r8 x8) (h9 : Num L9 r9 x9) (h10 : Num L10 r10 x10) (h11 : Num L11 r11 x11) (hl : L0 ≤ 20000000000 ∧ L1 ≤ 20000000000 ∧ L2 ≤ 20000000000 ∧ L3 ≤ 20000000000 ∧ L4 ≤ 20000000000 ∧ L5 ≤ 20000000000 ∧ L6 ≤ 20000000000 ∧ L7 ≤ 20000000000 ∧ L8 ≤ 20000000000 ∧ L9 ≤ 20000000000 ∧ L10 ≤ 20000000000 ∧ L11 ≤ 20000000000) (e0 : k0 = (((x9 * x0) + (x10 * x1)) + (x11 * x2))) (e1 : k1 = (((x9 * x3) + (x10 * x4)) + (x11 * x5))) (e2 : k2 = (((x9 * x6) + (x10 * x7)) + (x11 * x8)))  : PureCalls prog F.frame_In [.agg (gW [r0, r1, r2, r3, r4, r5, r6, r7, r8]), .agg (gW [r9, r10, r11])] [.agg (gD [k0, k1, k2])] := by
  replace h0 := h0.mono hl.1
  replace h1 := h1.mono hl.2.1
  replace h2 := h2.mono hl.2.2.1
  replace h3 := h3.mono hl.2.2.2.1
  replace h4 := h4.mono hl.2.2.2.2.1
  replace h5 := h5.mono hl.2.2.2.2.2.1
  replace h6 := h6.mono hl.2.2.2.2.2.2.1
  replace h7 := h7.mono hl.2.2.2.2.2.2.2.1
  replace h8 := h8.mono hl.2.2.2.2.2.2.2.2.1
  replace h9 := h9.mono hl.2.2.2.2.2.2.2.2.2.1
  replace h10 := h10.mono hl.2.2.2.2.2.2.2.2.2.2.1
  replace h11 := h11.mono hl.2.2.2.2.2.2.2.2.2.2.2
  subst e0 e1 e2
  refine symFunc_sound hmix tree_frame_In (by kernel_rfl) rfl ?_
  unfold ir_frame_In
  simp only [HH, gW, gD]
  refine call_step (n_vec_Dot_0w (k0 := (((x9 * x0) + (x10 * x1)) + (x11 * x2))) h9 h10 h11 h0 h1 h2 (by decide) rfl) rfl ?_
  simp only [HH, gW, gD]
  refine call_step (n_vec_Dot_0w (k0 := (((x9 * x3) + (x10 * x4)) + (x11 * x5))) h9 h10 h11 h3 h4 h5 (by decide) rfl) rfl ?_
  simp only [HH, gW, gD]
  refine call_step (n_vec_Dot_0w (k0 := (((x9 * x6) + (x10 * x7)) + (x11 * x8))) h9 h10 h11 h6 h7 h8 (by decide) rfl) rfl ?_
  simp only [HH, gW, gD]
  exact ret_step rfl

theorem n_frame_Slopes_1w {Z0 : Rat} (Y0 : Z0 = (0 : Rat)) {r0 r1 r2 r3 r4 r5 r6 r7 r8 r9 r10 r11 : RR} {x0 x1 x2 x3 x4 x5 x6 x7 x8 x9 x10 x11 : Rat} {k0 k1 k2 : Rat} {L0 L1 L2 L3 L4 L5 L6 L7 L8 L9 L10 L11 : Nat} (h0 : Num L0 r0 x0) (h1 : Num L1 r1 x1) (h2 : Num L2 r2 x2) (h3 : Num L3 r3 x3) (h4 : Num L4 r4 x4) (h5 : Num L5 r5 x5) (h6 : Num L6 r6 x6) (h7 : Num L7 r7 x7) (h8 : Num L8 r8 x8) (h9 : Num L9 r9 x9) (h10 : Num L10 r10 x10) (h11 : Num L11 r11 x11) (hl : L0 ≤ 6000000000 ∧ L1 ≤ 6000000000 ∧ L2 ≤ 6000000000 ∧ L3 ≤ 6000000000 ∧ L4 ≤ 6000000000 ∧ L5 ≤ 6000000000 ∧ L6 ≤ 6000000000 ∧ L7 ≤ 6000000000 ∧ L8 ≤ 6000000000 ∧ L9 ≤ 6000000000 ∧ L10 ≤ 6000000000 ∧ L11 ≤ 6000000000) (e0 : k0 = (((x9 * x6) + (x10 * x7)) + (x11 * x8))) (e1 : k1 = ((((x9 * x0) + (x10 * x1)) + (x11 * x2)) / k0)) (e2 : k2 = ((((x9 * x3) + (x10 * x4)) + (x11 * x5)) / k0)) (c0 : ¬k0 = Z0) : PureCalls prog F.frame_Slopes [.agg (gW [r0, r1, r2, r3, r4, r5, r6, r7, r8]), .agg (gW [r9, r10, r11])] [.agg (gD [k1]), .agg (gD [k2]), .agg (gD [k0]), .one (.bool true)] := by
  replace h0 := h0.mono hl.1
  replace h1 := h1.mono hl.2.1
  replace h2 := h2.mono hl.2.2.1
  replace h3 := h3.mono hl.2.2.2.1
  replace h4 := h4.mono hl.2.2.2.2.1
  replace h5 := h5.mono hl.2.2.2.2.2.1
  replace h6 := h6.mono hl.2.2.2.2.2.2.1
  replace h7 := h7.mono hl.2.2.2.2.2.2.2.1
  replace h8 := h8.mono hl.2.2.2.2.2.2.2.2.1
  replace h9 := h9.mono hl.2.2.2.2.2.2.2.2.2.1
  replace h10 := h10.mono hl.2.2.2.2.2.2.2.2.2.2.1
  replace h11 := h11.mono hl.2.2.2.2.2.2.2.2.2.2.2
  subst e0 e1 e2
  refine symFunc_sound hmix tree_frame_Slopes (by kernel_rfl) rfl ?_
  unfold ir_frame_Slopes
  simp only [HH, gW, gD]
  refine call_step (n_frame_In_0w (k0 := (((x9 * x0) + (x10 * x1)) + (x11 * x2))) (k1 := (((x9 * x3) + (x10 * x4)) + (x11 * x5))) (k2 := (((x9 * x6) + (x10 * x7)) + (x11 * x8))) h0 h1 h2 h3 h4 h5 h6 h7 h8 h9 h10 h11 (by decide) rfl rfl rfl) rfl ?_
  simp only [HH, gW, gD]
  have m209 : Num 36000000002 (cr (((x9 * x0) + (x10 * x1)) + (x11 * x2))) (((x9 * x0) + (x10 * x1)) + (x11 * x2)) := Num.of (Sm.add (Sm.add (Sm.mul h9.sm h0.sm) (Sm.mul h10.sm h1.sm)) (Sm.mul h11.sm h2.sm))
  have m210 : Num 36000000002 (cr (((x9 * x6) + (x10 * x7)) + (x11 * x8))) (((x9 * x6) + (x10 * x7)) + (x11 * x8)) := Num.of (Sm.add (Sm.add (Sm.mul h9.sm h6.sm) (Sm.mul h10.sm h7.sm)) (Sm.mul h11.sm h8.sm))
  refine call_step (n_rat_Div_f (k0 := ((((x9 * x0) + (x10 * x1)) + (x11 * x2)) / (((x9 * x6) + (x10 * x7)) + (x11 * x8)))) Y0 (m209.mono (by decide)) (m210.mono (by decide)) rfl c0) rfl ?_
  simp only [HH, gW, gD]
  have m211 : Num 36000000002 (cr (((x9 * x3) + (x10 * x4)) + (x11 * x5))) (((x9 * x3) + (x10 * x4)) + (x11 * x5)) := Num.of (Sm.add (Sm.add (Sm.mul h9.sm h3.sm) (Sm.mul h10.sm h4.sm)) (Sm.mul h11.sm h5.sm))
  refine call_step (n_rat_Div_f (k0 := ((((x9 * x3) + (x10 * x4)) + (x11 * x5)) / (((x9 * x6) + (x10 * x7)) + (x11 * x8)))) Y0 (m211.mono (by decide)) (m210.mono (by decide)) rfl c0) rfl ?_
  simp only [HH, gW, gD]
  exact ret_step rfl

theorem n_warp_one_0 {Z1 : Rat} (Y1 : Z1 = (1 : Rat))    : PureCalls prog F.warp_one [] [.agg (gD [Z1])] := by
  refine symFunc_sound hmix tree_warp_one (by kernel_rfl) rfl ?_
  unfold ir_warp_one
  simp only [HH, gW, gD]
  refine call_step (n_rat_Of (1) (1) (by decide) (by decide) (by decide) (by decide) (Y1.trans (by decide +kernel))) rfl ?_
  simp only [HH, gW, gD]
  exact ret_step rfl

theorem n_warp_over_1 {Z0 : Rat} (Y0 : Z0 = (0 : Rat)) {r0 r1 : RR} {x0 x1 : Rat} {k0 : Rat} (h0 : Num 40000000000 r0 x0) (h1 : Num 40000000000 r1 x1) (e0 : k0 = (x0 / x1)) (c0 : ¬x1 = Z0) : PureCalls prog F.warp_over [.agg (gW [r0]), .agg (gW [r1])] [.agg (gD [k0])] := by
  subst e0
  refine symFunc_sound hmix tree_warp_over (by kernel_rfl) rfl ?_
  unfold ir_warp_over
  simp only [HH, gW, gD]
  refine call_step (n_rat_Div_f (k0 := (x0 / x1)) Y0 (h0.mono (by decide)) (h1.mono (by decide)) rfl c0) rfl ?_
  simp only [HH, gW, gD]
  exact ret_step rfl

theorem n_warp_Density_0 {Z0 Z1_2 Z1 : Rat} (Y0 : Z0 = (0 : Rat)) (Y1_2 : Z1_2 = (1/2 : Rat)) (Y1 : Z1 = (1 : Rat)) {r0 : RR} {x0 : Rat} {k0 : Rat} (h0 : Num 15000000000 r0 x0) (e0 : k0 = (Z1_2 / ((Z1 + (x0).abs) * (Z1 + (x0).abs))))  : PureCalls prog F.warp_Density [.agg (gW [r0])] [.agg (gD [k0])] := by
  subst e0
  refine symFunc_sound hmix tree_warp_Density (by kernel_rfl) rfl ?_
  unfold ir_warp_Density
  simp only [HH, gW, gD]
  refine call_step (n_warp_one_0 Y1) rfl ?_
  simp only [HH, gW, gD]
  refine call_step (n_rat_Abs_o (k0 := (x0).abs) (h0.mono (by decide)) rfl) rfl ?_
  simp only [HH, gW, gD]
  refine primS (rl [(cr Z1), (cr (x0).abs)]) rfl ?_
  have m236 : Num 1 (cr Z1) Z1 := Num.c Y1 (by decide +kernel) (by decide +kernel)
  have m237 : Num 15000000000 (cr (x0).abs) (x0).abs := Num.of (Sm.abs h0.sm)
  refine call_step (n_rat_Sum_2 (k0 := (Z1 + (x0).abs)) (m236.mono (by decide)) (m237.mono (by decide)) rfl) rfl ?_
  simp only [HH, gW, gD]
  refine call_step (n_rat_Of (1) (2) (by decide) (by decide) (by decide) (by decide) (Y1_2.trans (by decide +kernel))) rfl ?_
  simp only [HH, gW, gD]
  refine primS (rl [(cr (Z1 + (x0).abs)), (cr (Z1 + (x0).abs))]) rfl ?_
  have m239 : Num 15000000002 (cr (Z1 + (x0).abs)) (Z1 + (x0).abs) := Num.of (Sm.add m236.sm m237.sm)
  refine call_step (n_rat_Product_2 (k0 := ((Z1 + (x0).abs) * (Z1 + (x0).abs))) (m239.mono (by decide)) (m239.mono (by decide)) rfl) rfl ?_
  simp only [HH, gW, gD]
  have m240 : Num 1 (cr Z1_2) Z1_2 := Num.c Y1_2 (by decide +kernel) (by decide +kernel)
  have m241 : Num 30000000004 (cr ((Z1 + (x0).abs) * (Z1 + (x0).abs))) ((Z1 + (x0).abs) * (Z1 + (x0).abs)) := Num.of (Sm.mul m239.sm m239.sm)
  refine call_step (n_warp_over_1 (k0 := (Z1_2 / ((Z1 + (x0).abs) * (Z1 + (x0).abs)))) Y0 (m240.mono (by decide)) (m241.mono (by decide)) rfl (dns_ne Y0 Y1)) rfl ?_
  simp only [HH, gW, gD]
  exact ret_step rfl

theorem n_warp_Density {r0 : RR} {x0 k0 : Rat} (h0 : Num 15000000000 r0 x0) (e : k0 = dns x0) : PureCalls prog F.warp_Density [.agg (gW [r0])] [.agg (gD [k0])] := by
  obtain ⟨Z0, Y0⟩ := ex_eq (0 : Rat)
  obtain ⟨Z1_2, Y1_2⟩ := ex_eq (1/2 : Rat)
  obtain ⟨Z1, Y1⟩ := ex_eq (1 : Rat)
  exact n_warp_Density_0 Y0 Y1_2 Y1 h0 (e.trans (dns_eq Y1 Y1_2))

theorem n_dens_cube_0  {r0 : RR} {x0 : Rat} {k0 : Rat} (h0 : Num 40000000000 r0 x0) (e0 : k0 = ((x0 * x0) * x0))  : PureCalls prog F.dens_cube [.agg (gW [r0])] [.agg (gD [k0])] := by
  subst e0
  refine symFunc_sound hmix tree_dens_cube (by kernel_rfl) rfl ?_
  unfold ir_dens_cube
  simp only [HH, gW, gD]
  refine primS (rl [r0, r0, r0]) rfl ?_
  refine call_step (n_rat_Product_3 (k0 := ((x0 * x0) * x0)) (h0.mono (by decide)) (h0.mono (by decide)) (h0.mono (by decide)) rfl) rfl ?_
  simp only [HH, gW, gD]
  exact ret_step rfl

theorem n_dens_over_1 {Z0 : Rat} (Y0 : Z0 = (0 : Rat)) {r0 r1 : RR} {x0 x1 : Rat} {k0 : Rat} (h0 : Num 40000000000 r0 x0) (h1 : Num 40000000000 r1 x1) (e0 : k0 = (x0 / x1)) (c0 : ¬x1 = Z0) : PureCalls prog F.dens_over [.agg (gW [r0]), .agg (gW [r1])] [.agg (gD [k0])] := by
  subst e0
  refine symFunc_sound hmix tree_dens_over (by kernel_rfl) rfl ?_
  unfold ir_dens_over
  simp only [HH, gW, gD]
  refine call_step (n_rat_Div_f (k0 := (x0 / x1)) Y0 (h0.mono (by decide)) (h1.mono (by decide)) rfl c0) rfl ?_
  simp only [HH, gW, gD]
  exact ret_step rfl

theorem n_penumbralaw16_fixed : PureCalls prog F.penumbralaw16_fixed [] [.one (.bool true)] := by
  obtain ⟨Zm2, Ym2⟩ := ex_eq (-2 : Rat)
  obtain ⟨Zm1, Ym1⟩ := ex_eq (-1 : Rat)
  obtain ⟨Z0, Y0⟩ := ex_eq (0 : Rat)
  obtain ⟨Z1_16, Y1_16⟩ := ex_eq (1/16 : Rat)
  obtain ⟨Z1_4, Y1_4⟩ := ex_eq (1/4 : Rat)
  obtain ⟨Z1_2, Y1_2⟩ := ex_eq (1/2 : Rat)
  obtain ⟨Z1, Y1⟩ := ex_eq (1 : Rat)
  obtain ⟨Z2, Y2⟩ := ex_eq (2 : Rat)
  obtain ⟨Z4, Y4⟩ := ex_eq (4 : Rat)
  obtain ⟨Z8, Y8⟩ := ex_eq (8 : Rat)
  obtain ⟨Z16, Y16⟩ := ex_eq (16 : Rat)
  refine symFunc_sound hmix tree_penumbralaw16_fixed (by kernel_rfl) rfl ?_
  unfold ir_penumbralaw16_fixed
  simp only [HH, gW, gD]
  refine call_step (n_vec_Of (0) (0) (0) (by decide) (by decide) (by decide) (by decide) (by decide) (by decide) (Y0.trans (by decide +kernel)) (Y0.trans (by decide +kernel)) (Y0.trans (by decide +kernel))) rfl ?_
  simp only [HH, gW, gD]
  refine call_step (n_vec_Of (0) (0) (1) (by decide) (by decide) (by decide) (by decide) (by decide) (by decide) (Y0.trans (by decide +kernel)) (Y0.trans (by decide +kernel)) (Y1.trans (by decide +kernel))) rfl ?_
  simp only [HH, gW, gD]
  refine call_step (n_vec_Of (0) (0) (2) (by decide) (by decide) (by decide) (by decide) (by decide) (by decide) (Y0.trans (by decide +kernel)) (Y0.trans (by decide +kernel)) (Y2.trans (by decide +kernel))) rfl ?_
  simp only [HH, gW, gD]
  refine call_step (n_vec_Of (0) (0) (-1) (by decide) (by decide) (by decide) (by decide) (by decide) (by decide) (Y0.trans (by decide +kernel)) (Y0.trans (by decide +kernel)) (Ym1.trans (by decide +kernel))) rfl ?_
  simp only [HH, gW, gD]
  refine call_step (n_vec_Of (0) (0) (2) (by decide) (by decide) (by decide) (by decide) (by decide) (by decide) (Y0.trans (by decide +kernel)) (Y0.trans (by decide +kernel)) (Y2.trans (by decide +kernel))) rfl ?_
  simp only [HH, gW, gD]
  refine call_step (n_vec_Of (0) (0) (1) (by decide) (by decide) (by decide) (by decide) (by decide) (by decide) (Y0.trans (by decide +kernel)) (Y0.trans (by decide +kernel)) (Y1.trans (by decide +kernel))) rfl ?_
  simp only [HH, gW, gD]
  refine call_step (n_affine_Identity_0 Y0 Y1) rfl ?_
  simp only [HH, gW, gD]
  have m244 : Num 1 (cr Z0) Z0 := Num.c Y0 (by decide +kernel) (by decide +kernel)
  have m245 : Num 1 (cr Z1) Z1 := Num.c Y1 (by decide +kernel) (by decide +kernel)
  have m246 : Num 1 (cr Zm1) Zm1 := Num.c Ym1 (by decide +kernel) (by decide +kernel)
  have m247 : Num 1 (cr Z2) Z2 := Num.c Y2 (by decide +kernel) (by decide +kernel)
  have m248 : Num 1 (cr Zm2) Zm2 := Num.c Ym2 (by decide +kernel) (by decide +kernel)
  have hc249 : PureCalls prog F.dens_seen [.agg (gD [Z0, Z0, Z0, Z0, Z0, Z1]), .agg (gD [Z0, Z0, Z2, Z0, Z0, Zm1]), .agg (gD [Z1, Z0, Z0, Z0, Z1, Z0, Z0, Z0, Z1, Z0, Z0, Z0])] [.agg (gD [Z1, Z0, Z0, Z0, Z1, Z0, Z0, Z0, Z1, Z0, Z0, Z2, Z2, Z2]), .one (.bool true)] := by
    refine symFunc_sound hmix tree_dens_seen (by kernel_rfl) rfl ?_
    unfold ir_dens_seen
    simp only [HH, gW, gD]
    refine call_step (n_frame_Of_0 (k0 := Z1) (k1 := Z0) Ym2 Y0 Y1 (m244.mono (by decide)) (m244.mono (by decide)) (m245.mono (by decide)) (by rw [Y1, Y0] <;> decide +kernel) (by rw [Y0, Y1] <;> decide +kernel) rfl rfl) rfl ?_
    simp only [HH, gW, gD]
    refine primS (.bool false) rfl ?_
    refine itF rfl ?_
    refine call_step (n_vec_Dot_0w (k0 := Z1) m244 m244 m246 m244 m244 m246 (by decide) (by rw [Y1, Y0, Ym1] <;> decide +kernel)) rfl ?_
    simp only [HH, gW, gD]
    refine call_step (n_rat_Of (1) (1) (by decide) (by decide) (by decide) (by decide) (Y1.trans (by decide +kernel))) rfl ?_
    simp only [HH, gW, gD]
    refine call_step (n_rat_Same_t (m245.mono (by decide)) (m245.mono (by decide)) rfl) rfl ?_
    simp only [HH, gW, gD]
    refine primS (.bool false) rfl ?_
    refine itF rfl ?_
    refine call_step (n_affine_Apply_0w (k0 := Z0) (k1 := Z0) (k2 := Z2) m245 m244 m244 m244 m245 m244 m244 m244 m245 m244 m244 m244 m244 m244 m247 (by decide) (by rw [Y0, Y1, Y2] <;> decide +kernel) (by rw [Y0, Y1, Y2] <;> decide +kernel) (by rw [Y2, Y0, Y1] <;> decide +kernel)) rfl ?_
    simp only [HH, gW, gD]
    refine call_step (n_vec_Sub_0w (k0 := Z0) (k1 := Z0) (k2 := Z2) m244 m244 m247 m244 m244 m244 (by decide) (by rw [Y0] <;> decide +kernel) (by rw [Y0] <;> decide +kernel) (by rw [Y2, Y0] <;> decide +kernel)) rfl ?_
    simp only [HH, gW, gD]
    refine call_step (n_vec_Dot_0w (k0 := Z2) m244 m244 m247 m244 m244 m245 (by decide) (by rw [Y2, Y0, Y1] <;> decide +kernel)) rfl ?_
    simp only [HH, gW, gD]
    refine call_step (n_affine_Area_0w (k0 := Z0) (k1 := Z0) (k2 := Zm1) m245 m244 m244 m244 m245 m244 m244 m244 m245 m244 m244 m244 m244 m244 m246 (by decide) (by rw [Y0, Y1, Ym1] <;> decide +kernel) (by rw [Y0, Y1, Ym1] <;> decide +kernel) (by rw [Ym1, Y0, Y1] <;> decide +kernel)) rfl ?_
    simp only [HH, gW, gD]
    refine call_step (n_vec_Dot_0w (k0 := Zm2) m244 m244 m246 m244 m244 m247 (by decide) (by rw [Ym2, Y0, Ym1, Y2] <;> decide +kernel)) rfl ?_
    simp only [HH, gW, gD]
    refine call_step (n_rat_Abs_t (k0 := Z2) Y0 (m248.mono (by decide)) (by rw [Y2, Ym2] <;> decide +kernel) (show (Zm2 < Z0) by rw [Ym2, Y0] <;> decide +kernel)) rfl ?_
    simp only [HH, gW, gD]
    refine call_step (n_rat_Sign (m247.mono (by decide))) rfl ?_
    simp only [HH, gW, gD]
    refine primS (.bool true) (cs_gtr_t ((sg_gt Y0).2 (show (Z0 < Z2) by rw [Y0, Y2] <;> decide +kernel))) ?_
    refine itT rfl ?_
    refine call_step (n_rat_Sign (m248.mono (by decide))) rfl ?_
    simp only [HH, gW, gD]
    refine call_step (n_affine_Det_0w (k0 := Z1) m245 m244 m244 m244 m245 m244 m244 m244 m245 m244 m244 m244 (by decide) (by rw [Y1, Y0] <;> decide +kernel)) rfl ?_
    simp only [HH, gW, gD]
    refine call_step (n_rat_Sign (m245.mono (by decide))) rfl ?_
    simp only [HH, gW, gD]
    refine primS (.int .i64 (-1)) (ii_mul (sgn_m Y0 (show (Zm2 < Z0) by rw [Ym2, Y0] <;> decide +kernel)) (sgn_p Y0 (show ¬(Z1 < Z0) by rw [Y1, Y0] <;> decide +kernel) (show ¬(Z1 = Z0) by rw [Y1, Y0] <;> decide +kernel)) rfl) ?_
    refine primS (.bool true) rfl ?_
    exact ret_step rfl
  have m251 : Num 1 (cr Z1_2) Z1_2 := Num.c Y1_2 (by decide +kernel) (by decide +kernel)
  have m252 : Num 1 (cr Z8) Z8 := Num.c Y8 (by decide +kernel) (by decide +kernel)
  have hc253 : PureCalls prog F.dens_Ahead [.agg (gD [Z0, Z0, Z0, Z0, Z0, Z1]), .agg (gD [Z0, Z0, Z2, Z0, Z0, Zm1]), .agg (gD [Z1, Z0, Z0, Z0, Z1, Z0, Z0, Z0, Z1, Z0, Z0, Z0])] [.agg (gD [Z1_16])] := by
    refine symFunc_sound hmix tree_dens_Ahead (by kernel_rfl) rfl ?_
    unfold ir_dens_Ahead
    simp only [HH, gW, gD]
    refine call_step hc249 rfl ?_
    simp only [HH, gW, gD]
    refine primS (.bool false) rfl ?_
    refine itF rfl ?_
    refine call_step (n_frame_Slopes_1w (k0 := Z2) (k1 := Z0) (k2 := Z0) Y0 m245 m244 m244 m244 m245 m244 m244 m244 m245 m244 m244 m247 (by decide) (by rw [Y2, Y0, Y1] <;> decide +kernel) (by rw [Y0, Y1, Y2] <;> decide +kernel) (by rw [Y0, Y1, Y2] <;> decide +kernel) (show ¬(Z2 = Z0) by rw [Y2, Y0] <;> decide +kernel)) rfl ?_
    simp only [HH, gW, gD]
    refine call_step (n_warp_Density (k0 := Z1_2) (m244.mono (by decide)) (by rw [Y1_2, Y0] <;> decide +kernel)) rfl ?_
    simp only [HH, gW, gD]
    refine call_step (n_warp_Density (k0 := Z1_2) (m244.mono (by decide)) (by rw [Y1_2, Y0] <;> decide +kernel)) rfl ?_
    simp only [HH, gW, gD]
    refine primS (rl [(cr Z1_2), (cr Z1_2), (cr Z2)]) rfl ?_
    refine call_step (n_rat_Product_3 (k0 := Z1_2) (m251.mono (by decide)) (m251.mono (by decide)) (m247.mono (by decide)) (by rw [Y1_2, Y2] <;> decide +kernel)) rfl ?_
    simp only [HH, gW, gD]
    refine call_step (n_dens_cube_0 (k0 := Z8) (m247.mono (by decide)) (by rw [Y8, Y2] <;> decide +kernel)) rfl ?_
    simp only [HH, gW, gD]
    refine call_step (n_dens_over_1 (k0 := Z1_16) Y0 (m251.mono (by decide)) (m252.mono (by decide)) (by rw [Y1_16, Y1_2, Y8] <;> decide +kernel) (show ¬(Z8 = Z0) by rw [Y8, Y0] <;> decide +kernel)) rfl ?_
    simp only [HH, gW, gD]
    exact ret_step rfl
  refine call_step hc253 rfl ?_
  simp only [HH, gW, gD]
  refine call_step (n_penumbraref03_Of (1) (16) (by decide) (by decide) (by decide) (by decide) (Y1_16.trans (by decide +kernel))) rfl ?_
  simp only [HH, gW, gD]
  have m254 : Num 1 (cr Z1_16) Z1_16 := Num.c Y1_16 (by decide +kernel) (by decide +kernel)
  refine call_step (n_penumbraref03_Is_t (m254.mono (by decide)) (m254.mono (by decide)) rfl) rfl ?_
  simp only [HH, gW, gD]
  refine itT rfl ?_
  have m257 : Num 1 (cr Z4) Z4 := Num.c Y4 (by decide +kernel) (by decide +kernel)
  have m258 : Num 1 (cr Z16) Z16 := Num.c Y16 (by decide +kernel) (by decide +kernel)
  have hc259 : PureCalls prog F.dens_Transfer [.agg (gD [Z0, Z0, Z0, Z0, Z0, Z1]), .agg (gD [Z0, Z0, Z2, Z0, Z0, Zm1]), .agg (gD [Z1, Z0, Z0, Z0, Z1, Z0, Z0, Z0, Z1, Z0, Z0, Z0])] [.agg (gD [Z1_4])] := by
    refine symFunc_sound hmix tree_dens_Transfer (by kernel_rfl) rfl ?_
    unfold ir_dens_Transfer
    simp only [HH, gW, gD]
    refine call_step hc249 rfl ?_
    simp only [HH, gW, gD]
    refine primS (.bool false) rfl ?_
    refine itF rfl ?_
    refine call_step (n_vec_Dot_0w (k0 := Z4) m244 m244 m247 m244 m244 m247 (by decide) (by rw [Y4, Y0, Y2] <;> decide +kernel)) rfl ?_
    simp only [HH, gW, gD]
    refine primS (rl [(cr Z2), (cr Z2)]) rfl ?_
    refine call_step (n_rat_Product_2 (k0 := Z4) (m247.mono (by decide)) (m247.mono (by decide)) (by rw [Y4, Y2] <;> decide +kernel)) rfl ?_
    simp only [HH, gW, gD]
    refine primS (rl [(cr Z4), (cr Z4)]) rfl ?_
    refine call_step (n_rat_Product_2 (k0 := Z16) (m257.mono (by decide)) (m257.mono (by decide)) (by rw [Y16, Y4] <;> decide +kernel)) rfl ?_
    simp only [HH, gW, gD]
    refine call_step (n_dens_over_1 (k0 := Z1_4) Y0 (m257.mono (by decide)) (m258.mono (by decide)) (by rw [Y1_4, Y4, Y16] <;> decide +kernel) (show ¬(Z16 = Z0) by rw [Y16, Y0] <;> decide +kernel)) rfl ?_
    simp only [HH, gW, gD]
    exact ret_step rfl
  refine call_step hc259 rfl ?_
  simp only [HH, gW, gD]
  refine call_step (n_penumbraref03_Of (1) (4) (by decide) (by decide) (by decide) (by decide) (Y1_4.trans (by decide +kernel))) rfl ?_
  simp only [HH, gW, gD]
  have m260 : Num 1 (cr Z1_4) Z1_4 := Num.c Y1_4 (by decide +kernel) (by decide +kernel)
  refine call_step (n_penumbraref03_Is_t (m260.mono (by decide)) (m260.mono (by decide)) rfl) rfl ?_
  simp only [HH, gW, gD]
  refine itT rfl ?_
  have hc261 : PureCalls prog F.dens_seen [.agg (gD [Z0, Z0, Z0, Z0, Z0, Z1]), .agg (gD [Z0, Z0, Z2, Z0, Z0, Z1]), .agg (gD [Z1, Z0, Z0, Z0, Z1, Z0, Z0, Z0, Z1, Z0, Z0, Z0])] [.agg (gD [Z1, Z0, Z0, Z0, Z1, Z0, Z0, Z0, Z1, Z0, Z0, Z2, Z2, Z2]), .one (.bool false)] := by
    refine symFunc_sound hmix tree_dens_seen (by kernel_rfl) rfl ?_
    unfold ir_dens_seen
    simp only [HH, gW, gD]
    refine call_step (n_frame_Of_0 (k0 := Z1) (k1 := Z0) Ym2 Y0 Y1 (m244.mono (by decide)) (m244.mono (by decide)) (m245.mono (by decide)) (by rw [Y1, Y0] <;> decide +kernel) (by rw [Y0, Y1] <;> decide +kernel) rfl rfl) rfl ?_
    simp only [HH, gW, gD]
    refine primS (.bool false) rfl ?_
    refine itF rfl ?_
    refine call_step (n_vec_Dot_0w (k0 := Z1) m244 m244 m245 m244 m244 m245 (by decide) (by rw [Y1, Y0] <;> decide +kernel)) rfl ?_
    simp only [HH, gW, gD]
    refine call_step (n_rat_Of (1) (1) (by decide) (by decide) (by decide) (by decide) (Y1.trans (by decide +kernel))) rfl ?_
    simp only [HH, gW, gD]
    refine call_step (n_rat_Same_t (m245.mono (by decide)) (m245.mono (by decide)) rfl) rfl ?_
    simp only [HH, gW, gD]
    refine primS (.bool false) rfl ?_
    refine itF rfl ?_
    refine call_step (n_affine_Apply_0w (k0 := Z0) (k1 := Z0) (k2 := Z2) m245 m244 m244 m244 m245 m244 m244 m244 m245 m244 m244 m244 m244 m244 m247 (by decide) (by rw [Y0, Y1, Y2] <;> decide +kernel) (by rw [Y0, Y1, Y2] <;> decide +kernel) (by rw [Y2, Y0, Y1] <;> decide +kernel)) rfl ?_
    simp only [HH, gW, gD]
    refine call_step (n_vec_Sub_0w (k0 := Z0) (k1 := Z0) (k2 := Z2) m244 m244 m247 m244 m244 m244 (by decide) (by rw [Y0] <;> decide +kernel) (by rw [Y0] <;> decide +kernel) (by rw [Y2, Y0] <;> decide +kernel)) rfl ?_
    simp only [HH, gW, gD]
    refine call_step (n_vec_Dot_0w (k0 := Z2) m244 m244 m247 m244 m244 m245 (by decide) (by rw [Y2, Y0, Y1] <;> decide +kernel)) rfl ?_
    simp only [HH, gW, gD]
    refine call_step (n_affine_Area_0w (k0 := Z0) (k1 := Z0) (k2 := Z1) m245 m244 m244 m244 m245 m244 m244 m244 m245 m244 m244 m244 m244 m244 m245 (by decide) (by rw [Y0, Y1] <;> decide +kernel) (by rw [Y0, Y1] <;> decide +kernel) (by rw [Y1, Y0] <;> decide +kernel)) rfl ?_
    simp only [HH, gW, gD]
    refine call_step (n_vec_Dot_0w (k0 := Z2) m244 m244 m245 m244 m244 m247 (by decide) (by rw [Y2, Y0, Y1] <;> decide +kernel)) rfl ?_
    simp only [HH, gW, gD]
    refine call_step (n_rat_Abs_f Y0 (m247.mono (by decide)) (show ¬(Z2 < Z0) by rw [Y2, Y0] <;> decide +kernel)) rfl ?_
    simp only [HH, gW, gD]
    refine call_step (n_rat_Sign (m247.mono (by decide))) rfl ?_
    simp only [HH, gW, gD]
    refine primS (.bool true) (cs_gtr_t ((sg_gt Y0).2 (show (Z0 < Z2) by rw [Y0, Y2] <;> decide +kernel))) ?_
    refine itT rfl ?_
    refine call_step (n_rat_Sign (m247.mono (by decide))) rfl ?_
    simp only [HH, gW, gD]
    refine call_step (n_affine_Det_0w (k0 := Z1) m245 m244 m244 m244 m245 m244 m244 m244 m245 m244 m244 m244 (by decide) (by rw [Y1, Y0] <;> decide +kernel)) rfl ?_
    simp only [HH, gW, gD]
    refine call_step (n_rat_Sign (m245.mono (by decide))) rfl ?_
    simp only [HH, gW, gD]
    refine primS (.int .i64 (1)) (ii_mul (sgn_p Y0 (show ¬(Z2 < Z0) by rw [Y2, Y0] <;> decide +kernel) (show ¬(Z2 = Z0) by rw [Y2, Y0] <;> decide +kernel)) (sgn_p Y0 (show ¬(Z1 < Z0) by rw [Y1, Y0] <;> decide +kernel) (show ¬(Z1 = Z0) by rw [Y1, Y0] <;> decide +kernel)) rfl) ?_
    refine primS (.bool false) rfl ?_
    exact ret_step rfl
  have hc262 : PureCalls prog F.dens_Ahead [.agg (gD [Z0, Z0, Z0, Z0, Z0, Z1]), .agg (gD [Z0, Z0, Z2, Z0, Z0, Z1]), .agg (gD [Z1, Z0, Z0, Z0, Z1, Z0, Z0, Z0, Z1, Z0, Z0, Z0])] [.agg (gD [Z0])] := by
    refine symFunc_sound hmix tree_dens_Ahead (by kernel_rfl) rfl ?_
    unfold ir_dens_Ahead
    simp only [HH, gW, gD]
    refine call_step hc261 rfl ?_
    simp only [HH, gW, gD]
    refine primS (.bool true) rfl ?_
    refine itT rfl ?_
    refine call_step (n_rat_Of (0) (1) (by decide) (by decide) (by decide) (by decide) (Y0.trans (by decide +kernel))) rfl ?_
    simp only [HH, gW, gD]
    exact ret_step rfl
  refine call_step hc262 rfl ?_
  simp only [HH, gW, gD]
  refine call_step (n_penumbraref03_Zero Y0) rfl ?_
  simp only [HH, gW, gD]
  refine call_step (n_penumbraref03_Is_t (m244.mono (by decide)) (m244.mono (by decide)) rfl) rfl ?_
  simp only [HH, gW, gD]
  refine itT rfl ?_
  have hc263 : PureCalls prog F.dens_Transfer [.agg (gD [Z0, Z0, Z0, Z0, Z0, Z1]), .agg (gD [Z0, Z0, Z2, Z0, Z0, Z1]), .agg (gD [Z1, Z0, Z0, Z0, Z1, Z0, Z0, Z0, Z1, Z0, Z0, Z0])] [.agg (gD [Z0])] := by
    refine symFunc_sound hmix tree_dens_Transfer (by kernel_rfl) rfl ?_
    unfold ir_dens_Transfer
    simp only [HH, gW, gD]
    refine call_step hc261 rfl ?_
    simp only [HH, gW, gD]
    refine primS (.bool true) rfl ?_
    refine itT rfl ?_
    refine call_step (n_rat_Of (0) (1) (by decide) (by decide) (by decide) (by decide) (Y0.trans (by decide +kernel))) rfl ?_
    simp only [HH, gW, gD]
    exact ret_step rfl
  refine call_step hc263 rfl ?_
  simp only [HH, gW, gD]
  refine call_step (n_penumbraref03_Zero Y0) rfl ?_
  simp only [HH, gW, gD]
  refine call_step (n_penumbraref03_Is_t (m244.mono (by decide)) (m244.mono (by decide)) rfl) rfl ?_
  simp only [HH, gW, gD]
  exact ret_step rfl

theorem n_affine_Stretch_0w {Z0 Z1 : Rat} (Y0 : Z0 = (0 : Rat)) (Y1 : Z1 = (1 : Rat)) {r0 r1 r2 r3 r4 r5 r6 : RR} {x0 x1 x2 x3 x4 x5 x6 : Rat} {k0 k1 k2 k3 k4 k5 k6 k7 k8 k9 k10 k11 : Rat} {L0 L1 L2 L3 L4 L5 L6 : Nat} (h0 : Num L0 r0 x0) (h1 : Num L1 r1 x1) (h2 : Num L2 r2 x2) (h3 : Num L3 r3 x3) (h4 : Num L4 r4 x4) (h5 : Num L5 r5 x5) (h6 : Num L6 r6 x6) (hl : L0 ≤ 2000000000 ∧ L1 ≤ 2000000000 ∧ L2 ≤ 2000000000 ∧ L3 ≤ 2000000000 ∧ L4 ≤ 2000000000 ∧ L5 ≤ 2000000000 ∧ L6 ≤ 2000000000) (e0 : k0 = (Z1 + (((x6 - Z1) * x3) * x3))) (e1 : k1 = (Z0 + (((x6 - Z1) * x3) * x4))) (e2 : k2 = (Z0 + (((x6 - Z1) * x3) * x5))) (e3 : k3 = (Z0 + (((x6 - Z1) * x4) * x3))) (e4 : k4 = (Z1 + (((x6 - Z1) * x4) * x4))) (e5 : k5 = (Z0 + (((x6 - Z1) * x4) * x5))) (e6 : k6 = (Z0 + (((x6 - Z1) * x5) * x3))) (e7 : k7 = (Z0 + (((x6 - Z1) * x5) * x4))) (e8 : k8 = (Z1 + (((x6 - Z1) * x5) * x5))) (e9 : k9 = ((-((x6 - Z1) * (((x0 * x3) + (x1 * x4)) + (x2 * x5)))) * x3)) (e10 : k10 = ((-((x6 - Z1) * (((x0 * x3) + (x1 * x4)) + (x2 * x5)))) * x4)) (e11 : k11 = ((-((x6 - Z1) * (((x0 * x3) + (x1 * x4)) + (x2 * x5)))) * x5))  : PureCalls prog F.affine_Stretch [.agg (gW [r0, r1, r2]), .agg (gW [r3, r4, r5]), .agg (gW [r6])] [.agg (gD [k0, k1, k2, k3, k4, k5, k6, k7, k8, k9, k10, k11])] := by
  replace h0 := h0.mono hl.1
  replace h1 := h1.mono hl.2.1
  replace h2 := h2.mono hl.2.2.1
  replace h3 := h3.mono hl.2.2.2.1
  replace h4 := h4.mono hl.2.2.2.2.1
  replace h5 := h5.mono hl.2.2.2.2.2.1
  replace h6 := h6.mono hl.2.2.2.2.2.2
  subst e0 e1 e2 e3 e4 e5 e6 e7 e8 e9 e10 e11
  refine symFunc_sound hmix tree_affine_Stretch (by kernel_rfl) rfl ?_
  unfold ir_affine_Stretch
  simp only [HH, gW, gD]
  refine call_step (n_rat_Of (1) (1) (by decide) (by decide) (by decide) (by decide) (Y1.trans (by decide +kernel))) rfl ?_
  simp only [HH, gW, gD]
  have m327 : Num 1 (cr Z1) Z1 := Num.c Y1 (by decide +kernel) (by decide +kernel)
  refine call_step (n_rat_Sub (k0 := (x6 - Z1)) (h6.mono (by decide)) (m327.mono (by decide)) rfl) rfl ?_
  simp only [HH, gW, gD]
  refine call_step (n_affine_Identity_0 Y0 Y1) rfl ?_
  simp only [HH, gW, gD]
  refine primS (rl [(cr (x6 - Z1)), r3]) rfl ?_
  have m329 : Num 2000000002 (cr (x6 - Z1)) (x6 - Z1) := Num.of (Sm.sub h6.sm m327.sm)
  refine call_step (n_rat_Product_2 (k0 := ((x6 - Z1) * x3)) (m329.mono (by decide)) (h3.mono (by decide)) rfl) rfl ?_
  simp only [HH, gW, gD]
  have m330 : Num 4000000002 (cr ((x6 - Z1) * x3)) ((x6 - Z1) * x3) := Num.of (Sm.mul m329.sm h3.sm)
  refine call_step (n_vec_Scale_0 (k0 := (((x6 - Z1) * x3) * x3)) (k1 := (((x6 - Z1) * x3) * x4)) (k2 := (((x6 - Z1) * x3) * x5)) (m330.mono (by decide)) (h3.mono (by decide)) (h4.mono (by decide)) (h5.mono (by decide)) rfl rfl rfl) rfl ?_
  simp only [HH, gW, gD]
  refine primS (rl3 [((cr Z1), (cr Z0), (cr Z0)), ((cr (((x6 - Z1) * x3) * x3)), (cr (((x6 - Z1) * x3) * x4)), (cr (((x6 - Z1) * x3) * x5)))]) rfl ?_
  have m332 : Num 1 (cr Z0) Z0 := Num.c Y0 (by decide +kernel) (by decide +kernel)
  have m333 : Num 6000000002 (cr (((x6 - Z1) * x3) * x3)) (((x6 - Z1) * x3) * x3) := Num.of (Sm.mul m330.sm h3.sm)
  have m334 : Num 6000000002 (cr (((x6 - Z1) * x3) * x4)) (((x6 - Z1) * x3) * x4) := Num.of (Sm.mul m330.sm h4.sm)
  have m335 : Num 6000000002 (cr (((x6 - Z1) * x3) * x5)) (((x6 - Z1) * x3) * x5) := Num.of (Sm.mul m330.sm h5.sm)
  refine call_step (n_vec_Sum_2 (o0 := (Z1 + (((x6 - Z1) * x3) * x3))) (o1 := (Z0 + (((x6 - Z1) * x3) * x4))) (o2 := (Z0 + (((x6 - Z1) * x3) * x5))) (m327.mono (by decide)) (m332.mono (by decide)) (m332.mono (by decide)) (m333.mono (by decide)) (m334.mono (by decide)) (m335.mono (by decide)) rfl rfl rfl) rfl ?_
  simp only [HH, gW, gD]
  refine primS (rl [(cr (x6 - Z1)), r4]) rfl ?_
  refine call_step (n_rat_Product_2 (k0 := ((x6 - Z1) * x4)) (m329.mono (by decide)) (h4.mono (by decide)) rfl) rfl ?_
  simp only [HH, gW, gD]
  have m337 : Num 4000000002 (cr ((x6 - Z1) * x4)) ((x6 - Z1) * x4) := Num.of (Sm.mul m329.sm h4.sm)
  refine call_step (n_vec_Scale_0 (k0 := (((x6 - Z1) * x4) * x3)) (k1 := (((x6 - Z1) * x4) * x4)) (k2 := (((x6 - Z1) * x4) * x5)) (m337.mono (by decide)) (h3.mono (by decide)) (h4.mono (by decide)) (h5.mono (by decide)) rfl rfl rfl) rfl ?_
  simp only [HH, gW, gD]
  refine primS (rl3 [((cr Z0), (cr Z1), (cr Z0)), ((cr (((x6 - Z1) * x4) * x3)), (cr (((x6 - Z1) * x4) * x4)), (cr (((x6 - Z1) * x4) * x5)))]) rfl ?_
  have m339 : Num 6000000002 (cr (((x6 - Z1) * x4) * x3)) (((x6 - Z1) * x4) * x3) := Num.of (Sm.mul m337.sm h3.sm)
  have m340 : Num 6000000002 (cr (((x6 - Z1) * x4) * x4)) (((x6 - Z1) * x4) * x4) := Num.of (Sm.mul m337.sm h4.sm)
  have m341 : Num 6000000002 (cr (((x6 - Z1) * x4) * x5)) (((x6 - Z1) * x4) * x5) := Num.of (Sm.mul m337.sm h5.sm)
  refine call_step (n_vec_Sum_2 (o0 := (Z0 + (((x6 - Z1) * x4) * x3))) (o1 := (Z1 + (((x6 - Z1) * x4) * x4))) (o2 := (Z0 + (((x6 - Z1) * x4) * x5))) (m332.mono (by decide)) (m327.mono (by decide)) (m332.mono (by decide)) (m339.mono (by decide)) (m340.mono (by decide)) (m341.mono (by decide)) rfl rfl rfl) rfl ?_
  simp only [HH, gW, gD]
  refine primS (rl [(cr (x6 - Z1)), r5]) rfl ?_
  refine call_step (n_rat_Product_2 (k0 := ((x6 - Z1) * x5)) (m329.mono (by decide)) (h5.mono (by decide)) rfl) rfl ?_
  simp only [HH, gW, gD]
  have m343 : Num 4000000002 (cr ((x6 - Z1) * x5)) ((x6 - Z1) * x5) := Num.of (Sm.mul m329.sm h5.sm)
  refine call_step (n_vec_Scale_0 (k0 := (((x6 - Z1) * x5) * x3)) (k1 := (((x6 - Z1) * x5) * x4)) (k2 := (((x6 - Z1) * x5) * x5)) (m343.mono (by decide)) (h3.mono (by decide)) (h4.mono (by decide)) (h5.mono (by decide)) rfl rfl rfl) rfl ?_
  simp only [HH, gW, gD]
  refine primS (rl3 [((cr Z0), (cr Z0), (cr Z1)), ((cr (((x6 - Z1) * x5) * x3)), (cr (((x6 - Z1) * x5) * x4)), (cr (((x6 - Z1) * x5) * x5)))]) rfl ?_
  have m345 : Num 6000000002 (cr (((x6 - Z1) * x5) * x3)) (((x6 - Z1) * x5) * x3) := Num.of (Sm.mul m343.sm h3.sm)
  have m346 : Num 6000000002 (cr (((x6 - Z1) * x5) * x4)) (((x6 - Z1) * x5) * x4) := Num.of (Sm.mul m343.sm h4.sm)
  have m347 : Num 6000000002 (cr (((x6 - Z1) * x5) * x5)) (((x6 - Z1) * x5) * x5) := Num.of (Sm.mul m343.sm h5.sm)
  refine call_step (n_vec_Sum_2 (o0 := (Z0 + (((x6 - Z1) * x5) * x3))) (o1 := (Z0 + (((x6 - Z1) * x5) * x4))) (o2 := (Z1 + (((x6 - Z1) * x5) * x5))) (m332.mono (by decide)) (m332.mono (by decide)) (m327.mono (by decide)) (m345.mono (by decide)) (m346.mono (by decide)) (m347.mono (by decide)) rfl rfl rfl) rfl ?_
  simp only [HH, gW, gD]
  refine call_step (n_vec_Dot_0w (k0 := (((x0 * x3) + (x1 * x4)) + (x2 * x5))) h0 h1 h2 h3 h4 h5 (by decide) rfl) rfl ?_
  simp only [HH, gW, gD]
  refine primS (rl [(cr (x6 - Z1)), (cr (((x0 * x3) + (x1 * x4)) + (x2 * x5)))]) rfl ?_
  have m349 : Num 12000000002 (cr (((x0 * x3) + (x1 * x4)) + (x2 * x5))) (((x0 * x3) + (x1 * x4)) + (x2 * x5)) := Num.of (Sm.add (Sm.add (Sm.mul h0.sm h3.sm) (Sm.mul h1.sm h4.sm)) (Sm.mul h2.sm h5.sm))
  refine call_step (n_rat_Product_2 (k0 := ((x6 - Z1) * (((x0 * x3) + (x1 * x4)) + (x2 * x5)))) (m329.mono (by decide)) (m349.mono (by decide)) rfl) rfl ?_
  simp only [HH, gW, gD]
  have m350 : Num 14000000004 (cr ((x6 - Z1) * (((x0 * x3) + (x1 * x4)) + (x2 * x5)))) ((x6 - Z1) * (((x0 * x3) + (x1 * x4)) + (x2 * x5))) := Num.of (Sm.mul m329.sm m349.sm)
  refine call_step (n_rat_Neg (k0 := (-((x6 - Z1) * (((x0 * x3) + (x1 * x4)) + (x2 * x5))))) (m350.mono (by decide)) rfl) rfl ?_
  simp only [HH, gW, gD]
  have m351 : Num 14000000004 (cr (-((x6 - Z1) * (((x0 * x3) + (x1 * x4)) + (x2 * x5))))) (-((x6 - Z1) * (((x0 * x3) + (x1 * x4)) + (x2 * x5)))) := Num.of (Sm.neg m350.sm)
  refine call_step (n_vec_Scale_0 (k0 := ((-((x6 - Z1) * (((x0 * x3) + (x1 * x4)) + (x2 * x5)))) * x3)) (k1 := ((-((x6 - Z1) * (((x0 * x3) + (x1 * x4)) + (x2 * x5)))) * x4)) (k2 := ((-((x6 - Z1) * (((x0 * x3) + (x1 * x4)) + (x2 * x5)))) * x5)) (m351.mono (by decide)) (h3.mono (by decide)) (h4.mono (by decide)) (h5.mono (by decide)) rfl rfl rfl) rfl ?_
  simp only [HH, gW, gD]
  exact ret_step rfl

theorem n_affine_columns_0w  {r0 r1 r2 r3 r4 r5 r6 r7 r8 r9 r10 r11 : RR} {x0 x1 x2 x3 x4 x5 x6 x7 x8 x9 x10 x11 : Rat} {L0 L1 L2 L3 L4 L5 L6 L7 L8 L9 L10 L11 : Nat} (h0 : Num L0 r0 x0) (h1 : Num L1 r1 x1) (h2 : Num L2 r2 x2) (h3 : Num L3 r3 x3) (h4 : Num L4 r4 x4) (h5 : Num L5 r5 x5) (h6 : Num L6 r6 x6) (h7 : Num L7 r7 x7) (h8 : Num L8 r8 x8) (h9 : Num L9 r9 x9) (h10 : Num L10 r10 x10) (h11 : Num L11 r11 x11) (hl : L0 ≤ 40000000000 ∧ L1 ≤ 40000000000 ∧ L2 ≤ 40000000000 ∧ L3 ≤ 40000000000 ∧ L4 ≤ 40000000000 ∧ L5 ≤ 40000000000 ∧ L6 ≤ 40000000000 ∧ L7 ≤ 40000000000 ∧ L8 ≤ 40000000000 ∧ L9 ≤ 40000000000 ∧ L10 ≤ 40000000000 ∧ L11 ≤ 40000000000)   : PureCalls prog F.affine_columns [.agg (gW [r0, r1, r2, r3, r4, r5, r6, r7, r8, r9, r10, r11])] [.agg (gW [r0, r3, r6, r1, r4, r7, r2, r5, r8])] := by
  replace h0 := h0.mono hl.1
  replace h1 := h1.mono hl.2.1
  replace h2 := h2.mono hl.2.2.1
  replace h3 := h3.mono hl.2.2.2.1
  replace h4 := h4.mono hl.2.2.2.2.1
  replace h5 := h5.mono hl.2.2.2.2.2.1
  replace h6 := h6.mono hl.2.2.2.2.2.2.1
  replace h7 := h7.mono hl.2.2.2.2.2.2.2.1
  replace h8 := h8.mono hl.2.2.2.2.2.2.2.2.1
  replace h9 := h9.mono hl.2.2.2.2.2.2.2.2.2.1
  replace h10 := h10.mono hl.2.2.2.2.2.2.2.2.2.2.1
  replace h11 := h11.mono hl.2.2.2.2.2.2.2.2.2.2.2
  refine symFunc_sound hmix tree_affine_columns (by kernel_rfl) rfl ?_
  unfold ir_affine_columns
  simp only [HH, gW, gD]
  exact ret_step rfl

theorem n_affine_Then_1_0w  {r0 r1 r2 r3 r4 r5 r6 r7 r8 r9 r10 r11 : RR} {x0 x1 x2 x3 x4 x5 x6 x7 x8 x9 x10 x11 : Rat} {k0 k1 k2 : Rat} {L0 L1 L2 L3 L4 L5 L6 L7 L8 L9 L10 L11 : Nat} (h0 : Num L0 r0 x0) (h1 : Num L1 r1 x1) (h2 : Num L2 r2 x2) (h3 : Num L3 r3 x3) (h4 : Num L4 r4 x4) (h5 : Num L5 r5 x5) (h6 : Num L6 r6 x6) (h7 : Num L7 r7 x7) (h8 : Num L8 r8 x8) (h9 : Num L9 r9 x9) (h10 : Num L10 r10 x10) (h11 : Num L11 r11 x11) (hl : L0 ≤ 20000000000 ∧ L1 ≤ 20000000000 ∧ L2 ≤ 20000000000 ∧ L3 ≤ 20000000000 ∧ L4 ≤ 20000000000 ∧ L5 ≤ 20000000000 ∧ L6 ≤ 20000000000 ∧ L7 ≤ 20000000000 ∧ L8 ≤ 20000000000 ∧ L9 ≤ 20000000000 ∧ L10 ≤ 20000000000 ∧ L11 ≤ 20000000000) (e0 : k0 = (((x0 * x3) + (x1 * x4)) + (x2 * x5))) (e1 : k1 = (((x0 * x6) + (x1 * x7)) + (x2 * x8))) (e2 : k2 = (((x0 * x9) + (x1 * x10)) + (x2 * x11)))  : PureCalls prog F.affine_Then_1 [.agg (gW [r0, r1, r2]), .ref (gW [r3, r4, r5, r6, r7, r8, r9, r10, r11])] [.agg (gD [k0, k1, k2])] := by
  replace h0 := h0.mono hl.1
  replace h1 := h1.mono hl.2.1
  replace h2 := h2.mono hl.2.2.1
  replace h3 := h3.mono hl.2.2.2.1
  replace h4 := h4.mono hl.2.2.2.2.1
  replace h5 := h5.mono hl.2.2.2.2.2.1
  replace h6 := h6.mono hl.2.2.2.2.2.2.1
  replace h7 := h7.mono hl.2.2.2.2.2.2.2.1
  replace h8 := h8.mono hl.2.2.2.2.2.2.2.2.1
  replace h9 := h9.mono hl.2.2.2.2.2.2.2.2.2.1
  replace h10 := h10.mono hl.2.2.2.2.2.2.2.2.2.2.1
  replace h11 := h11.mono hl.2.2.2.2.2.2.2.2.2.2.2
  subst e0 e1 e2
  refine symFunc_sound hmix tree_affine_Then_1 (by kernel_rfl) rfl ?_
  unfold ir_affine_Then_1
  simp only [HH, gW, gD]
  refine call_step (n_vec_Dot_0w (k0 := (((x0 * x3) + (x1 * x4)) + (x2 * x5))) h0 h1 h2 h3 h4 h5 (by decide) rfl) rfl ?_
  simp only [HH, gW, gD]
  refine call_step (n_vec_Dot_0w (k0 := (((x0 * x6) + (x1 * x7)) + (x2 * x8))) h0 h1 h2 h6 h7 h8 (by decide) rfl) rfl ?_
  simp only [HH, gW, gD]
  refine call_step (n_vec_Dot_0w (k0 := (((x0 * x9) + (x1 * x10)) + (x2 * x11))) h0 h1 h2 h9 h10 h11 (by decide) rfl) rfl ?_
  simp only [HH, gW, gD]
  exact ret_step rfl

theorem n_affine_Then_0w  {r0 r1 r2 r3 r4 r5 r6 r7 r8 r9 r10 r11 r12 r13 r14 r15 r16 r17 r18 r19 r20 r21 r22 r23 : RR} {x0 x1 x2 x3 x4 x5 x6 x7 x8 x9 x10 x11 x12 x13 x14 x15 x16 x17 x18 x19 x20 x21 x22 x23 : Rat} {k0 k1 k2 k3 k4 k5 k6 k7 k8 k9 k10 k11 : Rat} {L0 L1 L2 L3 L4 L5 L6 L7 L8 L9 L10 L11 L12 L13 L14 L15 L16 L17 L18 L19 L20 L21 L22 L23 : Nat} (h0 : Num L0 r0 x0) (h1 : Num L1 r1 x1) (h2 : Num L2 r2 x2) (h3 : Num L3 r3 x3) (h4 : Num L4 r4 x4) (h5 : Num L5 r5 x5) (h6 : Num L6 r6 x6) (h7 : Num L7 r7 x7) (h8 : Num L8 r8 x8) (h9 : Num L9 r9 x9) (h10 : Num L10 r10 x10) (h11 : Num L11 r11 x11) (h12 : Num L12 r12 x12) (h13 : Num L13 r13 x13) (h14 : Num L14 r14 x14) (h15 : Num L15 r15 x15) (h16 : Num L16 r16 x16) (h17 : Num L17 r17 x17) (h18 : Num L18 r18 x18) (h19 : Num L19 r19 x19) (h20 : Num L20 r20 x20) (h21 : Num L21 r21 x21) (h22 : Num L22 r22 x22) (h23 : Num L23 r23 x23) (hl : L0 ≤ 900000000 ∧ L1 ≤ 900000000 ∧ L2 ≤ 900000000 ∧ L3 ≤ 900000000 ∧ L4 ≤ 900000000 ∧ L5 ≤ 900000000 ∧ L6 ≤ 900000000 ∧ L7 ≤ 900000000 ∧ L8 ≤ 900000000 ∧ L9 ≤ 900000000 ∧ L10 ≤ 900000000 ∧ L11 ≤ 900000000 ∧ L12 ≤ 900000000 ∧ L13 ≤ 900000000 ∧ L14 ≤ 900000000 ∧ L15 ≤ 900000000 ∧ L16 ≤ 900000000 ∧ L17 ≤ 900000000 ∧ L18 ≤ 900000000 ∧ L19 ≤ 900000000 ∧ L20 ≤ 900000000 ∧ L21 ≤ 900000000 ∧ L22 ≤ 900000000 ∧ L23 ≤ 900000000) (e0 : k0 = (((x12 * x0) + (x13 * x3)) + (x14 * x6))) (e1 : k1 = (((x12 * x1) + (x13 * x4)) + (x14 * x7))) (e2 : k2 = (((x12 * x2) + (x13 * x5)) + (x14 * x8))) (e3 : k3 = (((x15 * x0) + (x16 * x3)) + (x17 * x6))) (e4 : k4 = (((x15 * x1) + (x16 * x4)) + (x17 * x7))) (e5 : k5 = (((x15 * x2) + (x16 * x5)) + (x17 * x8))) (e6 : k6 = (((x18 * x0) + (x19 * x3)) + (x20 * x6))) (e7 : k7 = (((x18 * x1) + (x19 * x4)) + (x20 * x7))) (e8 : k8 = (((x18 * x2) + (x19 * x5)) + (x20 * x8))) (e9 : k9 = ((((x12 * x9) + (x13 * x10)) + (x14 * x11)) + x21)) (e10 : k10 = ((((x15 * x9) + (x16 * x10)) + (x17 * x11)) + x22)) (e11 : k11 = ((((x18 * x9) + (x19 * x10)) + (x20 * x11)) + x23))  : PureCalls prog F.affine_Then [.agg (gW [r0, r1, r2, r3, r4, r5, r6, r7, r8, r9, r10, r11]), .agg (gW [r12, r13, r14, r15, r16, r17, r18, r19, r20, r21, r22, r23])] [.agg (gD [k0, k1, k2, k3, k4, k5, k6, k7, k8, k9, k10, k11])] := by
  replace h0 := h0.mono hl.1
  replace h1 := h1.mono hl.2.1
  replace h2 := h2.mono hl.2.2.1
  replace h3 := h3.mono hl.2.2.2.1
  replace h4 := h4.mono hl.2.2.2.2.1
  replace h5 := h5.mono hl.2.2.2.2.2.1
  replace h6 := h6.mono hl.2.2.2.2.2.2.1
  replace h7 := h7.mono hl.2.2.2.2.2.2.2.1
  replace h8 := h8.mono hl.2.2.2.2.2.2.2.2.1
  replace h9 := h9.mono hl.2.2.2.2.2.2.2.2.2.1
  replace h10 := h10.mono hl.2.2.2.2.2.2.2.2.2.2.1
  replace h11 := h11.mono hl.2.2.2.2.2.2.2.2.2.2.2.1
  replace h12 := h12.mono hl.2.2.2.2.2.2.2.2.2.2.2.2.1
  replace h13 := h13.mono hl.2.2.2.2.2.2.2.2.2.2.2.2.2.1
  replace h14 := h14.mono hl.2.2.2.2.2.2.2.2.2.2.2.2.2.2.1
  replace h15 := h15.mono hl.2.2.2.2.2.2.2.2.2.2.2.2.2.2.2.1
  replace h16 := h16.mono hl.2.2.2.2.2.2.2.2.2.2.2.2.2.2.2.2.1
  replace h17 := h17.mono hl.2.2.2.2.2.2.2.2.2.2.2.2.2.2.2.2.2.1
  replace h18 := h18.mono hl.2.2.2.2.2.2.2.2.2.2.2.2.2.2.2.2.2.2.1
  replace h19 := h19.mono hl.2.2.2.2.2.2.2.2.2.2.2.2.2.2.2.2.2.2.2.1
  replace h20 := h20.mono hl.2.2.2.2.2.2.2.2.2.2.2.2.2.2.2.2.2.2.2.2.1
  replace h21 := h21.mono hl.2.2.2.2.2.2.2.2.2.2.2.2.2.2.2.2.2.2.2.2.2.1
  replace h22 := h22.mono hl.2.2.2.2.2.2.2.2.2.2.2.2.2.2.2.2.2.2.2.2.2.2.1
  replace h23 := h23.mono hl.2.2.2.2.2.2.2.2.2.2.2.2.2.2.2.2.2.2.2.2.2.2.2
  subst e0 e1 e2 e3 e4 e5 e6 e7 e8 e9 e10 e11
  refine symFunc_sound hmix tree_affine_Then (by kernel_rfl) rfl ?_
  unfold ir_affine_Then
  simp only [HH, gW, gD]
  refine call_step (n_affine_columns_0w h0 h1 h2 h3 h4 h5 h6 h7 h8 h9 h10 h11 (by decide)) rfl ?_
  simp only [HH, gW, gD]
  refine call_step (n_affine_Then_1_0w (k0 := (((x12 * x0) + (x13 * x3)) + (x14 * x6))) (k1 := (((x12 * x1) + (x13 * x4)) + (x14 * x7))) (k2 := (((x12 * x2) + (x13 * x5)) + (x14 * x8))) h12 h13 h14 h0 h3 h6 h1 h4 h7 h2 h5 h8 (by decide) rfl rfl rfl) rfl ?_
  simp only [HH, gW, gD]
  refine call_step (n_affine_Then_1_0w (k0 := (((x15 * x0) + (x16 * x3)) + (x17 * x6))) (k1 := (((x15 * x1) + (x16 * x4)) + (x17 * x7))) (k2 := (((x15 * x2) + (x16 * x5)) + (x17 * x8))) h15 h16 h17 h0 h3 h6 h1 h4 h7 h2 h5 h8 (by decide) rfl rfl rfl) rfl ?_
  simp only [HH, gW, gD]
  refine call_step (n_affine_Then_1_0w (k0 := (((x18 * x0) + (x19 * x3)) + (x20 * x6))) (k1 := (((x18 * x1) + (x19 * x4)) + (x20 * x7))) (k2 := (((x18 * x2) + (x19 * x5)) + (x20 * x8))) h18 h19 h20 h0 h3 h6 h1 h4 h7 h2 h5 h8 (by decide) rfl rfl rfl) rfl ?_
  simp only [HH, gW, gD]
  refine call_step (n_affine_Apply_0w (k0 := ((((x12 * x9) + (x13 * x10)) + (x14 * x11)) + x21)) (k1 := ((((x15 * x9) + (x16 * x10)) + (x17 * x11)) + x22)) (k2 := ((((x18 * x9) + (x19 * x10)) + (x20 * x11)) + x23)) h12 h13 h14 h15 h16 h17 h18 h19 h20 h21 h22 h23 h9 h10 h11 (by decide) rfl rfl rfl) rfl ?_
  simp only [HH, gW, gD]
  exact ret_step rfl

theorem n_affine_Inverse_1w {Zm1 Z0 Z1 : Rat} (Ym1 : Zm1 = (-1 : Rat)) (Y0 : Z0 = (0 : Rat)) (Y1 : Z1 = (1 : Rat)) {r0 r1 r2 r3 r4 r5 r6 r7 r8 r9 r10 r11 : RR} {x0 x1 x2 x3 x4 x5 x6 x7 x8 x9 x10 x11 : Rat} {k0 k1 k2 k3 k4 k5 k6 k7 k8 k9 k10 k11 k12 k13 : Rat} {L0 L1 L2 L3 L4 L5 L6 L7 L8 L9 L10 L11 : Nat} (h0 : Num L0 r0 x0) (h1 : Num L1 r1 x1) (h2 : Num L2 r2 x2) (h3 : Num L3 r3 x3) (h4 : Num L4 r4 x4) (h5 : Num L5 r5 x5) (h6 : Num L6 r6 x6) (h7 : Num L7 r7 x7) (h8 : Num L8 r8 x8) (h9 : Num L9 r9 x9) (h10 : Num L10 r10 x10) (h11 : Num L11 r11 x11) (hl : L0 ≤ 600000000 ∧ L1 ≤ 600000000 ∧ L2 ≤ 600000000 ∧ L3 ≤ 600000000 ∧ L4 ≤ 600000000 ∧ L5 ≤ 600000000 ∧ L6 ≤ 600000000 ∧ L7 ≤ 600000000 ∧ L8 ≤ 600000000 ∧ L9 ≤ 600000000 ∧ L10 ≤ 600000000 ∧ L11 ≤ 600000000) (e0 : k0 = (((x0 * ((x4 * x8) - (x5 * x7))) + (x1 * ((x5 * x6) - (x3 * x8)))) + (x2 * ((x3 * x7) - (x4 * x6))))) (e1 : k1 = (Z1 / k0)) (e2 : k2 = (k1 * ((x4 * x8) - (x5 * x7)))) (e3 : k3 = (k1 * ((x7 * x2) - (x8 * x1)))) (e4 : k4 = (k1 * ((x1 * x5) - (x2 * x4)))) (e5 : k5 = (k1 * ((x5 * x6) - (x3 * x8)))) (e6 : k6 = (k1 * ((x8 * x0) - (x6 * x2)))) (e7 : k7 = (k1 * ((x2 * x3) - (x0 * x5)))) (e8 : k8 = (k1 * ((x3 * x7) - (x4 * x6)))) (e9 : k9 = (k1 * ((x6 * x1) - (x7 * x0)))) (e10 : k10 = (k1 * ((x0 * x4) - (x1 * x3)))) (e11 : k11 = (Zm1 * (((k2 * x9) + (k3 * x10)) + (k4 * x11)))) (e12 : k12 = (Zm1 * (((k5 * x9) + (k6 * x10)) + (k7 * x11)))) (e13 : k13 = (Zm1 * (((k8 * x9) + (k9 * x10)) + (k10 * x11)))) (c0 : ¬k0 = Z0) : PureCalls prog F.affine_Inverse [.agg (gW [r0, r1, r2, r3, r4, r5, r6, r7, r8, r9, r10, r11])] [.agg (gD [k2, k3, k4, k5, k6, k7, k8, k9, k10, k11, k12, k13]), .one (.bool true)] := by
  replace h0 := h0.mono hl.1
  replace h1 := h1.mono hl.2.1
  replace h2 := h2.mono hl.2.2.1
  replace h3 := h3.mono hl.2.2.2.1
  replace h4 := h4.mono hl.2.2.2.2.1
  replace h5 := h5.mono hl.2.2.2.2.2.1
  replace h6 := h6.mono hl.2.2.2.2.2.2.1
  replace h7 := h7.mono hl.2.2.2.2.2.2.2.1
  replace h8 := h8.mono hl.2.2.2.2.2.2.2.2.1
  replace h9 := h9.mono hl.2.2.2.2.2.2.2.2.2.1
  replace h10 := h10.mono hl.2.2.2.2.2.2.2.2.2.2.1
  replace h11 := h11.mono hl.2.2.2.2.2.2.2.2.2.2.2
  subst e0 e1 e2 e3 e4 e5 e6 e7 e8 e9 e10 e11 e12 e13
  refine symFunc_sound hmix tree_affine_Inverse (by kernel_rfl) rfl ?_
  unfold ir_affine_Inverse
  simp only [HH, gW, gD]
  refine call_step (n_rat_Of (1) (1) (by decide) (by decide) (by decide) (by decide) (Y1.trans (by decide +kernel))) rfl ?_
  simp only [HH, gW, gD]
  refine call_step (n_affine_Det_0w (k0 := (((x0 * ((x4 * x8) - (x5 * x7))) + (x1 * ((x5 * x6) - (x3 * x8)))) + (x2 * ((x3 * x7) - (x4 * x6))))) h0 h1 h2 h3 h4 h5 h6 h7 h8 h9 h10 h11 (by decide) rfl) rfl ?_
  simp only [HH, gW, gD]
  have m422 : Num 1 (cr Z1) Z1 := Num.c Y1 (by decide +kernel) (by decide +kernel)
  have m423 : Num 9000000005 (cr (((x0 * ((x4 * x8) - (x5 * x7))) + (x1 * ((x5 * x6) - (x3 * x8)))) + (x2 * ((x3 * x7) - (x4 * x6))))) (((x0 * ((x4 * x8) - (x5 * x7))) + (x1 * ((x5 * x6) - (x3 * x8)))) + (x2 * ((x3 * x7) - (x4 * x6)))) := Num.of (Sm.add (Sm.add (Sm.mul h0.sm (Sm.sub (Sm.mul h4.sm h8.sm) (Sm.mul h5.sm h7.sm))) (Sm.mul h1.sm (Sm.sub (Sm.mul h5.sm h6.sm) (Sm.mul h3.sm h8.sm)))) (Sm.mul h2.sm (Sm.sub (Sm.mul h3.sm h7.sm) (Sm.mul h4.sm h6.sm))))
  refine call_step (n_rat_Div_f (k0 := (Z1 / (((x0 * ((x4 * x8) - (x5 * x7))) + (x1 * ((x5 * x6) - (x3 * x8)))) + (x2 * ((x3 * x7) - (x4 * x6)))))) Y0 (m422.mono (by decide)) (m423.mono (by decide)) rfl c0) rfl ?_
  simp only [HH, gW, gD]
  refine primS (.bool false) rfl ?_
  refine itF rfl ?_
  refine call_step (n_affine_cofactors_0w (k0 := ((x4 * x8) - (x5 * x7))) (k1 := ((x5 * x6) - (x3 * x8))) (k2 := ((x3 * x7) - (x4 * x6))) (k3 := ((x7 * x2) - (x8 * x1))) (k4 := ((x8 * x0) - (x6 * x2))) (k5 := ((x6 * x1) - (x7 * x0))) (k6 := ((x1 * x5) - (x2 * x4))) (k7 := ((x2 * x3) - (x0 * x5))) (k8 := ((x0 * x4) - (x1 * x3))) h0 h1 h2 h3 h4 h5 h6 h7 h8 h9 h10 h11 (by decide) rfl rfl rfl rfl rfl rfl rfl rfl rfl) rfl ?_
  simp only [HH, gW, gD]
  have m424 : Num 9000000006 (cr (Z1 / (((x0 * ((x4 * x8) - (x5 * x7))) + (x1 * ((x5 * x6) - (x3 * x8)))) + (x2 * ((x3 * x7) - (x4 * x6)))))) (Z1 / (((x0 * ((x4 * x8) - (x5 * x7))) + (x1 * ((x5 * x6) - (x3 * x8)))) + (x2 * ((x3 * x7) - (x4 * x6))))) := Num.of (Sm.div m422.sm m423.sm)
  have m425 : Num 2400000001 (cr ((x4 * x8) - (x5 * x7))) ((x4 * x8) - (x5 * x7)) := Num.of (Sm.sub (Sm.mul h4.sm h8.sm) (Sm.mul h5.sm h7.sm))
  have m426 : Num 2400000001 (cr ((x5 * x6) - (x3 * x8))) ((x5 * x6) - (x3 * x8)) := Num.of (Sm.sub (Sm.mul h5.sm h6.sm) (Sm.mul h3.sm h8.sm))
  have m427 : Num 2400000001 (cr ((x3 * x7) - (x4 * x6))) ((x3 * x7) - (x4 * x6)) := Num.of (Sm.sub (Sm.mul h3.sm h7.sm) (Sm.mul h4.sm h6.sm))
  refine call_step (n_vec_Scale_0 (k0 := ((Z1 / (((x0 * ((x4 * x8) - (x5 * x7))) + (x1 * ((x5 * x6) - (x3 * x8)))) + (x2 * ((x3 * x7) - (x4 * x6))))) * ((x4 * x8) - (x5 * x7)))) (k1 := ((Z1 / (((x0 * ((x4 * x8) - (x5 * x7))) + (x1 * ((x5 * x6) - (x3 * x8)))) + (x2 * ((x3 * x7) - (x4 * x6))))) * ((x5 * x6) - (x3 * x8)))) (k2 := ((Z1 / (((x0 * ((x4 * x8) - (x5 * x7))) + (x1 * ((x5 * x6) - (x3 * x8)))) + (x2 * ((x3 * x7) - (x4 * x6))))) * ((x3 * x7) - (x4 * x6)))) (m424.mono (by decide)) (m425.mono (by decide)) (m426.mono (by decide)) (m427.mono (by decide)) rfl rfl rfl) rfl ?_
  simp only [HH, gW, gD]
  have m428 : Num 2400000001 (cr ((x7 * x2) - (x8 * x1))) ((x7 * x2) - (x8 * x1)) := Num.of (Sm.sub (Sm.mul h7.sm h2.sm) (Sm.mul h8.sm h1.sm))
  have m429 : Num 2400000001 (cr ((x8 * x0) - (x6 * x2))) ((x8 * x0) - (x6 * x2)) := Num.of (Sm.sub (Sm.mul h8.sm h0.sm) (Sm.mul h6.sm h2.sm))
  have m430 : Num 2400000001 (cr ((x6 * x1) - (x7 * x0))) ((x6 * x1) - (x7 * x0)) := Num.of (Sm.sub (Sm.mul h6.sm h1.sm) (Sm.mul h7.sm h0.sm))
  refine call_step (n_vec_Scale_0 (k0 := ((Z1 / (((x0 * ((x4 * x8) - (x5 * x7))) + (x1 * ((x5 * x6) - (x3 * x8)))) + (x2 * ((x3 * x7) - (x4 * x6))))) * ((x7 * x2) - (x8 * x1)))) (k1 := ((Z1 / (((x0 * ((x4 * x8) - (x5 * x7))) + (x1 * ((x5 * x6) - (x3 * x8)))) + (x2 * ((x3 * x7) - (x4 * x6))))) * ((x8 * x0) - (x6 * x2)))) (k2 := ((Z1 / (((x0 * ((x4 * x8) - (x5 * x7))) + (x1 * ((x5 * x6) - (x3 * x8)))) + (x2 * ((x3 * x7) - (x4 * x6))))) * ((x6 * x1) - (x7 * x0)))) (m424.mono (by decide)) (m428.mono (by decide)) (m429.mono (by decide)) (m430.mono (by decide)) rfl rfl rfl) rfl ?_
  simp only [HH, gW, gD]
  have m431 : Num 2400000001 (cr ((x1 * x5) - (x2 * x4))) ((x1 * x5) - (x2 * x4)) := Num.of (Sm.sub (Sm.mul h1.sm h5.sm) (Sm.mul h2.sm h4.sm))
  have m432 : Num 2400000001 (cr ((x2 * x3) - (x0 * x5))) ((x2 * x3) - (x0 * x5)) := Num.of (Sm.sub (Sm.mul h2.sm h3.sm) (Sm.mul h0.sm h5.sm))
  have m433 : Num 2400000001 (cr ((x0 * x4) - (x1 * x3))) ((x0 * x4) - (x1 * x3)) := Num.of (Sm.sub (Sm.mul h0.sm h4.sm) (Sm.mul h1.sm h3.sm))
  refine call_step (n_vec_Scale_0 (k0 := ((Z1 / (((x0 * ((x4 * x8) - (x5 * x7))) + (x1 * ((x5 * x6) - (x3 * x8)))) + (x2 * ((x3 * x7) - (x4 * x6))))) * ((x1 * x5) - (x2 * x4)))) (k1 := ((Z1 / (((x0 * ((x4 * x8) - (x5 * x7))) + (x1 * ((x5 * x6) - (x3 * x8)))) + (x2 * ((x3 * x7) - (x4 * x6))))) * ((x2 * x3) - (x0 * x5)))) (k2 := ((Z1 / (((x0 * ((x4 * x8) - (x5 * x7))) + (x1 * ((x5 * x6) - (x3 * x8)))) + (x2 * ((x3 * x7) - (x4 * x6))))) * ((x0 * x4) - (x1 * x3)))) (m424.mono (by decide)) (m431.mono (by decide)) (m432.mono (by decide)) (m433.mono (by decide)) rfl rfl rfl) rfl ?_
  simp only [HH, gW, gD]
  refine call_step (n_rat_Of (-1) (1) (by decide) (by decide) (by decide) (by decide) (Ym1.trans (by decide +kernel))) rfl ?_
  simp only [HH, gW, gD]
  have m434 : Num 11400000007 (cr ((Z1 / (((x0 * ((x4 * x8) - (x5 * x7))) + (x1 * ((x5 * x6) - (x3 * x8)))) + (x2 * ((x3 * x7) - (x4 * x6))))) * ((x4 * x8) - (x5 * x7)))) ((Z1 / (((x0 * ((x4 * x8) - (x5 * x7))) + (x1 * ((x5 * x6) - (x3 * x8)))) + (x2 * ((x3 * x7) - (x4 * x6))))) * ((x4 * x8) - (x5 * x7))) := Num.of (Sm.mul m424.sm m425.sm)
  have m435 : Num 11400000007 (cr ((Z1 / (((x0 * ((x4 * x8) - (x5 * x7))) + (x1 * ((x5 * x6) - (x3 * x8)))) + (x2 * ((x3 * x7) - (x4 * x6))))) * ((x7 * x2) - (x8 * x1)))) ((Z1 / (((x0 * ((x4 * x8) - (x5 * x7))) + (x1 * ((x5 * x6) - (x3 * x8)))) + (x2 * ((x3 * x7) - (x4 * x6))))) * ((x7 * x2) - (x8 * x1))) := Num.of (Sm.mul m424.sm m428.sm)
  have m436 : Num 11400000007 (cr ((Z1 / (((x0 * ((x4 * x8) - (x5 * x7))) + (x1 * ((x5 * x6) - (x3 * x8)))) + (x2 * ((x3 * x7) - (x4 * x6))))) * ((x1 * x5) - (x2 * x4)))) ((Z1 / (((x0 * ((x4 * x8) - (x5 * x7))) + (x1 * ((x5 * x6) - (x3 * x8)))) + (x2 * ((x3 * x7) - (x4 * x6))))) * ((x1 * x5) - (x2 * x4))) := Num.of (Sm.mul m424.sm m431.sm)
  have m437 : Num 11400000007 (cr ((Z1 / (((x0 * ((x4 * x8) - (x5 * x7))) + (x1 * ((x5 * x6) - (x3 * x8)))) + (x2 * ((x3 * x7) - (x4 * x6))))) * ((x5 * x6) - (x3 * x8)))) ((Z1 / (((x0 * ((x4 * x8) - (x5 * x7))) + (x1 * ((x5 * x6) - (x3 * x8)))) + (x2 * ((x3 * x7) - (x4 * x6))))) * ((x5 * x6) - (x3 * x8))) := Num.of (Sm.mul m424.sm m426.sm)
  have m438 : Num 11400000007 (cr ((Z1 / (((x0 * ((x4 * x8) - (x5 * x7))) + (x1 * ((x5 * x6) - (x3 * x8)))) + (x2 * ((x3 * x7) - (x4 * x6))))) * ((x8 * x0) - (x6 * x2)))) ((Z1 / (((x0 * ((x4 * x8) - (x5 * x7))) + (x1 * ((x5 * x6) - (x3 * x8)))) + (x2 * ((x3 * x7) - (x4 * x6))))) * ((x8 * x0) - (x6 * x2))) := Num.of (Sm.mul m424.sm m429.sm)
  have m439 : Num 11400000007 (cr ((Z1 / (((x0 * ((x4 * x8) - (x5 * x7))) + (x1 * ((x5 * x6) - (x3 * x8)))) + (x2 * ((x3 * x7) - (x4 * x6))))) * ((x2 * x3) - (x0 * x5)))) ((Z1 / (((x0 * ((x4 * x8) - (x5 * x7))) + (x1 * ((x5 * x6) - (x3 * x8)))) + (x2 * ((x3 * x7) - (x4 * x6))))) * ((x2 * x3) - (x0 * x5))) := Num.of (Sm.mul m424.sm m432.sm)
  have m440 : Num 11400000007 (cr ((Z1 / (((x0 * ((x4 * x8) - (x5 * x7))) + (x1 * ((x5 * x6) - (x3 * x8)))) + (x2 * ((x3 * x7) - (x4 * x6))))) * ((x3 * x7) - (x4 * x6)))) ((Z1 / (((x0 * ((x4 * x8) - (x5 * x7))) + (x1 * ((x5 * x6) - (x3 * x8)))) + (x2 * ((x3 * x7) - (x4 * x6))))) * ((x3 * x7) - (x4 * x6))) := Num.of (Sm.mul m424.sm m427.sm)
  have m441 : Num 11400000007 (cr ((Z1 / (((x0 * ((x4 * x8) - (x5 * x7))) + (x1 * ((x5 * x6) - (x3 * x8)))) + (x2 * ((x3 * x7) - (x4 * x6))))) * ((x6 * x1) - (x7 * x0)))) ((Z1 / (((x0 * ((x4 * x8) - (x5 * x7))) + (x1 * ((x5 * x6) - (x3 * x8)))) + (x2 * ((x3 * x7) - (x4 * x6))))) * ((x6 * x1) - (x7 * x0))) := Num.of (Sm.mul m424.sm m430.sm)
  have m442 : Num 11400000007 (cr ((Z1 / (((x0 * ((x4 * x8) - (x5 * x7))) + (x1 * ((x5 * x6) - (x3 * x8)))) + (x2 * ((x3 * x7) - (x4 * x6))))) * ((x0 * x4) - (x1 * x3)))) ((Z1 / (((x0 * ((x4 * x8) - (x5 * x7))) + (x1 * ((x5 * x6) - (x3 * x8)))) + (x2 * ((x3 * x7) - (x4 * x6))))) * ((x0 * x4) - (x1 * x3))) := Num.of (Sm.mul m424.sm m433.sm)
  have m443 : Num 1 rz Z0 := Num.zz Y0
  refine call_step (n_affine_Turn_0w (k0 := (((((Z1 / (((x0 * ((x4 * x8) - (x5 * x7))) + (x1 * ((x5 * x6) - (x3 * x8)))) + (x2 * ((x3 * x7) - (x4 * x6))))) * ((x4 * x8) - (x5 * x7))) * x9) + (((Z1 / (((x0 * ((x4 * x8) - (x5 * x7))) + (x1 * ((x5 * x6) - (x3 * x8)))) + (x2 * ((x3 * x7) - (x4 * x6))))) * ((x7 * x2) - (x8 * x1))) * x10)) + (((Z1 / (((x0 * ((x4 * x8) - (x5 * x7))) + (x1 * ((x5 * x6) - (x3 * x8)))) + (x2 * ((x3 * x7) - (x4 * x6))))) * ((x1 * x5) - (x2 * x4))) * x11))) (k1 := (((((Z1 / (((x0 * ((x4 * x8) - (x5 * x7))) + (x1 * ((x5 * x6) - (x3 * x8)))) + (x2 * ((x3 * x7) - (x4 * x6))))) * ((x5 * x6) - (x3 * x8))) * x9) + (((Z1 / (((x0 * ((x4 * x8) - (x5 * x7))) + (x1 * ((x5 * x6) - (x3 * x8)))) + (x2 * ((x3 * x7) - (x4 * x6))))) * ((x8 * x0) - (x6 * x2))) * x10)) + (((Z1 / (((x0 * ((x4 * x8) - (x5 * x7))) + (x1 * ((x5 * x6) - (x3 * x8)))) + (x2 * ((x3 * x7) - (x4 * x6))))) * ((x2 * x3) - (x0 * x5))) * x11))) (k2 := (((((Z1 / (((x0 * ((x4 * x8) - (x5 * x7))) + (x1 * ((x5 * x6) - (x3 * x8)))) + (x2 * ((x3 * x7) - (x4 * x6))))) * ((x3 * x7) - (x4 * x6))) * x9) + (((Z1 / (((x0 * ((x4 * x8) - (x5 * x7))) + (x1 * ((x5 * x6) - (x3 * x8)))) + (x2 * ((x3 * x7) - (x4 * x6))))) * ((x6 * x1) - (x7 * x0))) * x10)) + (((Z1 / (((x0 * ((x4 * x8) - (x5 * x7))) + (x1 * ((x5 * x6) - (x3 * x8)))) + (x2 * ((x3 * x7) - (x4 * x6))))) * ((x0 * x4) - (x1 * x3))) * x11))) m434 m435 m436 m437 m438 m439 m440 m441 m442 m443 m443 m443 h9 h10 h11 (by decide) rfl rfl rfl) rfl ?_
  simp only [HH, gW, gD]
  have m444 : Num 1 (cr Zm1) Zm1 := Num.c Ym1 (by decide +kernel) (by decide +kernel)
  have m445 : Num 36000000023 (cr (((((Z1 / (((x0 * ((x4 * x8) - (x5 * x7))) + (x1 * ((x5 * x6) - (x3 * x8)))) + (x2 * ((x3 * x7) - (x4 * x6))))) * ((x4 * x8) - (x5 * x7))) * x9) + (((Z1 / (((x0 * ((x4 * x8) - (x5 * x7))) + (x1 * ((x5 * x6) - (x3 * x8)))) + (x2 * ((x3 * x7) - (x4 * x6))))) * ((x7 * x2) - (x8 * x1))) * x10)) + (((Z1 / (((x0 * ((x4 * x8) - (x5 * x7))) + (x1 * ((x5 * x6) - (x3 * x8)))) + (x2 * ((x3 * x7) - (x4 * x6))))) * ((x1 * x5) - (x2 * x4))) * x11))) (((((Z1 / (((x0 * ((x4 * x8) - (x5 * x7))) + (x1 * ((x5 * x6) - (x3 * x8)))) + (x2 * ((x3 * x7) - (x4 * x6))))) * ((x4 * x8) - (x5 * x7))) * x9) + (((Z1 / (((x0 * ((x4 * x8) - (x5 * x7))) + (x1 * ((x5 * x6) - (x3 * x8)))) + (x2 * ((x3 * x7) - (x4 * x6))))) * ((x7 * x2) - (x8 * x1))) * x10)) + (((Z1 / (((x0 * ((x4 * x8) - (x5 * x7))) + (x1 * ((x5 * x6) - (x3 * x8)))) + (x2 * ((x3 * x7) - (x4 * x6))))) * ((x1 * x5) - (x2 * x4))) * x11)) := Num.of (Sm.add (Sm.add (Sm.mul m434.sm h9.sm) (Sm.mul m435.sm h10.sm)) (Sm.mul m436.sm h11.sm))
  have m446 : Num 36000000023 (cr (((((Z1 / (((x0 * ((x4 * x8) - (x5 * x7))) + (x1 * ((x5 * x6) - (x3 * x8)))) + (x2 * ((x3 * x7) - (x4 * x6))))) * ((x5 * x6) - (x3 * x8))) * x9) + (((Z1 / (((x0 * ((x4 * x8) - (x5 * x7))) + (x1 * ((x5 * x6) - (x3 * x8)))) + (x2 * ((x3 * x7) - (x4 * x6))))) * ((x8 * x0) - (x6 * x2))) * x10)) + (((Z1 / (((x0 * ((x4 * x8) - (x5 * x7))) + (x1 * ((x5 * x6) - (x3 * x8)))) + (x2 * ((x3 * x7) - (x4 * x6))))) * ((x2 * x3) - (x0 * x5))) * x11))) (((((Z1 / (((x0 * ((x4 * x8) - (x5 * x7))) + (x1 * ((x5 * x6) - (x3 * x8)))) + (x2 * ((x3 * x7) - (x4 * x6))))) * ((x5 * x6) - (x3 * x8))) * x9) + (((Z1 / (((x0 * ((x4 * x8) - (x5 * x7))) + (x1 * ((x5 * x6) - (x3 * x8)))) + (x2 * ((x3 * x7) - (x4 * x6))))) * ((x8 * x0) - (x6 * x2))) * x10)) + (((Z1 / (((x0 * ((x4 * x8) - (x5 * x7))) + (x1 * ((x5 * x6) - (x3 * x8)))) + (x2 * ((x3 * x7) - (x4 * x6))))) * ((x2 * x3) - (x0 * x5))) * x11)) := Num.of (Sm.add (Sm.add (Sm.mul m437.sm h9.sm) (Sm.mul m438.sm h10.sm)) (Sm.mul m439.sm h11.sm))
  have m447 : Num 36000000023 (cr (((((Z1 / (((x0 * ((x4 * x8) - (x5 * x7))) + (x1 * ((x5 * x6) - (x3 * x8)))) + (x2 * ((x3 * x7) - (x4 * x6))))) * ((x3 * x7) - (x4 * x6))) * x9) + (((Z1 / (((x0 * ((x4 * x8) - (x5 * x7))) + (x1 * ((x5 * x6) - (x3 * x8)))) + (x2 * ((x3 * x7) - (x4 * x6))))) * ((x6 * x1) - (x7 * x0))) * x10)) + (((Z1 / (((x0 * ((x4 * x8) - (x5 * x7))) + (x1 * ((x5 * x6) - (x3 * x8)))) + (x2 * ((x3 * x7) - (x4 * x6))))) * ((x0 * x4) - (x1 * x3))) * x11))) (((((Z1 / (((x0 * ((x4 * x8) - (x5 * x7))) + (x1 * ((x5 * x6) - (x3 * x8)))) + (x2 * ((x3 * x7) - (x4 * x6))))) * ((x3 * x7) - (x4 * x6))) * x9) + (((Z1 / (((x0 * ((x4 * x8) - (x5 * x7))) + (x1 * ((x5 * x6) - (x3 * x8)))) + (x2 * ((x3 * x7) - (x4 * x6))))) * ((x6 * x1) - (x7 * x0))) * x10)) + (((Z1 / (((x0 * ((x4 * x8) - (x5 * x7))) + (x1 * ((x5 * x6) - (x3 * x8)))) + (x2 * ((x3 * x7) - (x4 * x6))))) * ((x0 * x4) - (x1 * x3))) * x11)) := Num.of (Sm.add (Sm.add (Sm.mul m440.sm h9.sm) (Sm.mul m441.sm h10.sm)) (Sm.mul m442.sm h11.sm))
  refine call_step (n_vec_Scale_0 (k0 := (Zm1 * (((((Z1 / (((x0 * ((x4 * x8) - (x5 * x7))) + (x1 * ((x5 * x6) - (x3 * x8)))) + (x2 * ((x3 * x7) - (x4 * x6))))) * ((x4 * x8) - (x5 * x7))) * x9) + (((Z1 / (((x0 * ((x4 * x8) - (x5 * x7))) + (x1 * ((x5 * x6) - (x3 * x8)))) + (x2 * ((x3 * x7) - (x4 * x6))))) * ((x7 * x2) - (x8 * x1))) * x10)) + (((Z1 / (((x0 * ((x4 * x8) - (x5 * x7))) + (x1 * ((x5 * x6) - (x3 * x8)))) + (x2 * ((x3 * x7) - (x4 * x6))))) * ((x1 * x5) - (x2 * x4))) * x11)))) (k1 := (Zm1 * (((((Z1 / (((x0 * ((x4 * x8) - (x5 * x7))) + (x1 * ((x5 * x6) - (x3 * x8)))) + (x2 * ((x3 * x7) - (x4 * x6))))) * ((x5 * x6) - (x3 * x8))) * x9) + (((Z1 / (((x0 * ((x4 * x8) - (x5 * x7))) + (x1 * ((x5 * x6) - (x3 * x8)))) + (x2 * ((x3 * x7) - (x4 * x6))))) * ((x8 * x0) - (x6 * x2))) * x10)) + (((Z1 / (((x0 * ((x4 * x8) - (x5 * x7))) + (x1 * ((x5 * x6) - (x3 * x8)))) + (x2 * ((x3 * x7) - (x4 * x6))))) * ((x2 * x3) - (x0 * x5))) * x11)))) (k2 := (Zm1 * (((((Z1 / (((x0 * ((x4 * x8) - (x5 * x7))) + (x1 * ((x5 * x6) - (x3 * x8)))) + (x2 * ((x3 * x7) - (x4 * x6))))) * ((x3 * x7) - (x4 * x6))) * x9) + (((Z1 / (((x0 * ((x4 * x8) - (x5 * x7))) + (x1 * ((x5 * x6) - (x3 * x8)))) + (x2 * ((x3 * x7) - (x4 * x6))))) * ((x6 * x1) - (x7 * x0))) * x10)) + (((Z1 / (((x0 * ((x4 * x8) - (x5 * x7))) + (x1 * ((x5 * x6) - (x3 * x8)))) + (x2 * ((x3 * x7) - (x4 * x6))))) * ((x0 * x4) - (x1 * x3))) * x11)))) (m444.mono (by decide)) (m445.mono (by decide)) (m446.mono (by decide)) (m447.mono (by decide)) rfl rfl rfl) rfl ?_
  simp only [HH, gW, gD]
  exact ret_step rfl

end Go.Px.Na

/- XFrameRight: the trees of functions and their contracts, as programs of mine printed them. -/
import Derived.Test.YtbpadnlpkdmkmaaLs
import Derived.Test.YtbpadnlpkdmkmaaPx24
import Derived.Test.YtbpadnlpkdmkmaaProg
import Derived.Tactics
set_option maxRecDepth 20000
set_option maxHeartbeats 40000000
set_option linter.unusedVariables false
set_option linter.unusedSimpArgs false
namespace Go.Px
open Go.RowKit
def ir_vec_Dot : IR :=
 .prim (.mk 2) [.var 0, .var 1, .var 2, .var 9, .var 10, .var 11] <|
 .call F.rat_Product [.one (.var 18)] [.agg 3] <|
 .prim (.mk 2) [.var 3, .var 4, .var 5, .var 12, .var 13, .var 14] <|
 .call F.rat_Product [.one (.var 22)] [.agg 3] <|
 .prim (.mk 2) [.var 6, .var 7, .var 8, .var 15, .var 16, .var 17] <|
 .call F.rat_Product [.one (.var 26)] [.agg 3] <|
 .prim (.mk 3) [.var 19, .var 20, .var 21, .var 23, .var 24, .var 25, .var 27, .var 28, .var 29] <|
 .call F.rat_Sum [.one (.var 30)] [.agg 3] <|
 .ret [.agg [.var 31, .var 32, .var 33]]

def ir_vec_Sub : IR :=
 .call F.rat_Sub [.agg [.var 0, .var 1, .var 2], .agg [.var 9, .var 10, .var 11]] [.agg 3] <|
 .call F.rat_Sub [.agg [.var 3, .var 4, .var 5], .agg [.var 12, .var 13, .var 14]] [.agg 3] <|
 .call F.rat_Sub [.agg [.var 6, .var 7, .var 8], .agg [.var 15, .var 16, .var 17]] [.agg 3] <|
 .ret [.agg [.var 18, .var 19, .var 20, .var 21, .var 22, .var 23, .var 24, .var 25, .var 26]]

def ir_vec_Scale : IR :=
 .prim (.mk 2) [.var 0, .var 1, .var 2, .var 3, .var 4, .var 5] <|
 .call F.rat_Product [.one (.var 12)] [.agg 3] <|
 .prim (.mk 2) [.var 0, .var 1, .var 2, .var 6, .var 7, .var 8] <|
 .call F.rat_Product [.one (.var 16)] [.agg 3] <|
 .prim (.mk 2) [.var 0, .var 1, .var 2, .var 9, .var 10, .var 11] <|
 .call F.rat_Product [.one (.var 20)] [.agg 3] <|
 .ret [.agg [.var 13, .var 14, .var 15, .var 17, .var 18, .var 19, .var 21, .var 22, .var 23]]

def ir_vec_Read : IR :=
 .call F.rat_Read [.agg [.var 0, .var 1, .var 2]] [.agg 3] <|
 .call F.rat_Read [.agg [.var 3, .var 4, .var 5]] [.agg 3] <|
 .call F.rat_Read [.agg [.var 6, .var 7, .var 8]] [.agg 3] <|
 .ret [.agg [.var 9, .var 10, .var 11, .var 12, .var 13, .var 14, .var 15, .var 16, .var 17]]

def ir_frame_Of : IR :=
 .call F.vec_Of [.one (.int .i64 (1)), .one (.int .i64 (0)), .one (.int .i64 (0))] [.agg 9] <|
 .call F.vec_Of [.one (.int .i64 (0)), .one (.int .i64 (1)), .one (.int .i64 (0))] [.agg 9] <|
 .call F.vec_Of [.one (.int .i64 (0)), .one (.int .i64 (0)), .one (.int .i64 (1))] [.agg 9] <|
 .call F.vec_Of [.one (.int .i64 (0)), .one (.int .i64 (0)), .one (.int .i64 (0))] [.agg 9] <|
 .call F.vec_Dot [.agg [.var 0, .var 1, .var 2, .var 3, .var 4, .var 5, .var 6, .var 7, .var 8], .agg [.var 0, .var 1, .var 2, .var 3, .var 4, .var 5, .var 6, .var 7, .var 8]] [.agg 3] <|
 .call F.rat_Of [.one (.int .i64 (1)), .one (.int .i64 (1))] [.agg 3] <|
 .call F.rat_Same [.agg [.var 45, .var 46, .var 47], .agg [.var 48, .var 49, .var 50]] [.one] <|
 .prim .not [.var 51] <|
 .ite (.var 52) (
  .ret [.agg [.var 36, .var 37, .var 38, .var 39, .var 40, .var 41, .var 42, .var 43, .var 44, .var 36, .var 37, .var 38, .var 39, .var 40, .var 41, .var 42, .var 43, .var 44, .var 36, .var 37, .var 38, .var 39, .var 40, .var 41, .var 42, .var 43, .var 44], .one (.bol false)]) (
  .call F.vec_Sub [.agg [.var 27, .var 28, .var 29, .var 30, .var 31, .var 32, .var 33, .var 34, .var 35], .agg [.var 0, .var 1, .var 2, .var 3, .var 4, .var 5, .var 6, .var 7, .var 8]] [.agg 9] <|
  .call F.rat_Of [.one (.int .i64 (-2)), .one (.int .i64 (1))] [.agg 3] <|
  .call F.vec_Dot [.agg [.var 53, .var 54, .var 55, .var 56, .var 57, .var 58, .var 59, .var 60, .var 61], .agg [.var 53, .var 54, .var 55, .var 56, .var 57, .var 58, .var 59, .var 60, .var 61]] [.agg 3] <|
  .call F.rat_Div [.agg [.var 62, .var 63, .var 64], .agg [.var 65, .var 66, .var 67]] [.agg 3, .one] <|
  .prim .not [.var 71] <|
  .ite (.var 72) (
   .ret [.agg [.var 9, .var 10, .var 11, .var 12, .var 13, .var 14, .var 15, .var 16, .var 17, .var 18, .var 19, .var 20, .var 21, .var 22, .var 23, .var 24, .var 25, .var 26, .var 27, .var 28, .var 29, .var 30, .var 31, .var 32, .var 33, .var 34, .var 35], .one (.bol true)]) (
   .prim (.mk 2) [.var 68, .var 69, .var 70, .var 53, .var 54, .var 55] <|
   .call F.rat_Product [.one (.var 73)] [.agg 3] <|
   .call F.vec_Scale [.agg [.var 74, .var 75, .var 76], .agg [.var 53, .var 54, .var 55, .var 56, .var 57, .var 58, .var 59, .var 60, .var 61]] [.agg 9] <|
   .prim (.mk 2) [.var 9, .var 10, .var 11, .var 12, .var 13, .var 14, .var 15, .var 16, .var 17, .var 77, .var 78, .var 79, .var 80, .var 81, .var 82, .var 83, .var 84, .var 85] <|
   .call F.vec_Sum [.one (.var 86)] [.agg 9] <|
   .prim (.mk 2) [.var 68, .var 69, .var 70, .var 56, .var 57, .var 58] <|
   .call F.rat_Product [.one (.var 96)] [.agg 3] <|
   .call F.vec_Scale [.agg [.var 97, .var 98, .var 99], .agg [.var 53, .var 54, .var 55, .var 56, .var 57, .var 58, .var 59, .var 60, .var 61]] [.agg 9] <|
   .prim (.mk 2) [.var 18, .var 19, .var 20, .var 21, .var 22, .var 23, .var 24, .var 25, .var 26, .var 100, .var 101, .var 102, .var 103, .var 104, .var 105, .var 106, .var 107, .var 108] <|
   .call F.vec_Sum [.one (.var 109)] [.agg 9] <|
   .call F.vec_Read [.agg [.var 0, .var 1, .var 2, .var 3, .var 4, .var 5, .var 6, .var 7, .var 8]] [.agg 9] <|
   .ret [.agg [.var 87, .var 88, .var 89, .var 90, .var 91, .var 92, .var 93, .var 94, .var 95, .var 110, .var 111, .var 112, .var 113, .var 114, .var 115, .var 116, .var 117, .var 118, .var 119, .var 120, .var 121, .var 122, .var 123, .var 124, .var 125, .var 126, .var 127], .one (.bol true)]))

def ir_frame_In : IR :=
 .call F.vec_Dot [.agg [.var 27, .var 28, .var 29, .var 30, .var 31, .var 32, .var 33, .var 34, .var 35], .agg [.var 0, .var 1, .var 2, .var 3, .var 4, .var 5, .var 6, .var 7, .var 8]] [.agg 3] <|
 .call F.vec_Dot [.agg [.var 27, .var 28, .var 29, .var 30, .var 31, .var 32, .var 33, .var 34, .var 35], .agg [.var 9, .var 10, .var 11, .var 12, .var 13, .var 14, .var 15, .var 16, .var 17]] [.agg 3] <|
 .call F.vec_Dot [.agg [.var 27, .var 28, .var 29, .var 30, .var 31, .var 32, .var 33, .var 34, .var 35], .agg [.var 18, .var 19, .var 20, .var 21, .var 22, .var 23, .var 24, .var 25, .var 26]] [.agg 3] <|
 .ret [.agg [.var 36, .var 37, .var 38, .var 39, .var 40, .var 41, .var 42, .var 43, .var 44]]

def ir_frame_Slopes : IR :=
 .call F.frame_In [.agg [.var 0, .var 1, .var 2, .var 3, .var 4, .var 5, .var 6, .var 7, .var 8, .var 9, .var 10, .var 11, .var 12, .var 13, .var 14, .var 15, .var 16, .var 17, .var 18, .var 19, .var 20, .var 21, .var 22, .var 23, .var 24, .var 25, .var 26], .agg [.var 27, .var 28, .var 29, .var 30, .var 31, .var 32, .var 33, .var 34, .var 35]] [.agg 9] <|
 .call F.rat_Div [.agg [.var 36, .var 37, .var 38], .agg [.var 42, .var 43, .var 44]] [.agg 3, .one] <|
 .call F.rat_Div [.agg [.var 39, .var 40, .var 41], .agg [.var 42, .var 43, .var 44]] [.agg 3, .one] <|
 .ret [.agg [.var 45, .var 46, .var 47], .agg [.var 49, .var 50, .var 51], .agg [.var 42, .var 43, .var 44], .one (.var 48)]

def ir_penumbraref05_Scale : IR :=
 .call F.penumbraref03_Mul [.agg [.var 0, .var 1, .var 2], .agg [.var 3, .var 4, .var 5]] [.agg 3] <|
 .call F.penumbraref03_Mul [.agg [.var 0, .var 1, .var 2], .agg [.var 6, .var 7, .var 8]] [.agg 3] <|
 .call F.penumbraref03_Mul [.agg [.var 0, .var 1, .var 2], .agg [.var 9, .var 10, .var 11]] [.agg 3] <|
 .ret [.agg [.var 12, .var 13, .var 14, .var 15, .var 16, .var 17, .var 18, .var 19, .var 20]]

def ir_penumbraref05_Is : IR :=
 .call F.penumbraref03_Is [.agg [.var 0, .var 1, .var 2], .agg [.var 9, .var 10, .var 11]] [.one] <|
 .ite (.var 18) (
  .call F.penumbraref03_Is [.agg [.var 3, .var 4, .var 5], .agg [.var 12, .var 13, .var 14]] [.one] <|
  .ite (.var 19) (
   .call F.penumbraref03_Is [.agg [.var 6, .var 7, .var 8], .agg [.var 15, .var 16, .var 17]] [.one] <|
   .ret [.one (.var 20)]) (
   .ret [.one (.bol false)])) (
  .ret [.one (.bol false)])

def ir_penumbralaw06_fixed : IR :=
 .call F.rat_Of [.one (.int .i64 (1)), .one (.int .i64 (3))] [.agg 3] <|
 .call F.vec_Of [.one (.int .i64 (2)), .one (.int .i64 (1)), .one (.int .i64 (2))] [.agg 9] <|
 .call F.vec_Scale [.agg [.var 0, .var 1, .var 2], .agg [.var 3, .var 4, .var 5, .var 6, .var 7, .var 8, .var 9, .var 10, .var 11]] [.agg 9] <|
 .call F.frame_Of [.agg [.var 12, .var 13, .var 14, .var 15, .var 16, .var 17, .var 18, .var 19, .var 20]] [.agg 27, .one] <|
 .call F.vec_Of [.one (.int .i64 (1)), .one (.int .i64 (1)), .one (.int .i64 (0))] [.agg 9] <|
 .call F.frame_Of [.agg [.var 49, .var 50, .var 51, .var 52, .var 53, .var 54, .var 55, .var 56, .var 57]] [.agg 27, .one] <|
 .call F.vec_Of [.one (.int .i64 (0)), .one (.int .i64 (0)), .one (.int .i64 (1))] [.agg 9] <|
 .call F.frame_Of [.agg [.var 86, .var 87, .var 88, .var 89, .var 90, .var 91, .var 92, .var 93, .var 94]] [.agg 27, .one] <|
 .call F.vec_Of [.one (.int .i64 (3)), .one (.int .i64 (4)), .one (.int .i64 (2))] [.agg 9] <|
 .call F.frame_Slopes [.agg [.var 95, .var 96, .var 97, .var 98, .var 99, .var 100, .var 101, .var 102, .var 103, .var 104, .var 105, .var 106, .var 107, .var 108, .var 109, .var 110, .var 111, .var 112, .var 113, .var 114, .var 115, .var 116, .var 117, .var 118, .var 119, .var 120, .var 121], .agg [.var 123, .var 124, .var 125, .var 126, .var 127, .var 128, .var 129, .var 130, .var 131]] [.agg 3, .agg 3, .agg 3, .one] <|
 .ite (.var 48) (
  .call F.penumbraref03_Of [.one (.int .i64 (1)), .one (.int .i64 (3))] [.agg 3] <|
  .call F.penumbraref05_Of [.one (.int .i64 (-1)), .one (.int .i64 (-2)), .one (.int .i64 (2))] [.agg 9] <|
  .call F.penumbraref05_Scale [.agg [.var 142, .var 143, .var 144], .agg [.var 145, .var 146, .var 147, .var 148, .var 149, .var 150, .var 151, .var 152, .var 153]] [.agg 9] <|
  .call F.penumbraref05_Is [.agg [.var 21, .var 22, .var 23, .var 24, .var 25, .var 26, .var 27, .var 28, .var 29], .agg [.var 154, .var 155, .var 156, .var 157, .var 158, .var 159, .var 160, .var 161, .var 162]] [.one] <|
  .ite (.var 163) (
   .call F.penumbraref03_Of [.one (.int .i64 (1)), .one (.int .i64 (3))] [.agg 3] <|
   .call F.penumbraref05_Of [.one (.int .i64 (-2)), .one (.int .i64 (2)), .one (.int .i64 (1))] [.agg 9] <|
   .call F.penumbraref05_Scale [.agg [.var 164, .var 165, .var 166], .agg [.var 167, .var 168, .var 169, .var 170, .var 171, .var 172, .var 173, .var 174, .var 175]] [.agg 9] <|
   .call F.penumbraref05_Is [.agg [.var 30, .var 31, .var 32, .var 33, .var 34, .var 35, .var 36, .var 37, .var 38], .agg [.var 176, .var 177, .var 178, .var 179, .var 180, .var 181, .var 182, .var 183, .var 184]] [.one] <|
   .ite (.var 185) (
    .prim .not [.var 85] <|
    .ite (.var 186) (
     .ite (.var 122) (
      .ite (.var 141) (
       .call F.penumbraref03_Of [.one (.int .i64 (3)), .one (.int .i64 (2))] [.agg 3] <|
       .call F.penumbraref03_Is [.agg [.var 132, .var 133, .var 134], .agg [.var 187, .var 188, .var 189]] [.one] <|
       .ite (.var 190) (
        .call F.penumbraref03_Of [.one (.int .i64 (2)), .one (.int .i64 (1))] [.agg 3] <|
        .call F.penumbraref03_Is [.agg [.var 135, .var 136, .var 137], .agg [.var 191, .var 192, .var 193]] [.one] <|
        .ite (.var 194) (
         .call F.penumbraref03_Of [.one (.int .i64 (2)), .one (.int .i64 (1))] [.agg 3] <|
         .call F.penumbraref03_Is [.agg [.var 138, .var 139, .var 140], .agg [.var 195, .var 196, .var 197]] [.one] <|
         .ret [.one (.var 198)]) (
         .ret [.one (.bol false)])) (
        .ret [.one (.bol false)])) (
       .ret [.one (.bol false)])) (
      .ret [.one (.bol false)])) (
     .ret [.one (.bol false)])) (
    .ret [.one (.bol false)])) (
   .ret [.one (.bol false)])) (
  .ret [.one (.bol false)])

def ir_frame_Out : IR :=
 .call F.vec_Scale [.agg [.var 27, .var 28, .var 29], .agg [.var 0, .var 1, .var 2, .var 3, .var 4, .var 5, .var 6, .var 7, .var 8]] [.agg 9] <|
 .call F.vec_Scale [.agg [.var 30, .var 31, .var 32], .agg [.var 9, .var 10, .var 11, .var 12, .var 13, .var 14, .var 15, .var 16, .var 17]] [.agg 9] <|
 .call F.vec_Scale [.agg [.var 33, .var 34, .var 35], .agg [.var 18, .var 19, .var 20, .var 21, .var 22, .var 23, .var 24, .var 25, .var 26]] [.agg 9] <|
 .prim (.mk 3) [.var 36, .var 37, .var 38, .var 39, .var 40, .var 41, .var 42, .var 43, .var 44, .var 45, .var 46, .var 47, .var 48, .var 49, .var 50, .var 51, .var 52, .var 53, .var 54, .var 55, .var 56, .var 57, .var 58, .var 59, .var 60, .var 61, .var 62] <|
 .call F.vec_Sum [.one (.var 63)] [.agg 9] <|
 .ret [.agg [.var 64, .var 65, .var 66, .var 67, .var 68, .var 69, .var 70, .var 71, .var 72]]

def ir_penumbralaw06_FrameRight : IR :=
 .call F.frame_Of [.agg [.var 0, .var 1, .var 2, .var 3, .var 4, .var 5, .var 6, .var 7, .var 8]] [.agg 27, .one] <|
 .call F.penumbralaw06_fixed [] [.one] <|
 .prim .not [.var 55] <|
 .ite (.var 56) (
  .call F.penumbralaw06_fixed [] [.one] <|
  .ite (.var 57) (
   .call F.vec_Dot [.agg [.var 0, .var 1, .var 2, .var 3, .var 4, .var 5, .var 6, .var 7, .var 8], .agg [.var 0, .var 1, .var 2, .var 3, .var 4, .var 5, .var 6, .var 7, .var 8]] [.agg 3] <|
   .call F.rat_Of [.one (.int .i64 (1)), .one (.int .i64 (1))] [.agg 3] <|
   .call F.rat_Same [.agg [.var 58, .var 59, .var 60], .agg [.var 61, .var 62, .var 63]] [.one] <|
   .prim .not [.var 64] <|
   .ret [.one (.var 65)]) (
   .ret [.one (.bol false)])) (
  .prim .not [.var 54] <|
  .ite (.var 57) (
   .call F.penumbralaw06_fixed [] [.one] <|
   .ite (.var 58) (
    .call F.vec_Dot [.agg [.var 0, .var 1, .var 2, .var 3, .var 4, .var 5, .var 6, .var 7, .var 8], .agg [.var 0, .var 1, .var 2, .var 3, .var 4, .var 5, .var 6, .var 7, .var 8]] [.agg 3] <|
    .call F.rat_Of [.one (.int .i64 (1)), .one (.int .i64 (1))] [.agg 3] <|
    .call F.rat_Same [.agg [.var 59, .var 60, .var 61], .agg [.var 62, .var 63, .var 64]] [.one] <|
    .prim .not [.var 65] <|
    .ret [.one (.var 66)]) (
    .ret [.one (.bol false)])) (
   .prim (.mk 3) [.var 27, .var 28, .var 29, .var 30, .var 31, .var 32, .var 33, .var 34, .var 35, .var 36, .var 37, .var 38, .var 39, .var 40, .var 41, .var 42, .var 43, .var 44, .var 45, .var 46, .var 47, .var 48, .var 49, .var 50, .var 51, .var 52, .var 53] <|
   .call F.penumbraref03_Zero [] [.agg 3] <|
   .call F.penumbraref03_One [] [.agg 3] <|
   .prim (.inb 9) [.var 58, .int .i64 (0)] <|
   .prim (.get 9 0) [.var 58, .int .i64 (0)] <|
   .prim (.get 9 1) [.var 58, .int .i64 (0)] <|
   .prim (.get 9 2) [.var 58, .int .i64 (0)] <|
   .prim (.get 9 3) [.var 58, .int .i64 (0)] <|
   .prim (.get 9 4) [.var 58, .int .i64 (0)] <|
   .prim (.get 9 5) [.var 58, .int .i64 (0)] <|
   .prim (.get 9 6) [.var 58, .int .i64 (0)] <|
   .prim (.get 9 7) [.var 58, .int .i64 (0)] <|
   .prim (.get 9 8) [.var 58, .int .i64 (0)] <|
   .prim (.inb 9) [.var 58, .int .i64 (0)] <|
   .prim (.get 9 0) [.var 58, .int .i64 (0)] <|
   .prim (.get 9 1) [.var 58, .int .i64 (0)] <|
   .prim (.get 9 2) [.var 58, .int .i64 (0)] <|
   .prim (.get 9 3) [.var 58, .int .i64 (0)] <|
   .prim (.get 9 4) [.var 58, .int .i64 (0)] <|
   .prim (.get 9 5) [.var 58, .int .i64 (0)] <|
   .prim (.get 9 6) [.var 58, .int .i64 (0)] <|
   .prim (.get 9 7) [.var 58, .int .i64 (0)] <|
   .prim (.get 9 8) [.var 58, .int .i64 (0)] <|
   .call F.vec_Dot [.agg [.var 66, .var 67, .var 68, .var 69, .var 70, .var 71, .var 72, .var 73, .var 74], .agg [.var 76, .var 77, .var 78, .var 79, .var 80, .var 81, .var 82, .var 83, .var 84]] [.agg 3] <|
   .call F.penumbraref03_Is [.agg [.var 85, .var 86, .var 87], .agg [.var 62, .var 63, .var 64]] [.one] <|
   .prim .not [.var 88] <|
   .ite (.var 89) (
    .ret [.one (.bol false)]) (
    .call F.penumbraref03_Zero [] [.agg 3] <|
    .prim (.inb 9) [.var 58, .int .i64 (0)] <|
    .prim (.get 9 0) [.var 58, .int .i64 (0)] <|
    .prim (.get 9 1) [.var 58, .int .i64 (0)] <|
    .prim (.get 9 2) [.var 58, .int .i64 (0)] <|
    .prim (.get 9 3) [.var 58, .int .i64 (0)] <|
    .prim (.get 9 4) [.var 58, .int .i64 (0)] <|
    .prim (.get 9 5) [.var 58, .int .i64 (0)] <|
    .prim (.get 9 6) [.var 58, .int .i64 (0)] <|
    .prim (.get 9 7) [.var 58, .int .i64 (0)] <|
    .prim (.get 9 8) [.var 58, .int .i64 (0)] <|
    .prim (.inb 9) [.var 58, .int .i64 (1)] <|
    .prim (.get 9 0) [.var 58, .int .i64 (1)] <|
    .prim (.get 9 1) [.var 58, .int .i64 (1)] <|
    .prim (.get 9 2) [.var 58, .int .i64 (1)] <|
    .prim (.get 9 3) [.var 58, .int .i64 (1)] <|
    .prim (.get 9 4) [.var 58, .int .i64 (1)] <|
    .prim (.get 9 5) [.var 58, .int .i64 (1)] <|
    .prim (.get 9 6) [.var 58, .int .i64 (1)] <|
    .prim (.get 9 7) [.var 58, .int .i64 (1)] <|
    .prim (.get 9 8) [.var 58, .int .i64 (1)] <|
    .call F.vec_Dot [.agg [.var 94, .var 95, .var 96, .var 97, .var 98, .var 99, .var 100, .var 101, .var 102], .agg [.var 104, .var 105, .var 106, .var 107, .var 108, .var 109, .var 110, .var 111, .var 112]] [.agg 3] <|
    .call F.penumbraref03_Is [.agg [.var 113, .var 114, .var 115], .agg [.var 90, .var 91, .var 92]] [.one] <|
    .prim .not [.var 116] <|
    .ite (.var 117) (
     .ret [.one (.bol false)]) (
     .call F.penumbraref03_Zero [] [.agg 3] <|
     .prim (.inb 9) [.var 58, .int .i64 (0)] <|
     .prim (.get 9 0) [.var 58, .int .i64 (0)] <|
     .prim (.get 9 1) [.var 58, .int .i64 (0)] <|
     .prim (.get 9 2) [.var 58, .int .i64 (0)] <|
     .prim (.get 9 3) [.var 58, .int .i64 (0)] <|
     .prim (.get 9 4) [.var 58, .int .i64 (0)] <|
     .prim (.get 9 5) [.var 58, .int .i64 (0)] <|
     .prim (.get 9 6) [.var 58, .int .i64 (0)] <|
     .prim (.get 9 7) [.var 58, .int .i64 (0)] <|
     .prim (.get 9 8) [.var 58, .int .i64 (0)] <|
     .prim (.inb 9) [.var 58, .int .i64 (2)] <|
     .prim (.get 9 0) [.var 58, .int .i64 (2)] <|
     .prim (.get 9 1) [.var 58, .int .i64 (2)] <|
     .prim (.get 9 2) [.var 58, .int .i64 (2)] <|
     .prim (.get 9 3) [.var 58, .int .i64 (2)] <|
     .prim (.get 9 4) [.var 58, .int .i64 (2)] <|
     .prim (.get 9 5) [.var 58, .int .i64 (2)] <|
     .prim (.get 9 6) [.var 58, .int .i64 (2)] <|
     .prim (.get 9 7) [.var 58, .int .i64 (2)] <|
     .prim (.get 9 8) [.var 58, .int .i64 (2)] <|
     .call F.vec_Dot [.agg [.var 122, .var 123, .var 124, .var 125, .var 126, .var 127, .var 128, .var 129, .var 130], .agg [.var 132, .var 133, .var 134, .var 135, .var 136, .var 137, .var 138, .var 139, .var 140]] [.agg 3] <|
     .call F.penumbraref03_Is [.agg [.var 141, .var 142, .var 143], .agg [.var 118, .var 119, .var 120]] [.one] <|
     .prim .not [.var 144] <|
     .ite (.var 145) (
      .ret [.one (.bol false)]) (
      .call F.penumbraref03_Zero [] [.agg 3] <|
      .prim (.inb 9) [.var 58, .int .i64 (1)] <|
      .prim (.get 9 0) [.var 58, .int .i64 (1)] <|
      .prim (.get 9 1) [.var 58, .int .i64 (1)] <|
      .prim (.get 9 2) [.var 58, .int .i64 (1)] <|
      .prim (.get 9 3) [.var 58, .int .i64 (1)] <|
      .prim (.get 9 4) [.var 58, .int .i64 (1)] <|
      .prim (.get 9 5) [.var 58, .int .i64 (1)] <|
      .prim (.get 9 6) [.var 58, .int .i64 (1)] <|
      .prim (.get 9 7) [.var 58, .int .i64 (1)] <|
      .prim (.get 9 8) [.var 58, .int .i64 (1)] <|
      .prim (.inb 9) [.var 58, .int .i64 (0)] <|
      .prim (.get 9 0) [.var 58, .int .i64 (0)] <|
      .prim (.get 9 1) [.var 58, .int .i64 (0)] <|
      .prim (.get 9 2) [.var 58, .int .i64 (0)] <|
      .prim (.get 9 3) [.var 58, .int .i64 (0)] <|
      .prim (.get 9 4) [.var 58, .int .i64 (0)] <|
      .prim (.get 9 5) [.var 58, .int .i64 (0)] <|
      .prim (.get 9 6) [.var 58, .int .i64 (0)] <|
      .prim (.get 9 7) [.var 58, .int .i64 (0)] <|
      .prim (.get 9 8) [.var 58, .int .i64 (0)] <|
      .call F.vec_Dot [.agg [.var 150, .var 151, .var 152, .var 153, .var 154, .var 155, .var 156, .var 157, .var 158], .agg [.var 160, .var 161, .var 162, .var 163, .var 164, .var 165, .var 166, .var 167, .var 168]] [.agg 3] <|
      .call F.penumbraref03_Is [.agg [.var 169, .var 170, .var 171], .agg [.var 146, .var 147, .var 148]] [.one] <|
      .prim .not [.var 172] <|
      .ite (.var 173) (
       .ret [.one (.bol false)]) (
       .call F.penumbraref03_Zero [] [.agg 3] <|
       .call F.penumbraref03_One [] [.agg 3] <|
       .prim (.inb 9) [.var 58, .int .i64 (1)] <|
       .prim (.get 9 0) [.var 58, .int .i64 (1)] <|
       .prim (.get 9 1) [.var 58, .int .i64 (1)] <|
       .prim (.get 9 2) [.var 58, .int .i64 (1)] <|
       .prim (.get 9 3) [.var 58, .int .i64 (1)] <|
       .prim (.get 9 4) [.var 58, .int .i64 (1)] <|
       .prim (.get 9 5) [.var 58, .int .i64 (1)] <|
       .prim (.get 9 6) [.var 58, .int .i64 (1)] <|
       .prim (.get 9 7) [.var 58, .int .i64 (1)] <|
       .prim (.get 9 8) [.var 58, .int .i64 (1)] <|
       .prim (.inb 9) [.var 58, .int .i64 (1)] <|
       .prim (.get 9 0) [.var 58, .int .i64 (1)] <|
       .prim (.get 9 1) [.var 58, .int .i64 (1)] <|
       .prim (.get 9 2) [.var 58, .int .i64 (1)] <|
       .prim (.get 9 3) [.var 58, .int .i64 (1)] <|
       .prim (.get 9 4) [.var 58, .int .i64 (1)] <|
       .prim (.get 9 5) [.var 58, .int .i64 (1)] <|
       .prim (.get 9 6) [.var 58, .int .i64 (1)] <|
       .prim (.get 9 7) [.var 58, .int .i64 (1)] <|
       .prim (.get 9 8) [.var 58, .int .i64 (1)] <|
       .call F.vec_Dot [.agg [.var 181, .var 182, .var 183, .var 184, .var 185, .var 186, .var 187, .var 188, .var 189], .agg [.var 191, .var 192, .var 193, .var 194, .var 195, .var 196, .var 197, .var 198, .var 199]] [.agg 3] <|
       .call F.penumbraref03_Is [.agg [.var 200, .var 201, .var 202], .agg [.var 177, .var 178, .var 179]] [.one] <|
       .prim .not [.var 203] <|
       .ite (.var 204) (
        .ret [.one (.bol false)]) (
        .call F.penumbraref03_Zero [] [.agg 3] <|
        .prim (.inb 9) [.var 58, .int .i64 (1)] <|
        .prim (.get 9 0) [.var 58, .int .i64 (1)] <|
        .prim (.get 9 1) [.var 58, .int .i64 (1)] <|
        .prim (.get 9 2) [.var 58, .int .i64 (1)] <|
        .prim (.get 9 3) [.var 58, .int .i64 (1)] <|
        .prim (.get 9 4) [.var 58, .int .i64 (1)] <|
        .prim (.get 9 5) [.var 58, .int .i64 (1)] <|
        .prim (.get 9 6) [.var 58, .int .i64 (1)] <|
        .prim (.get 9 7) [.var 58, .int .i64 (1)] <|
        .prim (.get 9 8) [.var 58, .int .i64 (1)] <|
        .prim (.inb 9) [.var 58, .int .i64 (2)] <|
        .prim (.get 9 0) [.var 58, .int .i64 (2)] <|
        .prim (.get 9 1) [.var 58, .int .i64 (2)] <|
        .prim (.get 9 2) [.var 58, .int .i64 (2)] <|
        .prim (.get 9 3) [.var 58, .int .i64 (2)] <|
        .prim (.get 9 4) [.var 58, .int .i64 (2)] <|
        .prim (.get 9 5) [.var 58, .int .i64 (2)] <|
        .prim (.get 9 6) [.var 58, .int .i64 (2)] <|
        .prim (.get 9 7) [.var 58, .int .i64 (2)] <|
        .prim (.get 9 8) [.var 58, .int .i64 (2)] <|
        .call F.vec_Dot [.agg [.var 209, .var 210, .var 211, .var 212, .var 213, .var 214, .var 215, .var 216, .var 217], .agg [.var 219, .var 220, .var 221, .var 222, .var 223, .var 224, .var 225, .var 226, .var 227]] [.agg 3] <|
        .call F.penumbraref03_Is [.agg [.var 228, .var 229, .var 230], .agg [.var 205, .var 206, .var 207]] [.one] <|
        .prim .not [.var 231] <|
        .ite (.var 232) (
         .ret [.one (.bol false)]) (
         .call F.penumbraref03_Zero [] [.agg 3] <|
         .prim (.inb 9) [.var 58, .int .i64 (2)] <|
         .prim (.get 9 0) [.var 58, .int .i64 (2)] <|
         .prim (.get 9 1) [.var 58, .int .i64 (2)] <|
         .prim (.get 9 2) [.var 58, .int .i64 (2)] <|
         .prim (.get 9 3) [.var 58, .int .i64 (2)] <|
         .prim (.get 9 4) [.var 58, .int .i64 (2)] <|
         .prim (.get 9 5) [.var 58, .int .i64 (2)] <|
         .prim (.get 9 6) [.var 58, .int .i64 (2)] <|
         .prim (.get 9 7) [.var 58, .int .i64 (2)] <|
         .prim (.get 9 8) [.var 58, .int .i64 (2)] <|
         .prim (.inb 9) [.var 58, .int .i64 (0)] <|
         .prim (.get 9 0) [.var 58, .int .i64 (0)] <|
         .prim (.get 9 1) [.var 58, .int .i64 (0)] <|
         .prim (.get 9 2) [.var 58, .int .i64 (0)] <|
         .prim (.get 9 3) [.var 58, .int .i64 (0)] <|
         .prim (.get 9 4) [.var 58, .int .i64 (0)] <|
         .prim (.get 9 5) [.var 58, .int .i64 (0)] <|
         .prim (.get 9 6) [.var 58, .int .i64 (0)] <|
         .prim (.get 9 7) [.var 58, .int .i64 (0)] <|
         .prim (.get 9 8) [.var 58, .int .i64 (0)] <|
         .call F.vec_Dot [.agg [.var 237, .var 238, .var 239, .var 240, .var 241, .var 242, .var 243, .var 244, .var 245], .agg [.var 247, .var 248, .var 249, .var 250, .var 251, .var 252, .var 253, .var 254, .var 255]] [.agg 3] <|
         .call F.penumbraref03_Is [.agg [.var 256, .var 257, .var 258], .agg [.var 233, .var 234, .var 235]] [.one] <|
         .prim .not [.var 259] <|
         .ite (.var 260) (
          .ret [.one (.bol false)]) (
          .call F.penumbraref03_Zero [] [.agg 3] <|
          .prim (.inb 9) [.var 58, .int .i64 (2)] <|
          .prim (.get 9 0) [.var 58, .int .i64 (2)] <|
          .prim (.get 9 1) [.var 58, .int .i64 (2)] <|
          .prim (.get 9 2) [.var 58, .int .i64 (2)] <|
          .prim (.get 9 3) [.var 58, .int .i64 (2)] <|
          .prim (.get 9 4) [.var 58, .int .i64 (2)] <|
          .prim (.get 9 5) [.var 58, .int .i64 (2)] <|
          .prim (.get 9 6) [.var 58, .int .i64 (2)] <|
          .prim (.get 9 7) [.var 58, .int .i64 (2)] <|
          .prim (.get 9 8) [.var 58, .int .i64 (2)] <|
          .prim (.inb 9) [.var 58, .int .i64 (1)] <|
          .prim (.get 9 0) [.var 58, .int .i64 (1)] <|
          .prim (.get 9 1) [.var 58, .int .i64 (1)] <|
          .prim (.get 9 2) [.var 58, .int .i64 (1)] <|
          .prim (.get 9 3) [.var 58, .int .i64 (1)] <|
          .prim (.get 9 4) [.var 58, .int .i64 (1)] <|
          .prim (.get 9 5) [.var 58, .int .i64 (1)] <|
          .prim (.get 9 6) [.var 58, .int .i64 (1)] <|
          .prim (.get 9 7) [.var 58, .int .i64 (1)] <|
          .prim (.get 9 8) [.var 58, .int .i64 (1)] <|
          .call F.vec_Dot [.agg [.var 265, .var 266, .var 267, .var 268, .var 269, .var 270, .var 271, .var 272, .var 273], .agg [.var 275, .var 276, .var 277, .var 278, .var 279, .var 280, .var 281, .var 282, .var 283]] [.agg 3] <|
          .call F.penumbraref03_Is [.agg [.var 284, .var 285, .var 286], .agg [.var 261, .var 262, .var 263]] [.one] <|
          .prim .not [.var 287] <|
          .ite (.var 288) (
           .ret [.one (.bol false)]) (
           .call F.penumbraref03_Zero [] [.agg 3] <|
           .call F.penumbraref03_One [] [.agg 3] <|
           .prim (.inb 9) [.var 58, .int .i64 (2)] <|
           .prim (.get 9 0) [.var 58, .int .i64 (2)] <|
           .prim (.get 9 1) [.var 58, .int .i64 (2)] <|
           .prim (.get 9 2) [.var 58, .int .i64 (2)] <|
           .prim (.get 9 3) [.var 58, .int .i64 (2)] <|
           .prim (.get 9 4) [.var 58, .int .i64 (2)] <|
           .prim (.get 9 5) [.var 58, .int .i64 (2)] <|
           .prim (.get 9 6) [.var 58, .int .i64 (2)] <|
           .prim (.get 9 7) [.var 58, .int .i64 (2)] <|
           .prim (.get 9 8) [.var 58, .int .i64 (2)] <|
           .prim (.inb 9) [.var 58, .int .i64 (2)] <|
           .prim (.get 9 0) [.var 58, .int .i64 (2)] <|
           .prim (.get 9 1) [.var 58, .int .i64 (2)] <|
           .prim (.get 9 2) [.var 58, .int .i64 (2)] <|
           .prim (.get 9 3) [.var 58, .int .i64 (2)] <|
           .prim (.get 9 4) [.var 58, .int .i64 (2)] <|
           .prim (.get 9 5) [.var 58, .int .i64 (2)] <|
           .prim (.get 9 6) [.var 58, .int .i64 (2)] <|
           .prim (.get 9 7) [.var 58, .int .i64 (2)] <|
           .prim (.get 9 8) [.var 58, .int .i64 (2)] <|
           .call F.vec_Dot [.agg [.var 296, .var 297, .var 298, .var 299, .var 300, .var 301, .var 302, .var 303, .var 304], .agg [.var 306, .var 307, .var 308, .var 309, .var 310, .var 311, .var 312, .var 313, .var 314]] [.agg 3] <|
           .call F.penumbraref03_Is [.agg [.var 315, .var 316, .var 317], .agg [.var 292, .var 293, .var 294]] [.one] <|
           .prim .not [.var 318] <|
           .ite (.var 319) (
            .ret [.one (.bol false)]) (
            .call F.vec_Read [.agg [.var 0, .var 1, .var 2, .var 3, .var 4, .var 5, .var 6, .var 7, .var 8]] [.agg 9] <|
            .call F.penumbraref05_Is [.agg [.var 45, .var 46, .var 47, .var 48, .var 49, .var 50, .var 51, .var 52, .var 53], .agg [.var 320, .var 321, .var 322, .var 323, .var 324, .var 325, .var 326, .var 327, .var 328]] [.one] <|
            .ite (.var 329) (
             .call F.frame_In [.agg [.var 27, .var 28, .var 29, .var 30, .var 31, .var 32, .var 33, .var 34, .var 35, .var 36, .var 37, .var 38, .var 39, .var 40, .var 41, .var 42, .var 43, .var 44, .var 45, .var 46, .var 47, .var 48, .var 49, .var 50, .var 51, .var 52, .var 53], .agg [.var 9, .var 10, .var 11, .var 12, .var 13, .var 14, .var 15, .var 16, .var 17]] [.agg 9] <|
             .call F.frame_Out [.agg [.var 27, .var 28, .var 29, .var 30, .var 31, .var 32, .var 33, .var 34, .var 35, .var 36, .var 37, .var 38, .var 39, .var 40, .var 41, .var 42, .var 43, .var 44, .var 45, .var 46, .var 47, .var 48, .var 49, .var 50, .var 51, .var 52, .var 53], .agg [.var 330, .var 331, .var 332, .var 333, .var 334, .var 335, .var 336, .var 337, .var 338]] [.agg 9] <|
             .call F.vec_Read [.agg [.var 9, .var 10, .var 11, .var 12, .var 13, .var 14, .var 15, .var 16, .var 17]] [.agg 9] <|
             .call F.penumbraref05_Is [.agg [.var 339, .var 340, .var 341, .var 342, .var 343, .var 344, .var 345, .var 346, .var 347], .agg [.var 348, .var 349, .var 350, .var 351, .var 352, .var 353, .var 354, .var 355, .var 356]] [.one] <|
             .ite (.var 357) (
              .call F.frame_Out [.agg [.var 27, .var 28, .var 29, .var 30, .var 31, .var 32, .var 33, .var 34, .var 35, .var 36, .var 37, .var 38, .var 39, .var 40, .var 41, .var 42, .var 43, .var 44, .var 45, .var 46, .var 47, .var 48, .var 49, .var 50, .var 51, .var 52, .var 53], .agg [.var 9, .var 10, .var 11, .var 12, .var 13, .var 14, .var 15, .var 16, .var 17]] [.agg 9] <|
              .call F.frame_In [.agg [.var 27, .var 28, .var 29, .var 30, .var 31, .var 32, .var 33, .var 34, .var 35, .var 36, .var 37, .var 38, .var 39, .var 40, .var 41, .var 42, .var 43, .var 44, .var 45, .var 46, .var 47, .var 48, .var 49, .var 50, .var 51, .var 52, .var 53], .agg [.var 358, .var 359, .var 360, .var 361, .var 362, .var 363, .var 364, .var 365, .var 366]] [.agg 9] <|
              .call F.vec_Read [.agg [.var 9, .var 10, .var 11, .var 12, .var 13, .var 14, .var 15, .var 16, .var 17]] [.agg 9] <|
              .call F.penumbraref05_Is [.agg [.var 367, .var 368, .var 369, .var 370, .var 371, .var 372, .var 373, .var 374, .var 375], .agg [.var 376, .var 377, .var 378, .var 379, .var 380, .var 381, .var 382, .var 383, .var 384]] [.one] <|
              .ite (.var 385) (
               .call F.frame_In [.agg [.var 27, .var 28, .var 29, .var 30, .var 31, .var 32, .var 33, .var 34, .var 35, .var 36, .var 37, .var 38, .var 39, .var 40, .var 41, .var 42, .var 43, .var 44, .var 45, .var 46, .var 47, .var 48, .var 49, .var 50, .var 51, .var 52, .var 53], .agg [.var 9, .var 10, .var 11, .var 12, .var 13, .var 14, .var 15, .var 16, .var 17]] [.agg 9] <|
               .call F.frame_In [.agg [.var 27, .var 28, .var 29, .var 30, .var 31, .var 32, .var 33, .var 34, .var 35, .var 36, .var 37, .var 38, .var 39, .var 40, .var 41, .var 42, .var 43, .var 44, .var 45, .var 46, .var 47, .var 48, .var 49, .var 50, .var 51, .var 52, .var 53], .agg [.var 18, .var 19, .var 20, .var 21, .var 22, .var 23, .var 24, .var 25, .var 26]] [.agg 9] <|
               .call F.vec_Dot [.agg [.var 386, .var 387, .var 388, .var 389, .var 390, .var 391, .var 392, .var 393, .var 394], .agg [.var 395, .var 396, .var 397, .var 398, .var 399, .var 400, .var 401, .var 402, .var 403]] [.agg 3] <|
               .call F.vec_Dot [.agg [.var 9, .var 10, .var 11, .var 12, .var 13, .var 14, .var 15, .var 16, .var 17], .agg [.var 18, .var 19, .var 20, .var 21, .var 22, .var 23, .var 24, .var 25, .var 26]] [.agg 3] <|
               .call F.penumbraref03_Is [.agg [.var 404, .var 405, .var 406], .agg [.var 407, .var 408, .var 409]] [.one] <|
               .ret [.one (.var 410)]) (
               .ret [.one (.bol false)])) (
              .ret [.one (.bol false)])) (
             .ret [.one (.bol false)]))))))))))))

theorem tree_vec_Dot : symFunc Go.Proofs.Try.prog H0 400 F.vec_Dot [.agg 9, .agg 9] = some ir_vec_Dot := by kernel_rfl
theorem tree_vec_Sub : symFunc Go.Proofs.Try.prog H0 400 F.vec_Sub [.agg 9, .agg 9] = some ir_vec_Sub := by kernel_rfl
theorem tree_vec_Scale : symFunc Go.Proofs.Try.prog H0 400 F.vec_Scale [.agg 3, .agg 9] = some ir_vec_Scale := by kernel_rfl
theorem tree_vec_Read : symFunc Go.Proofs.Try.prog H0 400 F.vec_Read [.agg 9] = some ir_vec_Read := by kernel_rfl
theorem tree_frame_Of : symFunc Go.Proofs.Try.prog H0 400 F.frame_Of [.agg 9] = some ir_frame_Of := by kernel_rfl
theorem tree_frame_In : symFunc Go.Proofs.Try.prog H0 400 F.frame_In [.agg 27, .agg 9] = some ir_frame_In := by kernel_rfl
theorem tree_frame_Slopes : symFunc Go.Proofs.Try.prog H0 400 F.frame_Slopes [.agg 27, .agg 9] = some ir_frame_Slopes := by kernel_rfl
theorem tree_penumbraref05_Scale : symFunc Go.Proofs.Try.prog H0 400 F.penumbraref05_Scale [.agg 3, .agg 9] = some ir_penumbraref05_Scale := by kernel_rfl
theorem tree_penumbraref05_Is : symFunc Go.Proofs.Try.prog H0 400 F.penumbraref05_Is [.agg 9, .agg 9] = some ir_penumbraref05_Is := by kernel_rfl
theorem tree_penumbralaw06_fixed : symFunc Go.Proofs.Try.prog H0 400 F.penumbralaw06_fixed [] = some ir_penumbralaw06_fixed := by kernel_rfl
theorem tree_frame_Out : symFunc Go.Proofs.Try.prog H0 400 F.frame_Out [.agg 27, .agg 9] = some ir_frame_Out := by kernel_rfl
theorem tree_penumbralaw06_FrameRight : symFunc Go.Proofs.Try.prog H0 400 F.penumbralaw06_FrameRight [.agg 9, .agg 9, .agg 9] = some ir_penumbralaw06_FrameRight := by kernel_rfl
end Go.Px
namespace Go.Px.Na
open Go.RowKit
open Go.Proofs.Try (prog)

theorem n_vec_Dot_0  {r0 r1 r2 r3 r4 r5 : RR} {x0 x1 x2 x3 x4 x5 : Rat} {k0 : Rat} (h0 : Num 9000000000 r0 x0) (h1 : Num 9000000000 r1 x1) (h2 : Num 9000000000 r2 x2) (h3 : Num 9000000000 r3 x3) (h4 : Num 9000000000 r4 x4) (h5 : Num 9000000000 r5 x5) (e0 : k0 = (((x0 * x3) + (x1 * x4)) + (x2 * x5)))  : PureCalls prog F.vec_Dot [.agg ([.bool r0.neg, nl r0.num, nl r0.den, .bool r1.neg, nl r1.num, nl r1.den, .bool r2.neg, nl r2.num, nl r2.den]), .agg ([.bool r3.neg, nl r3.num, nl r3.den, .bool r4.neg, nl r4.num, nl r4.den, .bool r5.neg, nl r5.num, nl r5.den])] [.agg ([.bool (decide ((k0).num < 0)), nn (k0).num.natAbs, nn (k0).den])] := by
  subst e0
  refine symFunc_sound hmix tree_vec_Dot (by kernel_rfl) rfl ?_
  unfold ir_vec_Dot
  simp only [fa_agg, fa_one, fa_nil, List.cons_append, List.nil_append, List.append_nil]
  refine primS (rl [r0, r3]) rfl ?_
  refine call_step (n_rat_Product_2 (k0 := (x0 * x3)) (h0.mono (by decide)) (h3.mono (by decide)) rfl) rfl ?_
  simp only [fa_agg, fa_one, fa_nil, List.cons_append, List.nil_append, List.append_nil]
  refine primS (rl [r1, r4]) rfl ?_
  refine call_step (n_rat_Product_2 (k0 := (x1 * x4)) (h1.mono (by decide)) (h4.mono (by decide)) rfl) rfl ?_
  simp only [fa_agg, fa_one, fa_nil, List.cons_append, List.nil_append, List.append_nil]
  refine primS (rl [r2, r5]) rfl ?_
  refine call_step (n_rat_Product_2 (k0 := (x2 * x5)) (h2.mono (by decide)) (h5.mono (by decide)) rfl) rfl ?_
  simp only [fa_agg, fa_one, fa_nil, List.cons_append, List.nil_append, List.append_nil]
  refine primS (rl [(cr (x0 * x3)), (cr (x1 * x4)), (cr (x2 * x5))]) rfl ?_
  have m12 : Num 18000000000 (cr (x0 * x3)) (x0 * x3) := Num.of (Sm.mul h0.sm h3.sm)
  have m13 : Num 18000000000 (cr (x1 * x4)) (x1 * x4) := Num.of (Sm.mul h1.sm h4.sm)
  have m14 : Num 18000000000 (cr (x2 * x5)) (x2 * x5) := Num.of (Sm.mul h2.sm h5.sm)
  refine call_step (n_rat_Sum_3 (k0 := (((x0 * x3) + (x1 * x4)) + (x2 * x5))) (m12.mono (by decide)) (m13.mono (by decide)) (m14.mono (by decide)) rfl) rfl ?_
  simp only [fa_agg, fa_one, fa_nil, List.cons_append, List.nil_append, List.append_nil]
  exact ret_step rfl

theorem n_vec_Sub_0  {r0 r1 r2 r3 r4 r5 : RR} {x0 x1 x2 x3 x4 x5 : Rat} {k0 k1 k2 : Rat} (h0 : Num 9000000000 r0 x0) (h1 : Num 9000000000 r1 x1) (h2 : Num 9000000000 r2 x2) (h3 : Num 9000000000 r3 x3) (h4 : Num 9000000000 r4 x4) (h5 : Num 9000000000 r5 x5) (e0 : k0 = (x0 - x3)) (e1 : k1 = (x1 - x4)) (e2 : k2 = (x2 - x5))  : PureCalls prog F.vec_Sub [.agg ([.bool r0.neg, nl r0.num, nl r0.den, .bool r1.neg, nl r1.num, nl r1.den, .bool r2.neg, nl r2.num, nl r2.den]), .agg ([.bool r3.neg, nl r3.num, nl r3.den, .bool r4.neg, nl r4.num, nl r4.den, .bool r5.neg, nl r5.num, nl r5.den])] [.agg ([.bool (decide ((k0).num < 0)), nn (k0).num.natAbs, nn (k0).den, .bool (decide ((k1).num < 0)), nn (k1).num.natAbs, nn (k1).den, .bool (decide ((k2).num < 0)), nn (k2).num.natAbs, nn (k2).den])] := by
  subst e0 e1 e2
  refine symFunc_sound hmix tree_vec_Sub (by kernel_rfl) rfl ?_
  unfold ir_vec_Sub
  simp only [fa_agg, fa_one, fa_nil, List.cons_append, List.nil_append, List.append_nil]
  refine call_step (n_rat_Sub (k0 := (x0 - x3)) (h0.mono (by decide)) (h3.mono (by decide)) rfl) rfl ?_
  simp only [fa_agg, fa_one, fa_nil, List.cons_append, List.nil_append, List.append_nil]
  refine call_step (n_rat_Sub (k0 := (x1 - x4)) (h1.mono (by decide)) (h4.mono (by decide)) rfl) rfl ?_
  simp only [fa_agg, fa_one, fa_nil, List.cons_append, List.nil_append, List.append_nil]
  refine call_step (n_rat_Sub (k0 := (x2 - x5)) (h2.mono (by decide)) (h5.mono (by decide)) rfl) rfl ?_
  simp only [fa_agg, fa_one, fa_nil, List.cons_append, List.nil_append, List.append_nil]
  exact ret_step rfl

theorem n_vec_Scale_0  {r0 r1 r2 r3 : RR} {x0 x1 x2 x3 : Rat} {k0 k1 k2 : Rat} (h0 : Num 9000000000 r0 x0) (h1 : Num 9000000000 r1 x1) (h2 : Num 9000000000 r2 x2) (h3 : Num 9000000000 r3 x3) (e0 : k0 = (x0 * x1)) (e1 : k1 = (x0 * x2)) (e2 : k2 = (x0 * x3))  : PureCalls prog F.vec_Scale [.agg ([.bool r0.neg, nl r0.num, nl r0.den]), .agg ([.bool r1.neg, nl r1.num, nl r1.den, .bool r2.neg, nl r2.num, nl r2.den, .bool r3.neg, nl r3.num, nl r3.den])] [.agg ([.bool (decide ((k0).num < 0)), nn (k0).num.natAbs, nn (k0).den, .bool (decide ((k1).num < 0)), nn (k1).num.natAbs, nn (k1).den, .bool (decide ((k2).num < 0)), nn (k2).num.natAbs, nn (k2).den])] := by
  subst e0 e1 e2
  refine symFunc_sound hmix tree_vec_Scale (by kernel_rfl) rfl ?_
  unfold ir_vec_Scale
  simp only [fa_agg, fa_one, fa_nil, List.cons_append, List.nil_append, List.append_nil]
  refine primS (rl [r0, r1]) rfl ?_
  refine call_step (n_rat_Product_2 (k0 := (x0 * x1)) (h0.mono (by decide)) (h1.mono (by decide)) rfl) rfl ?_
  simp only [fa_agg, fa_one, fa_nil, List.cons_append, List.nil_append, List.append_nil]
  refine primS (rl [r0, r2]) rfl ?_
  refine call_step (n_rat_Product_2 (k0 := (x0 * x2)) (h0.mono (by decide)) (h2.mono (by decide)) rfl) rfl ?_
  simp only [fa_agg, fa_one, fa_nil, List.cons_append, List.nil_append, List.append_nil]
  refine primS (rl [r0, r3]) rfl ?_
  refine call_step (n_rat_Product_2 (k0 := (x0 * x3)) (h0.mono (by decide)) (h3.mono (by decide)) rfl) rfl ?_
  simp only [fa_agg, fa_one, fa_nil, List.cons_append, List.nil_append, List.append_nil]
  exact ret_step rfl

theorem n_vec_Read_0  {r0 r1 r2 : RR} {x0 x1 x2 : Rat} (h0 : Num 9000000000 r0 x0) (h1 : Num 9000000000 r1 x1) (h2 : Num 9000000000 r2 x2)   : PureCalls prog F.vec_Read [.agg ([.bool r0.neg, nl r0.num, nl r0.den, .bool r1.neg, nl r1.num, nl r1.den, .bool r2.neg, nl r2.num, nl r2.den])] [.agg ([.bool (decide ((x0).num < 0)), nn (x0).num.natAbs, nn (x0).den, .bool (decide ((x1).num < 0)), nn (x1).num.natAbs, nn (x1).den, .bool (decide ((x2).num < 0)), nn (x2).num.natAbs, nn (x2).den])] := by
  refine symFunc_sound hmix tree_vec_Read (by kernel_rfl) rfl ?_
  unfold ir_vec_Read
  simp only [fa_agg, fa_one, fa_nil, List.cons_append, List.nil_append, List.append_nil]
  refine call_step (n_rat_Read (h0.mono (by decide))) rfl ?_
  simp only [fa_agg, fa_one, fa_nil, List.cons_append, List.nil_append, List.append_nil]
  refine call_step (n_rat_Read (h1.mono (by decide))) rfl ?_
  simp only [fa_agg, fa_one, fa_nil, List.cons_append, List.nil_append, List.append_nil]
  refine call_step (n_rat_Read (h2.mono (by decide))) rfl ?_
  simp only [fa_agg, fa_one, fa_nil, List.cons_append, List.nil_append, List.append_nil]
  exact ret_step rfl

theorem n_frame_Of_0 {Zm2 Z0 Z1 : Rat} (Ym2 : Zm2 = (-2 : Rat)) (Y0 : Z0 = (0 : Rat)) (Y1 : Z1 = (1 : Rat)) {r0 r1 r2 : RR} {x0 x1 x2 : Rat} {k0 k1 : Rat} (h0 : Num 900000000 r0 x0) (h1 : Num 900000000 r1 x1) (h2 : Num 900000000 r2 x2) (e0 : k0 = (((x0 * x0) + (x1 * x1)) + (x2 * x2))) (e1 : k1 = ((((Z0 - x0) * (Z0 - x0)) + ((Z0 - x1) * (Z0 - x1))) + ((Z1 - x2) * (Z1 - x2)))) (c0 : k0 = Z1) (c1 : k1 = Z0) : PureCalls prog F.frame_Of [.agg ([.bool r0.neg, nl r0.num, nl r0.den, .bool r1.neg, nl r1.num, nl r1.den, .bool r2.neg, nl r2.num, nl r2.den])] [.agg ([.bool (decide ((Z1).num < 0)), nn (Z1).num.natAbs, nn (Z1).den, .bool (decide ((Z0).num < 0)), nn (Z0).num.natAbs, nn (Z0).den, .bool (decide ((Z0).num < 0)), nn (Z0).num.natAbs, nn (Z0).den, .bool (decide ((Z0).num < 0)), nn (Z0).num.natAbs, nn (Z0).den, .bool (decide ((Z1).num < 0)), nn (Z1).num.natAbs, nn (Z1).den, .bool (decide ((Z0).num < 0)), nn (Z0).num.natAbs, nn (Z0).den, .bool (decide ((Z0).num < 0)), nn (Z0).num.natAbs, nn (Z0).den, .bool (decide ((Z0).num < 0)), nn (Z0).num.natAbs, nn (Z0).den, .bool (decide ((Z1).num < 0)), nn (Z1).num.natAbs, nn (Z1).den]), .one (.bool true)] := by
  subst e0 e1
  refine symFunc_sound hmix tree_frame_Of (by kernel_rfl) rfl ?_
  unfold ir_frame_Of
  simp only [fa_agg, fa_one, fa_nil, List.cons_append, List.nil_append, List.append_nil]
  refine call_step (n_vec_Of (1) (0) (0) (by decide) (by decide) (by decide) (by decide) (by decide) (by decide) (Y1.trans (by decide +kernel)) (Y0.trans (by decide +kernel)) (Y0.trans (by decide +kernel))) rfl ?_
  simp only [fa_agg, fa_one, fa_nil, List.cons_append, List.nil_append, List.append_nil]
  refine call_step (n_vec_Of (0) (1) (0) (by decide) (by decide) (by decide) (by decide) (by decide) (by decide) (Y0.trans (by decide +kernel)) (Y1.trans (by decide +kernel)) (Y0.trans (by decide +kernel))) rfl ?_
  simp only [fa_agg, fa_one, fa_nil, List.cons_append, List.nil_append, List.append_nil]
  refine call_step (n_vec_Of (0) (0) (1) (by decide) (by decide) (by decide) (by decide) (by decide) (by decide) (Y0.trans (by decide +kernel)) (Y0.trans (by decide +kernel)) (Y1.trans (by decide +kernel))) rfl ?_
  simp only [fa_agg, fa_one, fa_nil, List.cons_append, List.nil_append, List.append_nil]
  refine call_step (n_vec_Of (0) (0) (0) (by decide) (by decide) (by decide) (by decide) (by decide) (by decide) (Y0.trans (by decide +kernel)) (Y0.trans (by decide +kernel)) (Y0.trans (by decide +kernel))) rfl ?_
  simp only [fa_agg, fa_one, fa_nil, List.cons_append, List.nil_append, List.append_nil]
  refine call_step (n_vec_Dot_0 (k0 := (((x0 * x0) + (x1 * x1)) + (x2 * x2))) (h0.mono (by decide)) (h1.mono (by decide)) (h2.mono (by decide)) (h0.mono (by decide)) (h1.mono (by decide)) (h2.mono (by decide)) rfl) rfl ?_
  simp only [fa_agg, fa_one, fa_nil, List.cons_append, List.nil_append, List.append_nil]
  refine call_step (n_rat_Of (1) (1) (by decide) (by decide) (by decide) (by decide) (Y1.trans (by decide +kernel))) rfl ?_
  simp only [fa_agg, fa_one, fa_nil, List.cons_append, List.nil_append, List.append_nil]
  have m52 : Num 5400000002 (cr (((x0 * x0) + (x1 * x1)) + (x2 * x2))) (((x0 * x0) + (x1 * x1)) + (x2 * x2)) := Num.of (Sm.add (Sm.add (Sm.mul h0.sm h0.sm) (Sm.mul h1.sm h1.sm)) (Sm.mul h2.sm h2.sm))
  have m53 : Num 1 (cr Z1) Z1 := Num.c Y1 (by decide +kernel) (by decide +kernel)
  refine call_step (n_rat_Same_t (m52.mono (by decide)) (m53.mono (by decide)) c0) rfl ?_
  simp only [fa_agg, fa_one, fa_nil, List.cons_append, List.nil_append, List.append_nil]
  refine primS (.bool false) rfl ?_
  refine itF rfl ?_
  have m54 : Num 1 (cr Z0) Z0 := Num.c Y0 (by decide +kernel) (by decide +kernel)
  refine call_step (n_vec_Sub_0 (k0 := (Z0 - x0)) (k1 := (Z0 - x1)) (k2 := (Z1 - x2)) (m54.mono (by decide)) (m54.mono (by decide)) (m53.mono (by decide)) (h0.mono (by decide)) (h1.mono (by decide)) (h2.mono (by decide)) rfl rfl rfl) rfl ?_
  simp only [fa_agg, fa_one, fa_nil, List.cons_append, List.nil_append, List.append_nil]
  refine call_step (n_rat_Of (-2) (1) (by decide) (by decide) (by decide) (by decide) (Ym2.trans (by decide +kernel))) rfl ?_
  simp only [fa_agg, fa_one, fa_nil, List.cons_append, List.nil_append, List.append_nil]
  have m55 : Num 900000002 (cr (Z0 - x0)) (Z0 - x0) := Num.of (Sm.sub m54.sm h0.sm)
  have m56 : Num 900000002 (cr (Z0 - x1)) (Z0 - x1) := Num.of (Sm.sub m54.sm h1.sm)
  have m57 : Num 900000002 (cr (Z1 - x2)) (Z1 - x2) := Num.of (Sm.sub m53.sm h2.sm)
  refine call_step (n_vec_Dot_0 (k0 := ((((Z0 - x0) * (Z0 - x0)) + ((Z0 - x1) * (Z0 - x1))) + ((Z1 - x2) * (Z1 - x2)))) (m55.mono (by decide)) (m56.mono (by decide)) (m57.mono (by decide)) (m55.mono (by decide)) (m56.mono (by decide)) (m57.mono (by decide)) rfl) rfl ?_
  simp only [fa_agg, fa_one, fa_nil, List.cons_append, List.nil_append, List.append_nil]
  have m58 : Num 1 (cr Zm2) Zm2 := Num.c Ym2 (by decide +kernel) (by decide +kernel)
  have m59 : Num 5400000014 (cr ((((Z0 - x0) * (Z0 - x0)) + ((Z0 - x1) * (Z0 - x1))) + ((Z1 - x2) * (Z1 - x2)))) ((((Z0 - x0) * (Z0 - x0)) + ((Z0 - x1) * (Z0 - x1))) + ((Z1 - x2) * (Z1 - x2))) := Num.of (Sm.add (Sm.add (Sm.mul m55.sm m55.sm) (Sm.mul m56.sm m56.sm)) (Sm.mul m57.sm m57.sm))
  refine call_step (n_rat_Div_t Y0 (m58.mono (by decide)) (m59.mono (by decide)) c1) rfl ?_
  simp only [fa_agg, fa_one, fa_nil, List.cons_append, List.nil_append, List.append_nil]
  refine primS (.bool true) rfl ?_
  refine itT rfl ?_
  exact ret_step rfl

theorem n_frame_Of_1 {Zm2 Z0 Z1 : Rat} (Ym2 : Zm2 = (-2 : Rat)) (Y0 : Z0 = (0 : Rat)) (Y1 : Z1 = (1 : Rat)) {r0 r1 r2 : RR} {x0 x1 x2 : Rat} {k0 k1 k2 k3 k4 k5 k6 k7 k8 : Rat} (h0 : Num 900000000 r0 x0) (h1 : Num 900000000 r1 x1) (h2 : Num 900000000 r2 x2) (e0 : k0 = (((x0 * x0) + (x1 * x1)) + (x2 * x2))) (e1 : k1 = ((((Z0 - x0) * (Z0 - x0)) + ((Z0 - x1) * (Z0 - x1))) + ((Z1 - x2) * (Z1 - x2)))) (e2 : k2 = (Zm2 / k1)) (e3 : k3 = (Z1 + ((k2 * (Z0 - x0)) * (Z0 - x0)))) (e4 : k4 = (Z0 + ((k2 * (Z0 - x0)) * (Z0 - x1)))) (e5 : k5 = (Z0 + ((k2 * (Z0 - x0)) * (Z1 - x2)))) (e6 : k6 = (Z0 + ((k2 * (Z0 - x1)) * (Z0 - x0)))) (e7 : k7 = (Z1 + ((k2 * (Z0 - x1)) * (Z0 - x1)))) (e8 : k8 = (Z0 + ((k2 * (Z0 - x1)) * (Z1 - x2)))) (c0 : k0 = Z1) (c1 : ¬k1 = Z0) : PureCalls prog F.frame_Of [.agg ([.bool r0.neg, nl r0.num, nl r0.den, .bool r1.neg, nl r1.num, nl r1.den, .bool r2.neg, nl r2.num, nl r2.den])] [.agg ([.bool (decide ((k3).num < 0)), nn (k3).num.natAbs, nn (k3).den, .bool (decide ((k4).num < 0)), nn (k4).num.natAbs, nn (k4).den, .bool (decide ((k5).num < 0)), nn (k5).num.natAbs, nn (k5).den, .bool (decide ((k6).num < 0)), nn (k6).num.natAbs, nn (k6).den, .bool (decide ((k7).num < 0)), nn (k7).num.natAbs, nn (k7).den, .bool (decide ((k8).num < 0)), nn (k8).num.natAbs, nn (k8).den, .bool (decide ((x0).num < 0)), nn (x0).num.natAbs, nn (x0).den, .bool (decide ((x1).num < 0)), nn (x1).num.natAbs, nn (x1).den, .bool (decide ((x2).num < 0)), nn (x2).num.natAbs, nn (x2).den]), .one (.bool true)] := by
  subst e0 e1 e2 e3 e4 e5 e6 e7 e8
  refine symFunc_sound hmix tree_frame_Of (by kernel_rfl) rfl ?_
  unfold ir_frame_Of
  simp only [fa_agg, fa_one, fa_nil, List.cons_append, List.nil_append, List.append_nil]
  refine call_step (n_vec_Of (1) (0) (0) (by decide) (by decide) (by decide) (by decide) (by decide) (by decide) (Y1.trans (by decide +kernel)) (Y0.trans (by decide +kernel)) (Y0.trans (by decide +kernel))) rfl ?_
  simp only [fa_agg, fa_one, fa_nil, List.cons_append, List.nil_append, List.append_nil]
  refine call_step (n_vec_Of (0) (1) (0) (by decide) (by decide) (by decide) (by decide) (by decide) (by decide) (Y0.trans (by decide +kernel)) (Y1.trans (by decide +kernel)) (Y0.trans (by decide +kernel))) rfl ?_
  simp only [fa_agg, fa_one, fa_nil, List.cons_append, List.nil_append, List.append_nil]
  refine call_step (n_vec_Of (0) (0) (1) (by decide) (by decide) (by decide) (by decide) (by decide) (by decide) (Y0.trans (by decide +kernel)) (Y0.trans (by decide +kernel)) (Y1.trans (by decide +kernel))) rfl ?_
  simp only [fa_agg, fa_one, fa_nil, List.cons_append, List.nil_append, List.append_nil]
  refine call_step (n_vec_Of (0) (0) (0) (by decide) (by decide) (by decide) (by decide) (by decide) (by decide) (Y0.trans (by decide +kernel)) (Y0.trans (by decide +kernel)) (Y0.trans (by decide +kernel))) rfl ?_
  simp only [fa_agg, fa_one, fa_nil, List.cons_append, List.nil_append, List.append_nil]
  refine call_step (n_vec_Dot_0 (k0 := (((x0 * x0) + (x1 * x1)) + (x2 * x2))) (h0.mono (by decide)) (h1.mono (by decide)) (h2.mono (by decide)) (h0.mono (by decide)) (h1.mono (by decide)) (h2.mono (by decide)) rfl) rfl ?_
  simp only [fa_agg, fa_one, fa_nil, List.cons_append, List.nil_append, List.append_nil]
  refine call_step (n_rat_Of (1) (1) (by decide) (by decide) (by decide) (by decide) (Y1.trans (by decide +kernel))) rfl ?_
  simp only [fa_agg, fa_one, fa_nil, List.cons_append, List.nil_append, List.append_nil]
  have m60 : Num 5400000002 (cr (((x0 * x0) + (x1 * x1)) + (x2 * x2))) (((x0 * x0) + (x1 * x1)) + (x2 * x2)) := Num.of (Sm.add (Sm.add (Sm.mul h0.sm h0.sm) (Sm.mul h1.sm h1.sm)) (Sm.mul h2.sm h2.sm))
  have m61 : Num 1 (cr Z1) Z1 := Num.c Y1 (by decide +kernel) (by decide +kernel)
  refine call_step (n_rat_Same_t (m60.mono (by decide)) (m61.mono (by decide)) c0) rfl ?_
  simp only [fa_agg, fa_one, fa_nil, List.cons_append, List.nil_append, List.append_nil]
  refine primS (.bool false) rfl ?_
  refine itF rfl ?_
  have m62 : Num 1 (cr Z0) Z0 := Num.c Y0 (by decide +kernel) (by decide +kernel)
  refine call_step (n_vec_Sub_0 (k0 := (Z0 - x0)) (k1 := (Z0 - x1)) (k2 := (Z1 - x2)) (m62.mono (by decide)) (m62.mono (by decide)) (m61.mono (by decide)) (h0.mono (by decide)) (h1.mono (by decide)) (h2.mono (by decide)) rfl rfl rfl) rfl ?_
  simp only [fa_agg, fa_one, fa_nil, List.cons_append, List.nil_append, List.append_nil]
  refine call_step (n_rat_Of (-2) (1) (by decide) (by decide) (by decide) (by decide) (Ym2.trans (by decide +kernel))) rfl ?_
  simp only [fa_agg, fa_one, fa_nil, List.cons_append, List.nil_append, List.append_nil]
  have m63 : Num 900000002 (cr (Z0 - x0)) (Z0 - x0) := Num.of (Sm.sub m62.sm h0.sm)
  have m64 : Num 900000002 (cr (Z0 - x1)) (Z0 - x1) := Num.of (Sm.sub m62.sm h1.sm)
  have m65 : Num 900000002 (cr (Z1 - x2)) (Z1 - x2) := Num.of (Sm.sub m61.sm h2.sm)
  refine call_step (n_vec_Dot_0 (k0 := ((((Z0 - x0) * (Z0 - x0)) + ((Z0 - x1) * (Z0 - x1))) + ((Z1 - x2) * (Z1 - x2)))) (m63.mono (by decide)) (m64.mono (by decide)) (m65.mono (by decide)) (m63.mono (by decide)) (m64.mono (by decide)) (m65.mono (by decide)) rfl) rfl ?_
  simp only [fa_agg, fa_one, fa_nil, List.cons_append, List.nil_append, List.append_nil]
  have m66 : Num 1 (cr Zm2) Zm2 := Num.c Ym2 (by decide +kernel) (by decide +kernel)
  have m67 : Num 5400000014 (cr ((((Z0 - x0) * (Z0 - x0)) + ((Z0 - x1) * (Z0 - x1))) + ((Z1 - x2) * (Z1 - x2)))) ((((Z0 - x0) * (Z0 - x0)) + ((Z0 - x1) * (Z0 - x1))) + ((Z1 - x2) * (Z1 - x2))) := Num.of (Sm.add (Sm.add (Sm.mul m63.sm m63.sm) (Sm.mul m64.sm m64.sm)) (Sm.mul m65.sm m65.sm))
  refine call_step (n_rat_Div_f (k0 := (Zm2 / ((((Z0 - x0) * (Z0 - x0)) + ((Z0 - x1) * (Z0 - x1))) + ((Z1 - x2) * (Z1 - x2))))) Y0 (m66.mono (by decide)) (m67.mono (by decide)) rfl c1) rfl ?_
  simp only [fa_agg, fa_one, fa_nil, List.cons_append, List.nil_append, List.append_nil]
  refine primS (.bool false) rfl ?_
  refine itF rfl ?_
  refine primS (rl [(cr (Zm2 / ((((Z0 - x0) * (Z0 - x0)) + ((Z0 - x1) * (Z0 - x1))) + ((Z1 - x2) * (Z1 - x2))))), (cr (Z0 - x0))]) rfl ?_
  have m69 : Num 5400000015 (cr (Zm2 / ((((Z0 - x0) * (Z0 - x0)) + ((Z0 - x1) * (Z0 - x1))) + ((Z1 - x2) * (Z1 - x2))))) (Zm2 / ((((Z0 - x0) * (Z0 - x0)) + ((Z0 - x1) * (Z0 - x1))) + ((Z1 - x2) * (Z1 - x2)))) := Num.of (Sm.div m66.sm m67.sm)
  refine call_step (n_rat_Product_2 (k0 := ((Zm2 / ((((Z0 - x0) * (Z0 - x0)) + ((Z0 - x1) * (Z0 - x1))) + ((Z1 - x2) * (Z1 - x2)))) * (Z0 - x0))) (m69.mono (by decide)) (m63.mono (by decide)) rfl) rfl ?_
  simp only [fa_agg, fa_one, fa_nil, List.cons_append, List.nil_append, List.append_nil]
  have m70 : Num 6300000017 (cr ((Zm2 / ((((Z0 - x0) * (Z0 - x0)) + ((Z0 - x1) * (Z0 - x1))) + ((Z1 - x2) * (Z1 - x2)))) * (Z0 - x0))) ((Zm2 / ((((Z0 - x0) * (Z0 - x0)) + ((Z0 - x1) * (Z0 - x1))) + ((Z1 - x2) * (Z1 - x2)))) * (Z0 - x0)) := Num.of (Sm.mul m69.sm m63.sm)
  refine call_step (n_vec_Scale_0 (k0 := (((Zm2 / ((((Z0 - x0) * (Z0 - x0)) + ((Z0 - x1) * (Z0 - x1))) + ((Z1 - x2) * (Z1 - x2)))) * (Z0 - x0)) * (Z0 - x0))) (k1 := (((Zm2 / ((((Z0 - x0) * (Z0 - x0)) + ((Z0 - x1) * (Z0 - x1))) + ((Z1 - x2) * (Z1 - x2)))) * (Z0 - x0)) * (Z0 - x1))) (k2 := (((Zm2 / ((((Z0 - x0) * (Z0 - x0)) + ((Z0 - x1) * (Z0 - x1))) + ((Z1 - x2) * (Z1 - x2)))) * (Z0 - x0)) * (Z1 - x2))) (m70.mono (by decide)) (m63.mono (by decide)) (m64.mono (by decide)) (m65.mono (by decide)) rfl rfl rfl) rfl ?_
  simp only [fa_agg, fa_one, fa_nil, List.cons_append, List.nil_append, List.append_nil]
  refine primS (rl3 [((cr Z1), (cr Z0), (cr Z0)), ((cr (((Zm2 / ((((Z0 - x0) * (Z0 - x0)) + ((Z0 - x1) * (Z0 - x1))) + ((Z1 - x2) * (Z1 - x2)))) * (Z0 - x0)) * (Z0 - x0))), (cr (((Zm2 / ((((Z0 - x0) * (Z0 - x0)) + ((Z0 - x1) * (Z0 - x1))) + ((Z1 - x2) * (Z1 - x2)))) * (Z0 - x0)) * (Z0 - x1))), (cr (((Zm2 / ((((Z0 - x0) * (Z0 - x0)) + ((Z0 - x1) * (Z0 - x1))) + ((Z1 - x2) * (Z1 - x2)))) * (Z0 - x0)) * (Z1 - x2))))]) rfl ?_
  have m72 : Num 7200000019 (cr (((Zm2 / ((((Z0 - x0) * (Z0 - x0)) + ((Z0 - x1) * (Z0 - x1))) + ((Z1 - x2) * (Z1 - x2)))) * (Z0 - x0)) * (Z0 - x0))) (((Zm2 / ((((Z0 - x0) * (Z0 - x0)) + ((Z0 - x1) * (Z0 - x1))) + ((Z1 - x2) * (Z1 - x2)))) * (Z0 - x0)) * (Z0 - x0)) := Num.of (Sm.mul m70.sm m63.sm)
  have m73 : Num 7200000019 (cr (((Zm2 / ((((Z0 - x0) * (Z0 - x0)) + ((Z0 - x1) * (Z0 - x1))) + ((Z1 - x2) * (Z1 - x2)))) * (Z0 - x0)) * (Z0 - x1))) (((Zm2 / ((((Z0 - x0) * (Z0 - x0)) + ((Z0 - x1) * (Z0 - x1))) + ((Z1 - x2) * (Z1 - x2)))) * (Z0 - x0)) * (Z0 - x1)) := Num.of (Sm.mul m70.sm m64.sm)
  have m74 : Num 7200000019 (cr (((Zm2 / ((((Z0 - x0) * (Z0 - x0)) + ((Z0 - x1) * (Z0 - x1))) + ((Z1 - x2) * (Z1 - x2)))) * (Z0 - x0)) * (Z1 - x2))) (((Zm2 / ((((Z0 - x0) * (Z0 - x0)) + ((Z0 - x1) * (Z0 - x1))) + ((Z1 - x2) * (Z1 - x2)))) * (Z0 - x0)) * (Z1 - x2)) := Num.of (Sm.mul m70.sm m65.sm)
  refine call_step (n_vec_Sum_2 (o0 := (Z1 + (((Zm2 / ((((Z0 - x0) * (Z0 - x0)) + ((Z0 - x1) * (Z0 - x1))) + ((Z1 - x2) * (Z1 - x2)))) * (Z0 - x0)) * (Z0 - x0)))) (o1 := (Z0 + (((Zm2 / ((((Z0 - x0) * (Z0 - x0)) + ((Z0 - x1) * (Z0 - x1))) + ((Z1 - x2) * (Z1 - x2)))) * (Z0 - x0)) * (Z0 - x1)))) (o2 := (Z0 + (((Zm2 / ((((Z0 - x0) * (Z0 - x0)) + ((Z0 - x1) * (Z0 - x1))) + ((Z1 - x2) * (Z1 - x2)))) * (Z0 - x0)) * (Z1 - x2)))) (m61.mono (by decide)) (m62.mono (by decide)) (m62.mono (by decide)) (m72.mono (by decide)) (m73.mono (by decide)) (m74.mono (by decide)) rfl rfl rfl) rfl ?_
  simp only [fa_agg, fa_one, fa_nil, List.cons_append, List.nil_append, List.append_nil]
  refine primS (rl [(cr (Zm2 / ((((Z0 - x0) * (Z0 - x0)) + ((Z0 - x1) * (Z0 - x1))) + ((Z1 - x2) * (Z1 - x2))))), (cr (Z0 - x1))]) rfl ?_
  refine call_step (n_rat_Product_2 (k0 := ((Zm2 / ((((Z0 - x0) * (Z0 - x0)) + ((Z0 - x1) * (Z0 - x1))) + ((Z1 - x2) * (Z1 - x2)))) * (Z0 - x1))) (m69.mono (by decide)) (m64.mono (by decide)) rfl) rfl ?_
  simp only [fa_agg, fa_one, fa_nil, List.cons_append, List.nil_append, List.append_nil]
  have m76 : Num 6300000017 (cr ((Zm2 / ((((Z0 - x0) * (Z0 - x0)) + ((Z0 - x1) * (Z0 - x1))) + ((Z1 - x2) * (Z1 - x2)))) * (Z0 - x1))) ((Zm2 / ((((Z0 - x0) * (Z0 - x0)) + ((Z0 - x1) * (Z0 - x1))) + ((Z1 - x2) * (Z1 - x2)))) * (Z0 - x1)) := Num.of (Sm.mul m69.sm m64.sm)
  refine call_step (n_vec_Scale_0 (k0 := (((Zm2 / ((((Z0 - x0) * (Z0 - x0)) + ((Z0 - x1) * (Z0 - x1))) + ((Z1 - x2) * (Z1 - x2)))) * (Z0 - x1)) * (Z0 - x0))) (k1 := (((Zm2 / ((((Z0 - x0) * (Z0 - x0)) + ((Z0 - x1) * (Z0 - x1))) + ((Z1 - x2) * (Z1 - x2)))) * (Z0 - x1)) * (Z0 - x1))) (k2 := (((Zm2 / ((((Z0 - x0) * (Z0 - x0)) + ((Z0 - x1) * (Z0 - x1))) + ((Z1 - x2) * (Z1 - x2)))) * (Z0 - x1)) * (Z1 - x2))) (m76.mono (by decide)) (m63.mono (by decide)) (m64.mono (by decide)) (m65.mono (by decide)) rfl rfl rfl) rfl ?_
  simp only [fa_agg, fa_one, fa_nil, List.cons_append, List.nil_append, List.append_nil]
  refine primS (rl3 [((cr Z0), (cr Z1), (cr Z0)), ((cr (((Zm2 / ((((Z0 - x0) * (Z0 - x0)) + ((Z0 - x1) * (Z0 - x1))) + ((Z1 - x2) * (Z1 - x2)))) * (Z0 - x1)) * (Z0 - x0))), (cr (((Zm2 / ((((Z0 - x0) * (Z0 - x0)) + ((Z0 - x1) * (Z0 - x1))) + ((Z1 - x2) * (Z1 - x2)))) * (Z0 - x1)) * (Z0 - x1))), (cr (((Zm2 / ((((Z0 - x0) * (Z0 - x0)) + ((Z0 - x1) * (Z0 - x1))) + ((Z1 - x2) * (Z1 - x2)))) * (Z0 - x1)) * (Z1 - x2))))]) rfl ?_
  have m78 : Num 7200000019 (cr (((Zm2 / ((((Z0 - x0) * (Z0 - x0)) + ((Z0 - x1) * (Z0 - x1))) + ((Z1 - x2) * (Z1 - x2)))) * (Z0 - x1)) * (Z0 - x0))) (((Zm2 / ((((Z0 - x0) * (Z0 - x0)) + ((Z0 - x1) * (Z0 - x1))) + ((Z1 - x2) * (Z1 - x2)))) * (Z0 - x1)) * (Z0 - x0)) := Num.of (Sm.mul m76.sm m63.sm)
  have m79 : Num 7200000019 (cr (((Zm2 / ((((Z0 - x0) * (Z0 - x0)) + ((Z0 - x1) * (Z0 - x1))) + ((Z1 - x2) * (Z1 - x2)))) * (Z0 - x1)) * (Z0 - x1))) (((Zm2 / ((((Z0 - x0) * (Z0 - x0)) + ((Z0 - x1) * (Z0 - x1))) + ((Z1 - x2) * (Z1 - x2)))) * (Z0 - x1)) * (Z0 - x1)) := Num.of (Sm.mul m76.sm m64.sm)
  have m80 : Num 7200000019 (cr (((Zm2 / ((((Z0 - x0) * (Z0 - x0)) + ((Z0 - x1) * (Z0 - x1))) + ((Z1 - x2) * (Z1 - x2)))) * (Z0 - x1)) * (Z1 - x2))) (((Zm2 / ((((Z0 - x0) * (Z0 - x0)) + ((Z0 - x1) * (Z0 - x1))) + ((Z1 - x2) * (Z1 - x2)))) * (Z0 - x1)) * (Z1 - x2)) := Num.of (Sm.mul m76.sm m65.sm)
  refine call_step (n_vec_Sum_2 (o0 := (Z0 + (((Zm2 / ((((Z0 - x0) * (Z0 - x0)) + ((Z0 - x1) * (Z0 - x1))) + ((Z1 - x2) * (Z1 - x2)))) * (Z0 - x1)) * (Z0 - x0)))) (o1 := (Z1 + (((Zm2 / ((((Z0 - x0) * (Z0 - x0)) + ((Z0 - x1) * (Z0 - x1))) + ((Z1 - x2) * (Z1 - x2)))) * (Z0 - x1)) * (Z0 - x1)))) (o2 := (Z0 + (((Zm2 / ((((Z0 - x0) * (Z0 - x0)) + ((Z0 - x1) * (Z0 - x1))) + ((Z1 - x2) * (Z1 - x2)))) * (Z0 - x1)) * (Z1 - x2)))) (m62.mono (by decide)) (m61.mono (by decide)) (m62.mono (by decide)) (m78.mono (by decide)) (m79.mono (by decide)) (m80.mono (by decide)) rfl rfl rfl) rfl ?_
  simp only [fa_agg, fa_one, fa_nil, List.cons_append, List.nil_append, List.append_nil]
  refine call_step (n_vec_Read_0 (h0.mono (by decide)) (h1.mono (by decide)) (h2.mono (by decide))) rfl ?_
  simp only [fa_agg, fa_one, fa_nil, List.cons_append, List.nil_append, List.append_nil]
  exact ret_step rfl

theorem n_frame_Of_2 {Z0 Z1 : Rat} (Y0 : Z0 = (0 : Rat)) (Y1 : Z1 = (1 : Rat)) {r0 r1 r2 : RR} {x0 x1 x2 : Rat} {k0 : Rat} (h0 : Num 900000000 r0 x0) (h1 : Num 900000000 r1 x1) (h2 : Num 900000000 r2 x2) (e0 : k0 = (((x0 * x0) + (x1 * x1)) + (x2 * x2))) (c0 : ¬k0 = Z1) : PureCalls prog F.frame_Of [.agg ([.bool r0.neg, nl r0.num, nl r0.den, .bool r1.neg, nl r1.num, nl r1.den, .bool r2.neg, nl r2.num, nl r2.den])] [.agg ([.bool (decide ((Z0).num < 0)), nn (Z0).num.natAbs, nn (Z0).den, .bool (decide ((Z0).num < 0)), nn (Z0).num.natAbs, nn (Z0).den, .bool (decide ((Z0).num < 0)), nn (Z0).num.natAbs, nn (Z0).den, .bool (decide ((Z0).num < 0)), nn (Z0).num.natAbs, nn (Z0).den, .bool (decide ((Z0).num < 0)), nn (Z0).num.natAbs, nn (Z0).den, .bool (decide ((Z0).num < 0)), nn (Z0).num.natAbs, nn (Z0).den, .bool (decide ((Z0).num < 0)), nn (Z0).num.natAbs, nn (Z0).den, .bool (decide ((Z0).num < 0)), nn (Z0).num.natAbs, nn (Z0).den, .bool (decide ((Z0).num < 0)), nn (Z0).num.natAbs, nn (Z0).den]), .one (.bool false)] := by
  subst e0
  refine symFunc_sound hmix tree_frame_Of (by kernel_rfl) rfl ?_
  unfold ir_frame_Of
  simp only [fa_agg, fa_one, fa_nil, List.cons_append, List.nil_append, List.append_nil]
  refine call_step (n_vec_Of (1) (0) (0) (by decide) (by decide) (by decide) (by decide) (by decide) (by decide) (Y1.trans (by decide +kernel)) (Y0.trans (by decide +kernel)) (Y0.trans (by decide +kernel))) rfl ?_
  simp only [fa_agg, fa_one, fa_nil, List.cons_append, List.nil_append, List.append_nil]
  refine call_step (n_vec_Of (0) (1) (0) (by decide) (by decide) (by decide) (by decide) (by decide) (by decide) (Y0.trans (by decide +kernel)) (Y1.trans (by decide +kernel)) (Y0.trans (by decide +kernel))) rfl ?_
  simp only [fa_agg, fa_one, fa_nil, List.cons_append, List.nil_append, List.append_nil]
  refine call_step (n_vec_Of (0) (0) (1) (by decide) (by decide) (by decide) (by decide) (by decide) (by decide) (Y0.trans (by decide +kernel)) (Y0.trans (by decide +kernel)) (Y1.trans (by decide +kernel))) rfl ?_
  simp only [fa_agg, fa_one, fa_nil, List.cons_append, List.nil_append, List.append_nil]
  refine call_step (n_vec_Of (0) (0) (0) (by decide) (by decide) (by decide) (by decide) (by decide) (by decide) (Y0.trans (by decide +kernel)) (Y0.trans (by decide +kernel)) (Y0.trans (by decide +kernel))) rfl ?_
  simp only [fa_agg, fa_one, fa_nil, List.cons_append, List.nil_append, List.append_nil]
  refine call_step (n_vec_Dot_0 (k0 := (((x0 * x0) + (x1 * x1)) + (x2 * x2))) (h0.mono (by decide)) (h1.mono (by decide)) (h2.mono (by decide)) (h0.mono (by decide)) (h1.mono (by decide)) (h2.mono (by decide)) rfl) rfl ?_
  simp only [fa_agg, fa_one, fa_nil, List.cons_append, List.nil_append, List.append_nil]
  refine call_step (n_rat_Of (1) (1) (by decide) (by decide) (by decide) (by decide) (Y1.trans (by decide +kernel))) rfl ?_
  simp only [fa_agg, fa_one, fa_nil, List.cons_append, List.nil_append, List.append_nil]
  have m81 : Num 5400000002 (cr (((x0 * x0) + (x1 * x1)) + (x2 * x2))) (((x0 * x0) + (x1 * x1)) + (x2 * x2)) := Num.of (Sm.add (Sm.add (Sm.mul h0.sm h0.sm) (Sm.mul h1.sm h1.sm)) (Sm.mul h2.sm h2.sm))
  have m82 : Num 1 (cr Z1) Z1 := Num.c Y1 (by decide +kernel) (by decide +kernel)
  refine call_step (n_rat_Same_f (m81.mono (by decide)) (m82.mono (by decide)) c0) rfl ?_
  simp only [fa_agg, fa_one, fa_nil, List.cons_append, List.nil_append, List.append_nil]
  refine primS (.bool true) rfl ?_
  refine itT rfl ?_
  exact ret_step rfl

theorem n_frame_In_0  {r0 r1 r2 r3 r4 r5 r6 r7 r8 r9 r10 r11 : RR} {x0 x1 x2 x3 x4 x5 x6 x7 x8 x9 x10 x11 : Rat} {k0 k1 k2 : Rat} (h0 : Num 9000000000 r0 x0) (h1 : Num 9000000000 r1 x1) (h2 : Num 9000000000 r2 x2) (h3 : Num 9000000000 r3 x3) (h4 : Num 9000000000 r4 x4) (h5 : Num 9000000000 r5 x5) (h6 : Num 9000000000 r6 x6) (h7 : Num 9000000000 r7 x7) (h8 : Num 9000000000 r8 x8) (h9 : Num 9000000000 r9 x9) (h10 : Num 9000000000 r10 x10) (h11 : Num 9000000000 r11 x11) (e0 : k0 = (((x9 * x0) + (x10 * x1)) + (x11 * x2))) (e1 : k1 = (((x9 * x3) + (x10 * x4)) + (x11 * x5))) (e2 : k2 = (((x9 * x6) + (x10 * x7)) + (x11 * x8)))  : PureCalls prog F.frame_In [.agg ([.bool r0.neg, nl r0.num, nl r0.den, .bool r1.neg, nl r1.num, nl r1.den, .bool r2.neg, nl r2.num, nl r2.den, .bool r3.neg, nl r3.num, nl r3.den, .bool r4.neg, nl r4.num, nl r4.den, .bool r5.neg, nl r5.num, nl r5.den, .bool r6.neg, nl r6.num, nl r6.den, .bool r7.neg, nl r7.num, nl r7.den, .bool r8.neg, nl r8.num, nl r8.den]), .agg ([.bool r9.neg, nl r9.num, nl r9.den, .bool r10.neg, nl r10.num, nl r10.den, .bool r11.neg, nl r11.num, nl r11.den])] [.agg ([.bool (decide ((k0).num < 0)), nn (k0).num.natAbs, nn (k0).den, .bool (decide ((k1).num < 0)), nn (k1).num.natAbs, nn (k1).den, .bool (decide ((k2).num < 0)), nn (k2).num.natAbs, nn (k2).den])] := by
  subst e0 e1 e2
  refine symFunc_sound hmix tree_frame_In (by kernel_rfl) rfl ?_
  unfold ir_frame_In
  simp only [fa_agg, fa_one, fa_nil, List.cons_append, List.nil_append, List.append_nil]
  refine call_step (n_vec_Dot_0 (k0 := (((x9 * x0) + (x10 * x1)) + (x11 * x2))) (h9.mono (by decide)) (h10.mono (by decide)) (h11.mono (by decide)) (h0.mono (by decide)) (h1.mono (by decide)) (h2.mono (by decide)) rfl) rfl ?_
  simp only [fa_agg, fa_one, fa_nil, List.cons_append, List.nil_append, List.append_nil]
  refine call_step (n_vec_Dot_0 (k0 := (((x9 * x3) + (x10 * x4)) + (x11 * x5))) (h9.mono (by decide)) (h10.mono (by decide)) (h11.mono (by decide)) (h3.mono (by decide)) (h4.mono (by decide)) (h5.mono (by decide)) rfl) rfl ?_
  simp only [fa_agg, fa_one, fa_nil, List.cons_append, List.nil_append, List.append_nil]
  refine call_step (n_vec_Dot_0 (k0 := (((x9 * x6) + (x10 * x7)) + (x11 * x8))) (h9.mono (by decide)) (h10.mono (by decide)) (h11.mono (by decide)) (h6.mono (by decide)) (h7.mono (by decide)) (h8.mono (by decide)) rfl) rfl ?_
  simp only [fa_agg, fa_one, fa_nil, List.cons_append, List.nil_append, List.append_nil]
  exact ret_step rfl

theorem n_frame_Slopes_1 {Z0 : Rat} (Y0 : Z0 = (0 : Rat)) {r0 r1 r2 r3 r4 r5 r6 r7 r8 r9 r10 r11 : RR} {x0 x1 x2 x3 x4 x5 x6 x7 x8 x9 x10 x11 : Rat} {k0 k1 k2 : Rat} (h0 : Num 900000000 r0 x0) (h1 : Num 900000000 r1 x1) (h2 : Num 900000000 r2 x2) (h3 : Num 900000000 r3 x3) (h4 : Num 900000000 r4 x4) (h5 : Num 900000000 r5 x5) (h6 : Num 900000000 r6 x6) (h7 : Num 900000000 r7 x7) (h8 : Num 900000000 r8 x8) (h9 : Num 900000000 r9 x9) (h10 : Num 900000000 r10 x10) (h11 : Num 900000000 r11 x11) (e0 : k0 = (((x9 * x6) + (x10 * x7)) + (x11 * x8))) (e1 : k1 = ((((x9 * x0) + (x10 * x1)) + (x11 * x2)) / k0)) (e2 : k2 = ((((x9 * x3) + (x10 * x4)) + (x11 * x5)) / k0)) (c0 : ¬k0 = Z0) : PureCalls prog F.frame_Slopes [.agg ([.bool r0.neg, nl r0.num, nl r0.den, .bool r1.neg, nl r1.num, nl r1.den, .bool r2.neg, nl r2.num, nl r2.den, .bool r3.neg, nl r3.num, nl r3.den, .bool r4.neg, nl r4.num, nl r4.den, .bool r5.neg, nl r5.num, nl r5.den, .bool r6.neg, nl r6.num, nl r6.den, .bool r7.neg, nl r7.num, nl r7.den, .bool r8.neg, nl r8.num, nl r8.den]), .agg ([.bool r9.neg, nl r9.num, nl r9.den, .bool r10.neg, nl r10.num, nl r10.den, .bool r11.neg, nl r11.num, nl r11.den])] [.agg ([.bool (decide ((k1).num < 0)), nn (k1).num.natAbs, nn (k1).den]), .agg ([.bool (decide ((k2).num < 0)), nn (k2).num.natAbs, nn (k2).den]), .agg ([.bool (decide ((k0).num < 0)), nn (k0).num.natAbs, nn (k0).den]), .one (.bool true)] := by
  subst e0 e1 e2
  refine symFunc_sound hmix tree_frame_Slopes (by kernel_rfl) rfl ?_
  unfold ir_frame_Slopes
  simp only [fa_agg, fa_one, fa_nil, List.cons_append, List.nil_append, List.append_nil]
  refine call_step (n_frame_In_0 (k0 := (((x9 * x0) + (x10 * x1)) + (x11 * x2))) (k1 := (((x9 * x3) + (x10 * x4)) + (x11 * x5))) (k2 := (((x9 * x6) + (x10 * x7)) + (x11 * x8))) (h0.mono (by decide)) (h1.mono (by decide)) (h2.mono (by decide)) (h3.mono (by decide)) (h4.mono (by decide)) (h5.mono (by decide)) (h6.mono (by decide)) (h7.mono (by decide)) (h8.mono (by decide)) (h9.mono (by decide)) (h10.mono (by decide)) (h11.mono (by decide)) rfl rfl rfl) rfl ?_
  simp only [fa_agg, fa_one, fa_nil, List.cons_append, List.nil_append, List.append_nil]
  have m92 : Num 5400000002 (cr (((x9 * x0) + (x10 * x1)) + (x11 * x2))) (((x9 * x0) + (x10 * x1)) + (x11 * x2)) := Num.of (Sm.add (Sm.add (Sm.mul h9.sm h0.sm) (Sm.mul h10.sm h1.sm)) (Sm.mul h11.sm h2.sm))
  have m93 : Num 5400000002 (cr (((x9 * x6) + (x10 * x7)) + (x11 * x8))) (((x9 * x6) + (x10 * x7)) + (x11 * x8)) := Num.of (Sm.add (Sm.add (Sm.mul h9.sm h6.sm) (Sm.mul h10.sm h7.sm)) (Sm.mul h11.sm h8.sm))
  refine call_step (n_rat_Div_f (k0 := ((((x9 * x0) + (x10 * x1)) + (x11 * x2)) / (((x9 * x6) + (x10 * x7)) + (x11 * x8)))) Y0 (m92.mono (by decide)) (m93.mono (by decide)) rfl c0) rfl ?_
  simp only [fa_agg, fa_one, fa_nil, List.cons_append, List.nil_append, List.append_nil]
  have m94 : Num 5400000002 (cr (((x9 * x3) + (x10 * x4)) + (x11 * x5))) (((x9 * x3) + (x10 * x4)) + (x11 * x5)) := Num.of (Sm.add (Sm.add (Sm.mul h9.sm h3.sm) (Sm.mul h10.sm h4.sm)) (Sm.mul h11.sm h5.sm))
  refine call_step (n_rat_Div_f (k0 := ((((x9 * x3) + (x10 * x4)) + (x11 * x5)) / (((x9 * x6) + (x10 * x7)) + (x11 * x8)))) Y0 (m94.mono (by decide)) (m93.mono (by decide)) rfl c0) rfl ?_
  simp only [fa_agg, fa_one, fa_nil, List.cons_append, List.nil_append, List.append_nil]
  exact ret_step rfl

theorem n_penumbraref05_Scale_0  {r0 r1 r2 r3 : RR} {x0 x1 x2 x3 : Rat} {k0 k1 k2 : Rat} (h0 : Num 9000000000 r0 x0) (h1 : Num 9000000000 r1 x1) (h2 : Num 9000000000 r2 x2) (h3 : Num 9000000000 r3 x3) (e0 : k0 = (x0 * x1)) (e1 : k1 = (x0 * x2)) (e2 : k2 = (x0 * x3))  : PureCalls prog F.penumbraref05_Scale [.agg ([.bool r0.neg, nl r0.num, nl r0.den]), .agg ([.bool r1.neg, nl r1.num, nl r1.den, .bool r2.neg, nl r2.num, nl r2.den, .bool r3.neg, nl r3.num, nl r3.den])] [.agg ([.bool (decide ((k0).num < 0)), nn (k0).num.natAbs, nn (k0).den, .bool (decide ((k1).num < 0)), nn (k1).num.natAbs, nn (k1).den, .bool (decide ((k2).num < 0)), nn (k2).num.natAbs, nn (k2).den])] := by
  subst e0 e1 e2
  refine symFunc_sound hmix tree_penumbraref05_Scale (by kernel_rfl) rfl ?_
  unfold ir_penumbraref05_Scale
  simp only [fa_agg, fa_one, fa_nil, List.cons_append, List.nil_append, List.append_nil]
  refine call_step (n_penumbraref03_Mul (k0 := (x0 * x1)) (h0.mono (by decide)) (h1.mono (by decide)) rfl) rfl ?_
  simp only [fa_agg, fa_one, fa_nil, List.cons_append, List.nil_append, List.append_nil]
  refine call_step (n_penumbraref03_Mul (k0 := (x0 * x2)) (h0.mono (by decide)) (h2.mono (by decide)) rfl) rfl ?_
  simp only [fa_agg, fa_one, fa_nil, List.cons_append, List.nil_append, List.append_nil]
  refine call_step (n_penumbraref03_Mul (k0 := (x0 * x3)) (h0.mono (by decide)) (h3.mono (by decide)) rfl) rfl ?_
  simp only [fa_agg, fa_one, fa_nil, List.cons_append, List.nil_append, List.append_nil]
  exact ret_step rfl

theorem n_penumbraref05_Is_0  {x0 x1 x2 x3 x4 x5 : Rat} (h0 : Num 9000000000 (cr x0) x0) (h1 : Num 9000000000 (cr x1) x1) (h2 : Num 9000000000 (cr x2) x2) (h3 : Num 9000000000 (cr x3) x3) (h4 : Num 9000000000 (cr x4) x4) (h5 : Num 9000000000 (cr x5) x5)  (c0 : x0 = x3) (c1 : x1 = x4) (c2 : x2 = x5) : PureCalls prog F.penumbraref05_Is [.agg ([.bool (decide ((x0).num < 0)), nn (x0).num.natAbs, nn (x0).den, .bool (decide ((x1).num < 0)), nn (x1).num.natAbs, nn (x1).den, .bool (decide ((x2).num < 0)), nn (x2).num.natAbs, nn (x2).den]), .agg ([.bool (decide ((x3).num < 0)), nn (x3).num.natAbs, nn (x3).den, .bool (decide ((x4).num < 0)), nn (x4).num.natAbs, nn (x4).den, .bool (decide ((x5).num < 0)), nn (x5).num.natAbs, nn (x5).den])] [.one (.bool true)] := by
  refine symFunc_sound hmix tree_penumbraref05_Is (by kernel_rfl) rfl ?_
  unfold ir_penumbraref05_Is
  simp only [fa_agg, fa_one, fa_nil, List.cons_append, List.nil_append, List.append_nil]
  refine call_step (n_penumbraref03_Is_t (h0.mono (by decide)) (h3.mono (by decide)) c0) rfl ?_
  simp only [fa_agg, fa_one, fa_nil, List.cons_append, List.nil_append, List.append_nil]
  refine itT rfl ?_
  refine call_step (n_penumbraref03_Is_t (h1.mono (by decide)) (h4.mono (by decide)) c1) rfl ?_
  simp only [fa_agg, fa_one, fa_nil, List.cons_append, List.nil_append, List.append_nil]
  refine itT rfl ?_
  refine call_step (n_penumbraref03_Is_t (h2.mono (by decide)) (h5.mono (by decide)) c2) rfl ?_
  simp only [fa_agg, fa_one, fa_nil, List.cons_append, List.nil_append, List.append_nil]
  exact ret_step rfl

theorem n_penumbralaw06_fixed : PureCalls prog F.penumbralaw06_fixed [] [.one (.bool true)] := by
  obtain ⟨Zm3, Ym3⟩ := ex_eq (-3 : Rat)
  obtain ⟨Zm2, Ym2⟩ := ex_eq (-2 : Rat)
  obtain ⟨Zm1, Ym1⟩ := ex_eq (-1 : Rat)
  obtain ⟨Zm2_3, Ym2_3⟩ := ex_eq (-2/3 : Rat)
  obtain ⟨Zm1_3, Ym1_3⟩ := ex_eq (-1/3 : Rat)
  obtain ⟨Z0, Y0⟩ := ex_eq (0 : Rat)
  obtain ⟨Z1_3, Y1_3⟩ := ex_eq (1/3 : Rat)
  obtain ⟨Z2_3, Y2_3⟩ := ex_eq (2/3 : Rat)
  obtain ⟨Z1, Y1⟩ := ex_eq (1 : Rat)
  obtain ⟨Z3_2, Y3_2⟩ := ex_eq (3/2 : Rat)
  obtain ⟨Z2, Y2⟩ := ex_eq (2 : Rat)
  obtain ⟨Z3, Y3⟩ := ex_eq (3 : Rat)
  obtain ⟨Z4, Y4⟩ := ex_eq (4 : Rat)
  refine symFunc_sound hmix tree_penumbralaw06_fixed (by kernel_rfl) rfl ?_
  unfold ir_penumbralaw06_fixed
  simp only [fa_agg, fa_one, fa_nil, List.cons_append, List.nil_append, List.append_nil]
  refine call_step (n_rat_Of (1) (3) (by decide) (by decide) (by decide) (by decide) (Y1_3.trans (by decide +kernel))) rfl ?_
  simp only [fa_agg, fa_one, fa_nil, List.cons_append, List.nil_append, List.append_nil]
  refine call_step (n_vec_Of (2) (1) (2) (by decide) (by decide) (by decide) (by decide) (by decide) (by decide) (Y2.trans (by decide +kernel)) (Y1.trans (by decide +kernel)) (Y2.trans (by decide +kernel))) rfl ?_
  simp only [fa_agg, fa_one, fa_nil, List.cons_append, List.nil_append, List.append_nil]
  have m95 : Num 1 (cr Z1_3) Z1_3 := Num.c Y1_3 (by decide +kernel) (by decide +kernel)
  have m96 : Num 1 (cr Z2) Z2 := Num.c Y2 (by decide +kernel) (by decide +kernel)
  have m97 : Num 1 (cr Z1) Z1 := Num.c Y1 (by decide +kernel) (by decide +kernel)
  refine call_step (n_vec_Scale_0 (k0 := Z2_3) (k1 := Z1_3) (k2 := Z2_3) (m95.mono (by decide)) (m96.mono (by decide)) (m97.mono (by decide)) (m96.mono (by decide)) (by rw [Y2_3, Y1_3, Y2] <;> decide +kernel) (by rw [Y1_3, Y1] <;> decide +kernel) (by rw [Y2_3, Y1_3, Y2] <;> decide +kernel)) rfl ?_
  simp only [fa_agg, fa_one, fa_nil, List.cons_append, List.nil_append, List.append_nil]
  have m98 : Num 1 (cr Z2_3) Z2_3 := Num.c Y2_3 (by decide +kernel) (by decide +kernel)
  refine call_step (n_frame_Of_1 (k0 := Z1) (k1 := Z2_3) (k2 := Zm3) (k3 := Zm1_3) (k4 := Zm2_3) (k5 := Z2_3) (k6 := Zm2_3) (k7 := Z2_3) (k8 := Z1_3) Ym2 Y0 Y1 (m98.mono (by decide)) (m95.mono (by decide)) (m98.mono (by decide)) (by rw [Y1, Y2_3, Y1_3] <;> decide +kernel) (by rw [Y2_3, Y0, Y1_3, Y1] <;> decide +kernel) (by rw [Ym3, Ym2, Y2_3] <;> decide +kernel) (by rw [Ym1_3, Y1, Ym3, Y0, Y2_3] <;> decide +kernel) (by rw [Ym2_3, Y0, Ym3, Y2_3, Y1_3] <;> decide +kernel) (by rw [Y2_3, Y0, Ym3, Y1] <;> decide +kernel) (by rw [Ym2_3, Y0, Ym3, Y1_3, Y2_3] <;> decide +kernel) (by rw [Y2_3, Y1, Ym3, Y0, Y1_3] <;> decide +kernel) (by rw [Y1_3, Y0, Ym3, Y1, Y2_3] <;> decide +kernel) rfl (show ¬(Z2_3 = Z0) by rw [Y2_3, Y0] <;> decide +kernel)) rfl ?_
  simp only [fa_agg, fa_one, fa_nil, List.cons_append, List.nil_append, List.append_nil]
  refine call_step (n_vec_Of (1) (1) (0) (by decide) (by decide) (by decide) (by decide) (by decide) (by decide) (Y1.trans (by decide +kernel)) (Y1.trans (by decide +kernel)) (Y0.trans (by decide +kernel))) rfl ?_
  simp only [fa_agg, fa_one, fa_nil, List.cons_append, List.nil_append, List.append_nil]
  have m99 : Num 1 (cr Z0) Z0 := Num.c Y0 (by decide +kernel) (by decide +kernel)
  refine call_step (n_frame_Of_2 (k0 := Z2) Y0 Y1 (m97.mono (by decide)) (m97.mono (by decide)) (m99.mono (by decide)) (by rw [Y2, Y1, Y0] <;> decide +kernel) (show ¬(Z2 = Z1) by rw [Y2, Y1] <;> decide +kernel)) rfl ?_
  simp only [fa_agg, fa_one, fa_nil, List.cons_append, List.nil_append, List.append_nil]
  refine call_step (n_vec_Of (0) (0) (1) (by decide) (by decide) (by decide) (by decide) (by decide) (by decide) (Y0.trans (by decide +kernel)) (Y0.trans (by decide +kernel)) (Y1.trans (by decide +kernel))) rfl ?_
  simp only [fa_agg, fa_one, fa_nil, List.cons_append, List.nil_append, List.append_nil]
  refine call_step (n_frame_Of_0 (k0 := Z1) (k1 := Z0) Ym2 Y0 Y1 (m99.mono (by decide)) (m99.mono (by decide)) (m97.mono (by decide)) (by rw [Y1, Y0] <;> decide +kernel) (by rw [Y0, Y1] <;> decide +kernel) rfl rfl) rfl ?_
  simp only [fa_agg, fa_one, fa_nil, List.cons_append, List.nil_append, List.append_nil]
  refine call_step (n_vec_Of (3) (4) (2) (by decide) (by decide) (by decide) (by decide) (by decide) (by decide) (Y3.trans (by decide +kernel)) (Y4.trans (by decide +kernel)) (Y2.trans (by decide +kernel))) rfl ?_
  simp only [fa_agg, fa_one, fa_nil, List.cons_append, List.nil_append, List.append_nil]
  have m100 : Num 1 (cr Z3) Z3 := Num.c Y3 (by decide +kernel) (by decide +kernel)
  have m101 : Num 1 (cr Z4) Z4 := Num.c Y4 (by decide +kernel) (by decide +kernel)
  refine call_step (n_frame_Slopes_1 (k0 := Z2) (k1 := Z3_2) (k2 := Z2) Y0 (m97.mono (by decide)) (m99.mono (by decide)) (m99.mono (by decide)) (m99.mono (by decide)) (m97.mono (by decide)) (m99.mono (by decide)) (m99.mono (by decide)) (m99.mono (by decide)) (m97.mono (by decide)) (m100.mono (by decide)) (m101.mono (by decide)) (m96.mono (by decide)) (by rw [Y2, Y3, Y0, Y4, Y1] <;> decide +kernel) (by rw [Y3_2, Y3, Y1, Y4, Y0, Y2] <;> decide +kernel) (by rw [Y2, Y3, Y0, Y4, Y1] <;> decide +kernel) (show ¬(Z2 = Z0) by rw [Y2, Y0] <;> decide +kernel)) rfl ?_
  simp only [fa_agg, fa_one, fa_nil, List.cons_append, List.nil_append, List.append_nil]
  refine itT rfl ?_
  refine call_step (n_penumbraref03_Of (1) (3) (by decide) (by decide) (by decide) (by decide) (Y1_3.trans (by decide +kernel))) rfl ?_
  simp only [fa_agg, fa_one, fa_nil, List.cons_append, List.nil_append, List.append_nil]
  refine call_step (n_penumbraref05_Of (-1) (-2) (2) (by decide) (by decide) (by decide) (by decide) (by decide) (by decide) (Ym1.trans (by decide +kernel)) (Ym2.trans (by decide +kernel)) (Y2.trans (by decide +kernel))) rfl ?_
  simp only [fa_agg, fa_one, fa_nil, List.cons_append, List.nil_append, List.append_nil]
  have m102 : Num 1 (cr Zm1) Zm1 := Num.c Ym1 (by decide +kernel) (by decide +kernel)
  have m103 : Num 1 (cr Zm2) Zm2 := Num.c Ym2 (by decide +kernel) (by decide +kernel)
  refine call_step (n_penumbraref05_Scale_0 (k0 := Zm1_3) (k1 := Zm2_3) (k2 := Z2_3) (m95.mono (by decide)) (m102.mono (by decide)) (m103.mono (by decide)) (m96.mono (by decide)) (by rw [Ym1_3, Y1_3, Ym1] <;> decide +kernel) (by rw [Ym2_3, Y1_3, Ym2] <;> decide +kernel) (by rw [Y2_3, Y1_3, Y2] <;> decide +kernel)) rfl ?_
  simp only [fa_agg, fa_one, fa_nil, List.cons_append, List.nil_append, List.append_nil]
  have m104 : Num 1 (cr Zm1_3) Zm1_3 := Num.c Ym1_3 (by decide +kernel) (by decide +kernel)
  have m105 : Num 1 (cr Zm2_3) Zm2_3 := Num.c Ym2_3 (by decide +kernel) (by decide +kernel)
  refine call_step (n_penumbraref05_Is_0 (m104.mono (by decide)) (m105.mono (by decide)) (m98.mono (by decide)) (m104.mono (by decide)) (m105.mono (by decide)) (m98.mono (by decide)) rfl rfl rfl) rfl ?_
  simp only [fa_agg, fa_one, fa_nil, List.cons_append, List.nil_append, List.append_nil]
  refine itT rfl ?_
  refine call_step (n_penumbraref03_Of (1) (3) (by decide) (by decide) (by decide) (by decide) (Y1_3.trans (by decide +kernel))) rfl ?_
  simp only [fa_agg, fa_one, fa_nil, List.cons_append, List.nil_append, List.append_nil]
  refine call_step (n_penumbraref05_Of (-2) (2) (1) (by decide) (by decide) (by decide) (by decide) (by decide) (by decide) (Ym2.trans (by decide +kernel)) (Y2.trans (by decide +kernel)) (Y1.trans (by decide +kernel))) rfl ?_
  simp only [fa_agg, fa_one, fa_nil, List.cons_append, List.nil_append, List.append_nil]
  refine call_step (n_penumbraref05_Scale_0 (k0 := Zm2_3) (k1 := Z2_3) (k2 := Z1_3) (m95.mono (by decide)) (m103.mono (by decide)) (m96.mono (by decide)) (m97.mono (by decide)) (by rw [Ym2_3, Y1_3, Ym2] <;> decide +kernel) (by rw [Y2_3, Y1_3, Y2] <;> decide +kernel) (by rw [Y1_3, Y1] <;> decide +kernel)) rfl ?_
  simp only [fa_agg, fa_one, fa_nil, List.cons_append, List.nil_append, List.append_nil]
  refine call_step (n_penumbraref05_Is_0 (m105.mono (by decide)) (m98.mono (by decide)) (m95.mono (by decide)) (m105.mono (by decide)) (m98.mono (by decide)) (m95.mono (by decide)) rfl rfl rfl) rfl ?_
  simp only [fa_agg, fa_one, fa_nil, List.cons_append, List.nil_append, List.append_nil]
  refine itT rfl ?_
  refine primS (.bool true) rfl ?_
  refine itT rfl ?_
  refine itT rfl ?_
  refine itT rfl ?_
  refine call_step (n_penumbraref03_Of (3) (2) (by decide) (by decide) (by decide) (by decide) (Y3_2.trans (by decide +kernel))) rfl ?_
  simp only [fa_agg, fa_one, fa_nil, List.cons_append, List.nil_append, List.append_nil]
  have m106 : Num 1 (cr Z3_2) Z3_2 := Num.c Y3_2 (by decide +kernel) (by decide +kernel)
  refine call_step (n_penumbraref03_Is_t (m106.mono (by decide)) (m106.mono (by decide)) rfl) rfl ?_
  simp only [fa_agg, fa_one, fa_nil, List.cons_append, List.nil_append, List.append_nil]
  refine itT rfl ?_
  refine call_step (n_penumbraref03_Of (2) (1) (by decide) (by decide) (by decide) (by decide) (Y2.trans (by decide +kernel))) rfl ?_
  simp only [fa_agg, fa_one, fa_nil, List.cons_append, List.nil_append, List.append_nil]
  refine call_step (n_penumbraref03_Is_t (m96.mono (by decide)) (m96.mono (by decide)) rfl) rfl ?_
  simp only [fa_agg, fa_one, fa_nil, List.cons_append, List.nil_append, List.append_nil]
  refine itT rfl ?_
  refine call_step (n_penumbraref03_Of (2) (1) (by decide) (by decide) (by decide) (by decide) (Y2.trans (by decide +kernel))) rfl ?_
  simp only [fa_agg, fa_one, fa_nil, List.cons_append, List.nil_append, List.append_nil]
  refine call_step (n_penumbraref03_Is_t (m96.mono (by decide)) (m96.mono (by decide)) rfl) rfl ?_
  simp only [fa_agg, fa_one, fa_nil, List.cons_append, List.nil_append, List.append_nil]
  exact ret_step rfl

theorem n_frame_Out_0  {r0 r1 r2 r3 r4 r5 r6 r7 r8 r9 r10 r11 : RR} {x0 x1 x2 x3 x4 x5 x6 x7 x8 x9 x10 x11 : Rat} {k0 k1 k2 : Rat} (h0 : Num 900000000 r0 x0) (h1 : Num 900000000 r1 x1) (h2 : Num 900000000 r2 x2) (h3 : Num 900000000 r3 x3) (h4 : Num 900000000 r4 x4) (h5 : Num 900000000 r5 x5) (h6 : Num 900000000 r6 x6) (h7 : Num 900000000 r7 x7) (h8 : Num 900000000 r8 x8) (h9 : Num 900000000 r9 x9) (h10 : Num 900000000 r10 x10) (h11 : Num 900000000 r11 x11) (e0 : k0 = (((x9 * x0) + (x10 * x3)) + (x11 * x6))) (e1 : k1 = (((x9 * x1) + (x10 * x4)) + (x11 * x7))) (e2 : k2 = (((x9 * x2) + (x10 * x5)) + (x11 * x8)))  : PureCalls prog F.frame_Out [.agg ([.bool r0.neg, nl r0.num, nl r0.den, .bool r1.neg, nl r1.num, nl r1.den, .bool r2.neg, nl r2.num, nl r2.den, .bool r3.neg, nl r3.num, nl r3.den, .bool r4.neg, nl r4.num, nl r4.den, .bool r5.neg, nl r5.num, nl r5.den, .bool r6.neg, nl r6.num, nl r6.den, .bool r7.neg, nl r7.num, nl r7.den, .bool r8.neg, nl r8.num, nl r8.den]), .agg ([.bool r9.neg, nl r9.num, nl r9.den, .bool r10.neg, nl r10.num, nl r10.den, .bool r11.neg, nl r11.num, nl r11.den])] [.agg ([.bool (decide ((k0).num < 0)), nn (k0).num.natAbs, nn (k0).den, .bool (decide ((k1).num < 0)), nn (k1).num.natAbs, nn (k1).den, .bool (decide ((k2).num < 0)), nn (k2).num.natAbs, nn (k2).den])] := by
  subst e0 e1 e2
  refine symFunc_sound hmix tree_frame_Out (by kernel_rfl) rfl ?_
  unfold ir_frame_Out
  simp only [fa_agg, fa_one, fa_nil, List.cons_append, List.nil_append, List.append_nil]
  refine call_step (n_vec_Scale_0 (k0 := (x9 * x0)) (k1 := (x9 * x1)) (k2 := (x9 * x2)) (h9.mono (by decide)) (h0.mono (by decide)) (h1.mono (by decide)) (h2.mono (by decide)) rfl rfl rfl) rfl ?_
  simp only [fa_agg, fa_one, fa_nil, List.cons_append, List.nil_append, List.append_nil]
  refine call_step (n_vec_Scale_0 (k0 := (x10 * x3)) (k1 := (x10 * x4)) (k2 := (x10 * x5)) (h10.mono (by decide)) (h3.mono (by decide)) (h4.mono (by decide)) (h5.mono (by decide)) rfl rfl rfl) rfl ?_
  simp only [fa_agg, fa_one, fa_nil, List.cons_append, List.nil_append, List.append_nil]
  refine call_step (n_vec_Scale_0 (k0 := (x11 * x6)) (k1 := (x11 * x7)) (k2 := (x11 * x8)) (h11.mono (by decide)) (h6.mono (by decide)) (h7.mono (by decide)) (h8.mono (by decide)) rfl rfl rfl) rfl ?_
  simp only [fa_agg, fa_one, fa_nil, List.cons_append, List.nil_append, List.append_nil]
  refine primS (rl3 [((cr (x9 * x0)), (cr (x9 * x1)), (cr (x9 * x2))), ((cr (x10 * x3)), (cr (x10 * x4)), (cr (x10 * x5))), ((cr (x11 * x6)), (cr (x11 * x7)), (cr (x11 * x8)))]) rfl ?_
  have m119 : Num 1800000000 (cr (x9 * x0)) (x9 * x0) := Num.of (Sm.mul h9.sm h0.sm)
  have m120 : Num 1800000000 (cr (x9 * x1)) (x9 * x1) := Num.of (Sm.mul h9.sm h1.sm)
  have m121 : Num 1800000000 (cr (x9 * x2)) (x9 * x2) := Num.of (Sm.mul h9.sm h2.sm)
  have m122 : Num 1800000000 (cr (x10 * x3)) (x10 * x3) := Num.of (Sm.mul h10.sm h3.sm)
  have m123 : Num 1800000000 (cr (x10 * x4)) (x10 * x4) := Num.of (Sm.mul h10.sm h4.sm)
  have m124 : Num 1800000000 (cr (x10 * x5)) (x10 * x5) := Num.of (Sm.mul h10.sm h5.sm)
  have m125 : Num 1800000000 (cr (x11 * x6)) (x11 * x6) := Num.of (Sm.mul h11.sm h6.sm)
  have m126 : Num 1800000000 (cr (x11 * x7)) (x11 * x7) := Num.of (Sm.mul h11.sm h7.sm)
  have m127 : Num 1800000000 (cr (x11 * x8)) (x11 * x8) := Num.of (Sm.mul h11.sm h8.sm)
  refine call_step (n_vec_Sum_3 (o0 := (((x9 * x0) + (x10 * x3)) + (x11 * x6))) (o1 := (((x9 * x1) + (x10 * x4)) + (x11 * x7))) (o2 := (((x9 * x2) + (x10 * x5)) + (x11 * x8))) (m119.mono (by decide)) (m120.mono (by decide)) (m121.mono (by decide)) (m122.mono (by decide)) (m123.mono (by decide)) (m124.mono (by decide)) (m125.mono (by decide)) (m126.mono (by decide)) (m127.mono (by decide)) rfl rfl rfl) rfl ?_
  simp only [fa_agg, fa_one, fa_nil, List.cons_append, List.nil_append, List.append_nil]
  exact ret_step rfl

end Go.Px.Na

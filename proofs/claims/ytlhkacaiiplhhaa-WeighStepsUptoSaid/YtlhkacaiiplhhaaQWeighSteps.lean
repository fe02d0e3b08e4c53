/- QWeighSteps: from one way to join a path to the next one. -/
import Derived.Test.YtlhkacaiiplhhaaQWeighMerges
set_option maxRecDepth 20000
set_option maxHeartbeats 40000000
set_option linter.unusedVariables false
set_option linter.unusedSimpArgs false
namespace Go.Px
open Go.RowKit
def ir_penumbralaw18_WeighSteps : IR :=
 .call F.weigh_Densities [.agg [.var 0, .var 1, .var 2, .var 3, .var 4, .var 5, .var 6, .var 7, .var 8, .var 9, .var 10, .var 11, .var 12, .var 13, .var 14, .var 15, .var 16, .var 17, .var 18, .var 19, .var 20, .var 21, .var 22, .var 23, .var 24, .var 25, .var 26, .var 27, .var 28, .var 29, .var 30, .var 31, .var 32, .var 33, .var 34, .var 35, .var 36, .var 37, .var 38, .var 39, .var 40, .var 41, .var 42, .var 43, .var 44, .var 45, .var 46, .var 47, .var 48, .var 49, .var 50, .var 51, .var 52, .var 53, .var 54, .var 55, .var 56, .var 57, .var 58, .var 59, .var 60, .var 61, .var 62, .var 63, .var 64, .var 65, .var 66, .var 67, .var 68, .var 69, .var 70]] [.one, .one] <|
 .prim .len [.var 3] <|
 .call F.penumbralaw18_fixed [] [.one] <|
 .prim .not [.var 74] <|
 .ite (.var 75) (
  .call F.penumbralaw18_fixed [] [.one] <|
  .ret [.one (.var 76)]) (
  .prim .len [.var 71] <|
  .prim (.bin .eql) [.var 76, .int .i64 (0)] <|
  .ite (.var 77) (
   .call F.penumbralaw18_fixed [] [.one] <|
   .ret [.one (.var 78)]) (
   .prim .len [.var 71] <|
   .prim (.bin .add) [.var 73, .int .i64 (1)] <|
   .prim (.bin .neq) [.var 78, .var 79] <|
   .ite (.var 80) (
    .ret [.one (.bol false)]) (
    .loop [.var 71, .var 73, .int .i64 (1), .var 0, .var 1, .var 2, .var 3, .var 4, .var 5, .var 6, .var 7, .var 8, .var 9, .var 10, .var 11, .var 12, .var 13, .var 14, .var 15, .var 16, .var 17, .var 18, .var 19, .var 20, .var 21, .var 22, .var 23, .var 24, .var 25, .var 26, .var 27, .var 28, .var 29, .var 30, .var 31, .var 32, .var 33, .var 34, .var 35, .var 36, .var 37, .var 38, .var 39, .var 40, .var 41, .var 42, .var 43, .var 44, .var 45, .var 46, .var 47, .var 48, .var 49, .var 50, .var 51, .var 52, .var 53, .var 54, .var 55, .var 56, .var 57, .var 58, .var 59, .var 60, .var 61, .var 62, .var 63, .var 64, .var 65, .var 66, .var 67, .var 68, .var 69, .var 70] (
     .prim (.bin .add) [.var 2, .int .i64 (1)] <|
     .prim (.bin .lss) [.var 74, .var 1] <|
     .ite (.var 75) (
      .prim (.bin .sub) [.var 2, .int .i64 (1)] <|
      .prim (.inb 40) [.var 7, .var 76] <|
      .prim (.get 40 36) [.var 7, .var 76] <|
      .prim (.bin .neq) [.var 78, .int .i64 (0)] <|
      .ite (.var 79) (
       .prim (.bin .add) [.var 2, .int .i64 (1)] <|
       .jump 0 [.var 0, .var 1, .var 80, .var 3, .var 4, .var 5, .var 6, .var 7, .var 8, .var 9, .var 10, .var 11, .var 12, .var 13, .var 14, .var 15, .var 16, .var 17, .var 18, .var 19, .var 20, .var 21, .var 22, .var 23, .var 24, .var 25, .var 26, .var 27, .var 28, .var 29, .var 30, .var 31, .var 32, .var 33, .var 34, .var 35, .var 36, .var 37, .var 38, .var 39, .var 40, .var 41, .var 42, .var 43, .var 44, .var 45, .var 46, .var 47, .var 48, .var 49, .var 50, .var 51, .var 52, .var 53, .var 54, .var 55, .var 56, .var 57, .var 58, .var 59, .var 60, .var 61, .var 62, .var 63, .var 64, .var 65, .var 66, .var 67, .var 68, .var 69, .var 70, .var 71, .var 72, .var 73]) (
       .prim (.inb 40) [.var 7, .var 2] <|
       .prim (.get 40 36) [.var 7, .var 2] <|
       .prim (.bin .neq) [.var 81, .int .i64 (0)] <|
       .ite (.var 82) (
        .prim (.bin .add) [.var 2, .int .i64 (1)] <|
        .jump 0 [.var 0, .var 1, .var 83, .var 3, .var 4, .var 5, .var 6, .var 7, .var 8, .var 9, .var 10, .var 11, .var 12, .var 13, .var 14, .var 15, .var 16, .var 17, .var 18, .var 19, .var 20, .var 21, .var 22, .var 23, .var 24, .var 25, .var 26, .var 27, .var 28, .var 29, .var 30, .var 31, .var 32, .var 33, .var 34, .var 35, .var 36, .var 37, .var 38, .var 39, .var 40, .var 41, .var 42, .var 43, .var 44, .var 45, .var 46, .var 47, .var 48, .var 49, .var 50, .var 51, .var 52, .var 53, .var 54, .var 55, .var 56, .var 57, .var 58, .var 59, .var 60, .var 61, .var 62, .var 63, .var 64, .var 65, .var 66, .var 67, .var 68, .var 69, .var 70, .var 71, .var 72, .var 73]) (
        .prim (.inb 40) [.var 7, .var 2] <|
        .prim (.get 40 0) [.var 7, .var 2] <|
        .prim (.get 40 1) [.var 7, .var 2] <|
        .prim (.get 40 2) [.var 7, .var 2] <|
        .prim (.get 40 3) [.var 7, .var 2] <|
        .prim (.get 40 4) [.var 7, .var 2] <|
        .prim (.get 40 5) [.var 7, .var 2] <|
        .prim (.get 40 6) [.var 7, .var 2] <|
        .prim (.get 40 7) [.var 7, .var 2] <|
        .prim (.get 40 8) [.var 7, .var 2] <|
        .prim (.get 40 9) [.var 7, .var 2] <|
        .prim (.get 40 10) [.var 7, .var 2] <|
        .prim (.get 40 11) [.var 7, .var 2] <|
        .prim (.get 40 12) [.var 7, .var 2] <|
        .prim (.get 40 13) [.var 7, .var 2] <|
        .prim (.get 40 14) [.var 7, .var 2] <|
        .prim (.get 40 15) [.var 7, .var 2] <|
        .prim (.get 40 16) [.var 7, .var 2] <|
        .prim (.get 40 17) [.var 7, .var 2] <|
        .prim (.get 40 18) [.var 7, .var 2] <|
        .prim (.get 40 19) [.var 7, .var 2] <|
        .prim (.get 40 20) [.var 7, .var 2] <|
        .prim (.get 40 21) [.var 7, .var 2] <|
        .prim (.get 40 22) [.var 7, .var 2] <|
        .prim (.get 40 23) [.var 7, .var 2] <|
        .prim (.get 40 24) [.var 7, .var 2] <|
        .prim (.get 40 25) [.var 7, .var 2] <|
        .prim (.get 40 26) [.var 7, .var 2] <|
        .prim (.get 40 27) [.var 7, .var 2] <|
        .prim (.get 40 28) [.var 7, .var 2] <|
        .prim (.get 40 29) [.var 7, .var 2] <|
        .prim (.get 40 30) [.var 7, .var 2] <|
        .prim (.get 40 31) [.var 7, .var 2] <|
        .prim (.get 40 32) [.var 7, .var 2] <|
        .prim (.get 40 33) [.var 7, .var 2] <|
        .prim (.get 40 34) [.var 7, .var 2] <|
        .prim (.get 40 35) [.var 7, .var 2] <|
        .call F.affine_Inverse [.agg [.var 84, .var 85, .var 86, .var 87, .var 88, .var 89, .var 90, .var 91, .var 92, .var 93, .var 94, .var 95, .var 96, .var 97, .var 98, .var 99, .var 100, .var 101, .var 102, .var 103, .var 104, .var 105, .var 106, .var 107, .var 108, .var 109, .var 110, .var 111, .var 112, .var 113, .var 114, .var 115, .var 116, .var 117, .var 118, .var 119]] [.agg 36, .one] <|
        .prim .not [.var 156] <|
        .ite (.var 157) (
         .prim (.bin .add) [.var 2, .int .i64 (1)] <|
         .jump 0 [.var 0, .var 1, .var 158, .var 3, .var 4, .var 5, .var 6, .var 7, .var 8, .var 9, .var 10, .var 11, .var 12, .var 13, .var 14, .var 15, .var 16, .var 17, .var 18, .var 19, .var 20, .var 21, .var 22, .var 23, .var 24, .var 25, .var 26, .var 27, .var 28, .var 29, .var 30, .var 31, .var 32, .var 33, .var 34, .var 35, .var 36, .var 37, .var 38, .var 39, .var 40, .var 41, .var 42, .var 43, .var 44, .var 45, .var 46, .var 47, .var 48, .var 49, .var 50, .var 51, .var 52, .var 53, .var 54, .var 55, .var 56, .var 57, .var 58, .var 59, .var 60, .var 61, .var 62, .var 63, .var 64, .var 65, .var 66, .var 67, .var 68, .var 69, .var 70, .var 71, .var 72, .var 73]) (
         .prim (.bin .sub) [.var 2, .int .i64 (1)] <|
         .prim (.inb 18) [.var 6, .var 158] <|
         .prim (.get 18 0) [.var 6, .var 158] <|
         .prim (.get 18 1) [.var 6, .var 158] <|
         .prim (.get 18 2) [.var 6, .var 158] <|
         .prim (.get 18 3) [.var 6, .var 158] <|
         .prim (.get 18 4) [.var 6, .var 158] <|
         .prim (.get 18 5) [.var 6, .var 158] <|
         .prim (.get 18 6) [.var 6, .var 158] <|
         .prim (.get 18 7) [.var 6, .var 158] <|
         .prim (.get 18 8) [.var 6, .var 158] <|
         .prim (.get 18 9) [.var 6, .var 158] <|
         .prim (.get 18 10) [.var 6, .var 158] <|
         .prim (.get 18 11) [.var 6, .var 158] <|
         .prim (.get 18 12) [.var 6, .var 158] <|
         .prim (.get 18 13) [.var 6, .var 158] <|
         .prim (.get 18 14) [.var 6, .var 158] <|
         .prim (.get 18 15) [.var 6, .var 158] <|
         .prim (.get 18 16) [.var 6, .var 158] <|
         .prim (.get 18 17) [.var 6, .var 158] <|
         .prim (.inb 18) [.var 6, .var 2] <|
         .prim (.get 18 0) [.var 6, .var 2] <|
         .prim (.get 18 1) [.var 6, .var 2] <|
         .prim (.get 18 2) [.var 6, .var 2] <|
         .prim (.get 18 3) [.var 6, .var 2] <|
         .prim (.get 18 4) [.var 6, .var 2] <|
         .prim (.get 18 5) [.var 6, .var 2] <|
         .prim (.get 18 6) [.var 6, .var 2] <|
         .prim (.get 18 7) [.var 6, .var 2] <|
         .prim (.get 18 8) [.var 6, .var 2] <|
         .prim (.get 18 9) [.var 6, .var 2] <|
         .prim (.get 18 10) [.var 6, .var 2] <|
         .prim (.get 18 11) [.var 6, .var 2] <|
         .prim (.get 18 12) [.var 6, .var 2] <|
         .prim (.get 18 13) [.var 6, .var 2] <|
         .prim (.get 18 14) [.var 6, .var 2] <|
         .prim (.get 18 15) [.var 6, .var 2] <|
         .prim (.get 18 16) [.var 6, .var 2] <|
         .prim (.get 18 17) [.var 6, .var 2] <|
         .prim (.bin .sub) [.var 2, .int .i64 (1)] <|
         .prim (.inb 40) [.var 7, .var 197] <|
         .prim (.get 40 0) [.var 7, .var 197] <|
         .prim (.get 40 1) [.var 7, .var 197] <|
         .prim (.get 40 2) [.var 7, .var 197] <|
         .prim (.get 40 3) [.var 7, .var 197] <|
         .prim (.get 40 4) [.var 7, .var 197] <|
         .prim (.get 40 5) [.var 7, .var 197] <|
         .prim (.get 40 6) [.var 7, .var 197] <|
         .prim (.get 40 7) [.var 7, .var 197] <|
         .prim (.get 40 8) [.var 7, .var 197] <|
         .prim (.get 40 9) [.var 7, .var 197] <|
         .prim (.get 40 10) [.var 7, .var 197] <|
         .prim (.get 40 11) [.var 7, .var 197] <|
         .prim (.get 40 12) [.var 7, .var 197] <|
         .prim (.get 40 13) [.var 7, .var 197] <|
         .prim (.get 40 14) [.var 7, .var 197] <|
         .prim (.get 40 15) [.var 7, .var 197] <|
         .prim (.get 40 16) [.var 7, .var 197] <|
         .prim (.get 40 17) [.var 7, .var 197] <|
         .prim (.get 40 18) [.var 7, .var 197] <|
         .prim (.get 40 19) [.var 7, .var 197] <|
         .prim (.get 40 20) [.var 7, .var 197] <|
         .prim (.get 40 21) [.var 7, .var 197] <|
         .prim (.get 40 22) [.var 7, .var 197] <|
         .prim (.get 40 23) [.var 7, .var 197] <|
         .prim (.get 40 24) [.var 7, .var 197] <|
         .prim (.get 40 25) [.var 7, .var 197] <|
         .prim (.get 40 26) [.var 7, .var 197] <|
         .prim (.get 40 27) [.var 7, .var 197] <|
         .prim (.get 40 28) [.var 7, .var 197] <|
         .prim (.get 40 29) [.var 7, .var 197] <|
         .prim (.get 40 30) [.var 7, .var 197] <|
         .prim (.get 40 31) [.var 7, .var 197] <|
         .prim (.get 40 32) [.var 7, .var 197] <|
         .prim (.get 40 33) [.var 7, .var 197] <|
         .prim (.get 40 34) [.var 7, .var 197] <|
         .prim (.get 40 35) [.var 7, .var 197] <|
         .call F.dens_Ahead [.agg [.var 160, .var 161, .var 162, .var 163, .var 164, .var 165, .var 166, .var 167, .var 168, .var 169, .var 170, .var 171, .var 172, .var 173, .var 174, .var 175, .var 176, .var 177], .agg [.var 179, .var 180, .var 181, .var 182, .var 183, .var 184, .var 185, .var 186, .var 187, .var 188, .var 189, .var 190, .var 191, .var 192, .var 193, .var 194, .var 195, .var 196], .agg [.var 199, .var 200, .var 201, .var 202, .var 203, .var 204, .var 205, .var 206, .var 207, .var 208, .var 209, .var 210, .var 211, .var 212, .var 213, .var 214, .var 215, .var 216, .var 217, .var 218, .var 219, .var 220, .var 221, .var 222, .var 223, .var 224, .var 225, .var 226, .var 227, .var 228, .var 229, .var 230, .var 231, .var 232, .var 233, .var 234]] [.agg 3] <|
         .prim (.bin .add) [.var 2, .int .i64 (1)] <|
         .prim (.inb 18) [.var 6, .var 238] <|
         .prim (.get 18 0) [.var 6, .var 238] <|
         .prim (.get 18 1) [.var 6, .var 238] <|
         .prim (.get 18 2) [.var 6, .var 238] <|
         .prim (.get 18 3) [.var 6, .var 238] <|
         .prim (.get 18 4) [.var 6, .var 238] <|
         .prim (.get 18 5) [.var 6, .var 238] <|
         .prim (.get 18 6) [.var 6, .var 238] <|
         .prim (.get 18 7) [.var 6, .var 238] <|
         .prim (.get 18 8) [.var 6, .var 238] <|
         .prim (.get 18 9) [.var 6, .var 238] <|
         .prim (.get 18 10) [.var 6, .var 238] <|
         .prim (.get 18 11) [.var 6, .var 238] <|
         .prim (.get 18 12) [.var 6, .var 238] <|
         .prim (.get 18 13) [.var 6, .var 238] <|
         .prim (.get 18 14) [.var 6, .var 238] <|
         .prim (.get 18 15) [.var 6, .var 238] <|
         .prim (.get 18 16) [.var 6, .var 238] <|
         .prim (.get 18 17) [.var 6, .var 238] <|
         .prim (.inb 18) [.var 6, .var 2] <|
         .prim (.get 18 0) [.var 6, .var 2] <|
         .prim (.get 18 1) [.var 6, .var 2] <|
         .prim (.get 18 2) [.var 6, .var 2] <|
         .prim (.get 18 3) [.var 6, .var 2] <|
         .prim (.get 18 4) [.var 6, .var 2] <|
         .prim (.get 18 5) [.var 6, .var 2] <|
         .prim (.get 18 6) [.var 6, .var 2] <|
         .prim (.get 18 7) [.var 6, .var 2] <|
         .prim (.get 18 8) [.var 6, .var 2] <|
         .prim (.get 18 9) [.var 6, .var 2] <|
         .prim (.get 18 10) [.var 6, .var 2] <|
         .prim (.get 18 11) [.var 6, .var 2] <|
         .prim (.get 18 12) [.var 6, .var 2] <|
         .prim (.get 18 13) [.var 6, .var 2] <|
         .prim (.get 18 14) [.var 6, .var 2] <|
         .prim (.get 18 15) [.var 6, .var 2] <|
         .prim (.get 18 16) [.var 6, .var 2] <|
         .prim (.get 18 17) [.var 6, .var 2] <|
         .call F.dens_Ahead [.agg [.var 240, .var 241, .var 242, .var 243, .var 244, .var 245, .var 246, .var 247, .var 248, .var 249, .var 250, .var 251, .var 252, .var 253, .var 254, .var 255, .var 256, .var 257], .agg [.var 259, .var 260, .var 261, .var 262, .var 263, .var 264, .var 265, .var 266, .var 267, .var 268, .var 269, .var 270, .var 271, .var 272, .var 273, .var 274, .var 275, .var 276], .agg [.var 120, .var 121, .var 122, .var 123, .var 124, .var 125, .var 126, .var 127, .var 128, .var 129, .var 130, .var 131, .var 132, .var 133, .var 134, .var 135, .var 136, .var 137, .var 138, .var 139, .var 140, .var 141, .var 142, .var 143, .var 144, .var 145, .var 146, .var 147, .var 148, .var 149, .var 150, .var 151, .var 152, .var 153, .var 154, .var 155]] [.agg 3] <|
         .prim (.inb 3) [.var 0, .var 2] <|
         .prim (.get 3 0) [.var 0, .var 2] <|
         .prim (.get 3 1) [.var 0, .var 2] <|
         .prim (.get 3 2) [.var 0, .var 2] <|
         .prim (.mk 2) [.var 281, .var 282, .var 283, .var 235, .var 236, .var 237] <|
         .call F.rat_Product [.one (.var 284)] [.agg 3] <|
         .prim (.bin .add) [.var 2, .int .i64 (1)] <|
         .prim (.inb 3) [.var 0, .var 288] <|
         .prim (.get 3 0) [.var 0, .var 288] <|
         .prim (.get 3 1) [.var 0, .var 288] <|
         .prim (.get 3 2) [.var 0, .var 288] <|
         .prim (.mk 2) [.var 290, .var 291, .var 292, .var 277, .var 278, .var 279] <|
         .call F.rat_Product [.one (.var 293)] [.agg 3] <|
         .call F.penumbraref03_Is [.agg [.var 285, .var 286, .var 287], .agg [.var 294, .var 295, .var 296]] [.one] <|
         .prim .not [.var 297] <|
         .ite (.var 298) (
          .ret [.one (.bol false)]) (
          .prim (.bin .add) [.var 2, .int .i64 (1)] <|
          .jump 0 [.var 0, .var 1, .var 299, .var 3, .var 4, .var 5, .var 6, .var 7, .var 8, .var 9, .var 10, .var 11, .var 12, .var 13, .var 14, .var 15, .var 16, .var 17, .var 18, .var 19, .var 20, .var 21, .var 22, .var 23, .var 24, .var 25, .var 26, .var 27, .var 28, .var 29, .var 30, .var 31, .var 32, .var 33, .var 34, .var 35, .var 36, .var 37, .var 38, .var 39, .var 40, .var 41, .var 42, .var 43, .var 44, .var 45, .var 46, .var 47, .var 48, .var 49, .var 50, .var 51, .var 52, .var 53, .var 54, .var 55, .var 56, .var 57, .var 58, .var 59, .var 60, .var 61, .var 62, .var 63, .var 64, .var 65, .var 66, .var 67, .var 68, .var 69, .var 70, .var 71, .var 72, .var 73]))))) (
      .ret [.one (.bol true)])))))

theorem tree_penumbralaw18_WeighSteps : symFunc Go.Proofs.Try.prog ⟨fun f => [58].contains f, fun f i => if f = 4 ∧ i = 8 then [⟨[(1, .s (.one (.lp 0 0))), (3, .s (.one (.at (.var 0)))), (5, .s (.one (.at (.var 1)))), (6, .s (.one (.at (.var 2))))], [], [(0, .box [.at (.var 3), .at (.var 4), .at (.var 5), .at (.var 6), .at (.var 7), .at (.var 8), .at (.var 9), .at (.var 10), .at (.var 11), .at (.var 12), .at (.var 13), .at (.var 14), .at (.var 15), .at (.var 16), .at (.var 17), .at (.var 18), .at (.var 19), .at (.var 20), .at (.var 21), .at (.var 22), .at (.var 23), .at (.var 24), .at (.var 25), .at (.var 26), .at (.var 27), .at (.var 28), .at (.var 29), .at (.var 30), .at (.var 31), .at (.var 32), .at (.var 33), .at (.var 34), .at (.var 35), .at (.var 36), .at (.var 37), .at (.var 38), .at (.var 39), .at (.var 40), .at (.var 41), .at (.var 42), .at (.var 43), .at (.var 44), .at (.var 45), .at (.var 46), .at (.var 47), .at (.var 48), .at (.var 49), .at (.var 50), .at (.var 51), .at (.var 52), .at (.var 53), .at (.var 54), .at (.var 55), .at (.var 56), .at (.var 57), .at (.var 58), .at (.var 59), .at (.var 60), .at (.var 61), .at (.var 62), .at (.var 63), .at (.var 64), .at (.var 65), .at (.var 66), .at (.var 67), .at (.var 68), .at (.var 69), .at (.var 70), .at (.var 71), .at (.var 72), .at (.var 73)] 36 false)], 1, 74⟩] else [], fun f i => [], fun f => [60, 61, 64, 65].contains f⟩ 400 F.penumbralaw18_WeighSteps [.agg 71] = some ir_penumbralaw18_WeighSteps := by kernel_rfl
end Go.Px
namespace Go.Px.Na
open Go.RowKit
open Go.Proofs.Try (prog)
section
variable {r : RP} {p : Pa}
theorem J_get (h : p.may) {i : Nat} (hi : i ≤ p.n) : (p.J.map cr)[i]? = some (cr (p.q i)) := by
  unfold Pa.J
  rw [if_pos h]
  simp [show i < p.n + 1 by omega]
theorem J_may (h : p.may) : p.J.length = p.n + 1 := by unfold Pa.J; rw [if_pos h]; simp
theorem J_not (h : ¬p.may) : p.J = [] := by unfold Pa.J; rw [if_neg h]
/-- The step from one way to the next. -/
theorem q_step {i : Nat} (h : i + 2 < p.n) (c1 : (p.e i).hops = 0) (c2 : (p.e (i + 1)).hops = 0) (hd : ¬(p.e (i + 1)).map.det = 0) :
    p.q (i + 1) * ahd (p.s i) (p.s (i + 1)) (p.e i).map = p.q (i + 2) * ahd (p.s (i + 2)) (p.s (i + 1)) (inv (p.e (i + 1)).map) := by
  have hb := b_step (p := p) (k := p.n - 3 - i) (j := i + 1) (by omega)
  rw [if_neg hd] at hb
  have ha : p.a (i + 2) = p.a (i + 1) * ahd (p.s i) (p.s (i + 1)) (p.e i).map := rfl
  rw [Pa.q, if_neg (by omega), if_pos ⟨by omega, c1⟩, Pa.q, if_neg (by omega), if_pos ⟨by omega, c2⟩, hb, ha]
  grind
theorem pure_WeighSteps (h : NP 1048576 r p) (hm : Num 1048576 r.merge p.merge) : PureCalls prog F.penumbralaw18_WeighSteps [.agg r.c] [.one (.bool true)] := by
  refine symFunc_sound hmix tree_penumbralaw18_WeighSteps (by kernel_rfl) rfl ?_
  unfold ir_penumbralaw18_WeighSteps
  have k := f_Densities h
  have hn : r.sp.length = p.n := h.spn
  have he := h.edn
  have hS := h.sm
  simp only [RP.c, RP.tl, RE.c, RCam.c] at k ⊢
  simp only [HH, gW, gD, V3.l, M4.l, Fr.l, Sp.l, RV.l, RM.l, RF.l, RS.l]
  refine call_step k rfl ?_
  try simp only [HH, gW, gD, V3.l, M4.l, Fr.l, Sp.l, RV.l, RM.l, RF.l, RS.l]
  by_cases hy : p.may
  rotate_left
  · refine primS (.int .i64 (r.sp.length : Int)) rfl ?_
    refine call_step f_fixed18 rfl ?_
    try simp only [HH, gW, gD, V3.l, M4.l, Fr.l, Sp.l, RV.l, RM.l, RF.l, RS.l]
    refine primS (.bool false) rfl ?_
    refine itF rfl ?_
    refine primS (.int .i64 0) (by rw [J_not hy]; rfl) ?_
    refine primS (.bool true) rfl ?_
    refine itT rfl ?_
    refine call_step f_fixed18 rfl ?_
    try simp only [HH, gW, gD, V3.l, M4.l, Fr.l, Sp.l, RV.l, RM.l, RF.l, RS.l]
    exact ret_step rfl
  have hy' := hy
  obtain ⟨⟨h1, h16⟩, hE, hw⟩ := hy'
  have hJ := J_may hy
  refine primS (.int .i64 (p.n : Int)) (by rw [← hn]; rfl) ?_
  refine call_step f_fixed18 rfl ?_
  try simp only [HH, gW, gD, V3.l, M4.l, Fr.l, Sp.l, RV.l, RM.l, RF.l, RS.l]
  refine primS (.bool false) rfl ?_
  refine itF rfl ?_
  refine primS (.int .i64 ((p.n + 1 : Nat) : Int)) ((rw_len _).trans (by rw [hJ])) ?_
  refine primS (.bool false) (d_eql.trans (by rw [decide_eq_false (by omega)])) ?_
  refine itF rfl ?_
  refine primS (.int .i64 ((p.n + 1 : Nat) : Int)) ((rw_len _).trans (by rw [hJ])) ?_
  refine primS (.int .i64 ((p.n + 1 : Nat) : Int)) ((d_add64 (by omega) (by omega)).trans (by simp)) ?_
  refine primS (.bool false) (d_neq.trans (by rw [decide_eq_false (by omega)])) ?_
  refine itF rfl ?_
  refine loop_st (fun i : Nat => [rw' p.J, .int .i64 (p.n : Int), .int .i64 ((i + 1 : Nat) : Int)] ++ gW [r.start] ++ [spl r.sp, edl r.ed] ++ r.tl) (fun i => i ≤ p.n) (fun i => p.n - i) 0 (Nat.zero_le _) rfl (fun _ => rfl) fun i hi X hX => ?_
  simp only [RP.tl, RE.c, RCam.c] at hX ⊢
  simp only [HH, gW, gD, V3.l, M4.l, Fr.l, Sp.l, RV.l, RM.l, RF.l, RS.l]
  refine primS (.int .i64 ((i + 2 : Nat) : Int)) ((d_add64 (by omega) (by omega)).trans (by simp; omega)) ?_
  refine primS (.bool (decide _)) d_lss ?_
  refine itD rfl (fun c1 => ?_) (fun c1 => ?_)
  rotate_left
  · exact ret_step rfl
  have hlt : i + 2 < p.n := by omega
  have hX1 := hX (i + 1) (by omega) (by omega)
  obtain ⟨e, he1, hE1⟩ := h.ed' (i := i) (by omega)
  obtain ⟨g, hg1, hG1⟩ := h.ed' (i := i + 1) (by omega)
  obtain ⟨a, ha, hA⟩ := h.sp' (i := i) (by omega)
  obtain ⟨b, hb, hB⟩ := h.sp' (i := i + 1) (by omega)
  obtain ⟨c, hc, hC⟩ := h.sp' (i := i + 2) (by omega)
  refine primS (.int .i64 (i : Int)) ((d_sub64 (by omega) (by omega)).trans (by congr 2; omega)) ?_
  refine primS (.bool true) (edl_inb (by omega)) ?_
  refine primS (.int .i64 e.hops) (ed_hops he1) ?_
  rw [hE1.hops]
  refine primS (.bool (decide _)) d_neq ?_
  refine itD rfl (fun c2 => ?_) (fun c2 => ?_)
  · refine primS (.int .i64 ((i + 1 + 1 : Nat) : Int)) ((d_add64 (by omega) (by omega)).trans (by simp)) ?_
    exact jump_step rfl hX1
  refine primS (.bool true) (edl_inb (by omega)) ?_
  refine primS (.int .i64 g.hops) (ed_hops hg1) ?_
  rw [hG1.hops]
  refine primS (.bool (decide _)) d_neq ?_
  refine itD rfl (fun c3 => ?_) (fun c3 => ?_)
  · refine primS (.int .i64 ((i + 1 + 1 : Nat) : Int)) ((d_add64 (by omega) (by omega)).trans (by simp)) ?_
    exact jump_step rfl hX1
  refine primS (.bool true) (edl_inb (by omega)) ?_
  try simp only [HH, gW, gD, V3.l, M4.l, Fr.l, Sp.l, RV.l, RM.l, RF.l, RS.l]
  refine get_em (x := .var 7) (i := .var 2) hg1 (fun _ => rfl) (fun _ => rfl) ?_
  simp only [HH, gW, gD, V3.l, M4.l, Fr.l, Sp.l, RV.l, RM.l, RF.l, RS.l]
  by_cases hd : (p.e (i + 1)).map.det = 0
  · refine call_step (f_affine_Inverse_n hd hG1.map (by decide)) rfl ?_
    simp only [HH, gW, gD, V3.l, M4.l, Fr.l, Sp.l, RV.l, RM.l, RF.l, RS.l]
    refine primS (.bool true) rfl ?_
    refine itT rfl ?_
    refine primS (.int .i64 ((i + 1 + 1 : Nat) : Int)) ((d_add64 (by omega) (by omega)).trans (by simp)) ?_
    exact jump_step rfl hX1
  have nI := NM.of hG1.map.sm.inv
  refine call_step (f_affine_Inverse_t hd hG1.map (by decide)) rfl ?_
  simp only [HH, gW, gD, V3.l, M4.l, Fr.l, Sp.l, RV.l, RM.l, RF.l, RS.l]
  refine primS (.bool false) rfl ?_
  refine itF rfl ?_
  refine primS (.int .i64 (i : Int)) ((d_sub64 (by omega) (by omega)).trans (by congr 2; omega)) ?_
  refine primS (.bool true) (spl_inb (by omega)) ?_
  try simp only [HH, gW, gD, V3.l, M4.l, Fr.l, Sp.l, RV.l, RM.l, RF.l, RS.l]
  refine get_sp (x := .var 6) (i := .var 158) ha (fun _ => rfl) (fun _ => rfl) ?_
  simp only [HH, gW, gD, V3.l, M4.l, Fr.l, Sp.l, RV.l, RM.l, RF.l, RS.l]
  refine primS (.bool true) (spl_inb (by omega)) ?_
  try simp only [HH, gW, gD, V3.l, M4.l, Fr.l, Sp.l, RV.l, RM.l, RF.l, RS.l]
  refine get_sp (x := .var 6) (i := .var 2) hb (fun _ => rfl) (fun _ => rfl) ?_
  simp only [HH, gW, gD, V3.l, M4.l, Fr.l, Sp.l, RV.l, RM.l, RF.l, RS.l]
  refine primS (.int .i64 (i : Int)) ((d_sub64 (by omega) (by omega)).trans (by congr 2; omega)) ?_
  refine primS (.bool true) (edl_inb (by omega)) ?_
  try simp only [HH, gW, gD, V3.l, M4.l, Fr.l, Sp.l, RV.l, RM.l, RF.l, RS.l]
  refine get_em (x := .var 7) (i := .var 197) he1 (fun _ => rfl) (fun _ => rfl) ?_
  simp only [HH, gW, gD, V3.l, M4.l, Fr.l, Sp.l, RV.l, RM.l, RF.l, RS.l]
  refine call_step (f_dens_Ahead hA hB hE1.map (by decide)) rfl ?_
  simp only [HH, gW, gD, V3.l, M4.l, Fr.l, Sp.l, RV.l, RM.l, RF.l, RS.l]
  have nO := Num.of (SS.ahd2 hA.sm hB.sm hE1.map.sm)
  refine primS (.int .i64 ((i + 2 : Nat) : Int)) ((d_add64 (by omega) (by omega)).trans (by simp; omega)) ?_
  refine primS (.bool true) (spl_inb (by omega)) ?_
  try simp only [HH, gW, gD, V3.l, M4.l, Fr.l, Sp.l, RV.l, RM.l, RF.l, RS.l]
  refine get_sp (x := .var 6) (i := .var 238) hc (fun _ => rfl) (fun _ => rfl) ?_
  simp only [HH, gW, gD, V3.l, M4.l, Fr.l, Sp.l, RV.l, RM.l, RF.l, RS.l]
  refine primS (.bool true) (spl_inb (by omega)) ?_
  try simp only [HH, gW, gD, V3.l, M4.l, Fr.l, Sp.l, RV.l, RM.l, RF.l, RS.l]
  refine get_sp (x := .var 6) (i := .var 2) hb (fun _ => rfl) (fun _ => rfl) ?_
  simp only [HH, gW, gD, V3.l, M4.l, Fr.l, Sp.l, RV.l, RM.l, RF.l, RS.l]
  refine call_step (f_dens_Ahead hC hB nI (by decide)) rfl ?_
  simp only [HH, gW, gD, V3.l, M4.l, Fr.l, Sp.l, RV.l, RM.l, RF.l, RS.l]
  have nF := Num.of (SS.ahd2 hC.sm hB.sm nI.sm)
  have q1 := Num.of (hS.q h16 hw (i + 1))
  have q2 := Num.of (hS.q h16 hw (i + 2))
  refine primS (.bool true) (rw_inb (by omega)) ?_
  try simp only [HH, gW, gD, V3.l, M4.l, Fr.l, Sp.l, RV.l, RM.l, RF.l, RS.l]
  refine get_rr (x := .var 0) (i := .var 2) (J_get hy (by omega)) (fun _ => rfl) (fun _ => rfl) ?_
  simp only [HH, gW, gD, V3.l, M4.l, Fr.l, Sp.l, RV.l, RM.l, RF.l, RS.l]
  refine primS (rlN2 q1 nO) rfl ?_
  refine cs1 (n_rat_Product_2 (q1.mono (by decide)) (nO.mono (by decide)) rfl) ?_
  simp only [HH, gW, gD, V3.l, M4.l, Fr.l, Sp.l, RV.l, RM.l, RF.l, RS.l]
  refine primS (.int .i64 ((i + 2 : Nat) : Int)) ((d_add64 (by omega) (by omega)).trans (by simp; omega)) ?_
  refine primS (.bool true) (rw_inb (by omega)) ?_
  try simp only [HH, gW, gD, V3.l, M4.l, Fr.l, Sp.l, RV.l, RM.l, RF.l, RS.l]
  refine get_rr (x := .var 0) (i := .var 288) (J_get hy (by omega)) (fun _ => rfl) (fun _ => rfl) ?_
  simp only [HH, gW, gD, V3.l, M4.l, Fr.l, Sp.l, RV.l, RM.l, RF.l, RS.l]
  refine primS (rlN2 q2 nF) rfl ?_
  refine cs1 (n_rat_Product_2 (q2.mono (by decide)) (nF.mono (by decide)) rfl) ?_
  simp only [HH, gW, gD, V3.l, M4.l, Fr.l, Sp.l, RV.l, RM.l, RF.l, RS.l]
  have nx := Num.of (q1.sm.mul nO.sm)
  have ny := Num.of (q2.sm.mul nF.sm)
  refine call_step (f_Is_t (q_step hlt (Classical.not_not.1 c2) (Classical.not_not.1 c3) hd) nx ny (by decide)) rfl ?_
  simp only [HH, gW, gD, V3.l, M4.l, Fr.l, Sp.l, RV.l, RM.l, RF.l, RS.l]
  refine primS (.bool false) rfl ?_
  refine itF rfl ?_
  refine primS (.int .i64 ((i + 1 + 1 : Nat) : Int)) ((d_add64 (by omega) (by omega)).trans (by simp)) ?_
  exact jump_step rfl hX1
end
end Go.Px.Na

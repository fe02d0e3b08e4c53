/- Fw: what each way to find a path counts: paths, and what the program makes of them from the light and from the eye. -/
import Derived.Test.YtnohcccgfefnkaaGreatFf
set_option maxRecDepth 20000
set_option maxHeartbeats 40000000
set_option linter.unusedVariables false
set_option linter.unusedSimpArgs false
namespace Go.Px
open Go.RowKit
def ir_weigh_may : IR :=
 .prim .len [.var 3] <|
 .prim (.bin .geq) [.var 71, .int .i64 (1)] <|
 .ite (.var 72) (
  .prim (.bin .leq) [.var 71, .int .i64 (16)] <|
  .ite (.var 73) (
   .prim .len [.var 4] <|
   .prim (.bin .sub) [.var 71, .int .i64 (1)] <|
   .prim (.bin .eql) [.var 74, .var 75] <|
   .ite (.var 76) (
    .prim (.bin .geq) [.var 63, .int .i64 (1)] <|
    .ite (.var 77) (
     .prim (.bin .leq) [.var 63, .int .i64 (16)] <|
     .ite (.var 78) (
      .prim (.bin .geq) [.var 64, .int .i64 (1)] <|
      .ite (.var 79) (
       .prim (.bin .leq) [.var 64, .int .i64 (16)] <|
       .ret [.one (.var 80)]) (
       .ret [.one (.bol false)])) (
      .ret [.one (.bol false)])) (
     .ret [.one (.bol false)])) (
    .ret [.one (.bol false)])) (
   .ret [.one (.bol false)])) (
  .ret [.one (.bol false)])

def ir_weigh_fromLight : IR :=
 .call F.rat_Of [.one (.int .i64 (1)), .one (.int .i64 (1))] [.agg 3] <|
 .call F.rat_Read [.agg [.var 0, .var 1, .var 2]] [.agg 3] <|
 .prim (.mk 2) [.var 71, .var 72, .var 73, .var 74, .var 75, .var 76] <|
 .prim .len [.var 4] <|
 .loop [.var 4, .var 78, .int .i64 (0), .var 0, .var 1, .var 2, .var 3, .var 5, .var 6, .var 7, .var 8, .var 9, .var 10, .var 11, .var 12, .var 13, .var 14, .var 15, .var 16, .var 17, .var 18, .var 19, .var 20, .var 21, .var 22, .var 23, .var 24, .var 25, .var 26, .var 27, .var 28, .var 29, .var 30, .var 31, .var 32, .var 33, .var 34, .var 35, .var 36, .var 37, .var 38, .var 39, .var 40, .var 41, .var 42, .var 43, .var 44, .var 45, .var 46, .var 47, .var 48, .var 49, .var 50, .var 51, .var 52, .var 53, .var 54, .var 55, .var 56, .var 57, .var 58, .var 59, .var 60, .var 61, .var 62, .var 63, .var 64, .var 65, .var 66, .var 67, .var 68, .var 69, .var 70, .var 77] (
  .prim (.bin .lss) [.var 2, .var 1] <|
  .ite (.var 74) (
   .prim (.inb 40) [.var 0, .var 2] <|
   .prim (.get 40 0) [.var 0, .var 2] <|
   .prim (.get 40 1) [.var 0, .var 2] <|
   .prim (.get 40 2) [.var 0, .var 2] <|
   .prim (.get 40 3) [.var 0, .var 2] <|
   .prim (.get 40 4) [.var 0, .var 2] <|
   .prim (.get 40 5) [.var 0, .var 2] <|
   .prim (.get 40 6) [.var 0, .var 2] <|
   .prim (.get 40 7) [.var 0, .var 2] <|
   .prim (.get 40 8) [.var 0, .var 2] <|
   .prim (.get 40 9) [.var 0, .var 2] <|
   .prim (.get 40 10) [.var 0, .var 2] <|
   .prim (.get 40 11) [.var 0, .var 2] <|
   .prim (.get 40 12) [.var 0, .var 2] <|
   .prim (.get 40 13) [.var 0, .var 2] <|
   .prim (.get 40 14) [.var 0, .var 2] <|
   .prim (.get 40 15) [.var 0, .var 2] <|
   .prim (.get 40 16) [.var 0, .var 2] <|
   .prim (.get 40 17) [.var 0, .var 2] <|
   .prim (.get 40 18) [.var 0, .var 2] <|
   .prim (.get 40 19) [.var 0, .var 2] <|
   .prim (.get 40 20) [.var 0, .var 2] <|
   .prim (.get 40 21) [.var 0, .var 2] <|
   .prim (.get 40 22) [.var 0, .var 2] <|
   .prim (.get 40 23) [.var 0, .var 2] <|
   .prim (.get 40 24) [.var 0, .var 2] <|
   .prim (.get 40 25) [.var 0, .var 2] <|
   .prim (.get 40 26) [.var 0, .var 2] <|
   .prim (.get 40 27) [.var 0, .var 2] <|
   .prim (.get 40 28) [.var 0, .var 2] <|
   .prim (.get 40 29) [.var 0, .var 2] <|
   .prim (.get 40 30) [.var 0, .var 2] <|
   .prim (.get 40 31) [.var 0, .var 2] <|
   .prim (.get 40 32) [.var 0, .var 2] <|
   .prim (.get 40 33) [.var 0, .var 2] <|
   .prim (.get 40 34) [.var 0, .var 2] <|
   .prim (.get 40 35) [.var 0, .var 2] <|
   .prim (.get 40 36) [.var 0, .var 2] <|
   .prim (.get 40 37) [.var 0, .var 2] <|
   .prim (.get 40 38) [.var 0, .var 2] <|
   .prim (.get 40 39) [.var 0, .var 2] <|
   .prim (.bin .add) [.var 2, .int .i64 (1)] <|
   .prim (.inb 3) [.var 73, .var 116] <|
   .prim (.get 3 0) [.var 73, .var 116] <|
   .prim (.get 3 1) [.var 73, .var 116] <|
   .prim (.get 3 2) [.var 73, .var 116] <|
   .prim (.inb 18) [.var 6, .var 2] <|
   .prim (.get 18 0) [.var 6, .var 2] <|
   .prim (.get 18 1) [.var 6, .var 2] <|
   .prim (.get 18 2) [.var 6, .var 2] <|
   .prim (.get 18 3) [.var 6, .var 2] <|
   .prim (.get 18 4) [.var 6, .var 2] <|
   .prim (.get 18 5) [.var 6, .var 2] <|
   .prim (.get 18 6) [.var 6, .var 2] <|
   .prim (.get 18 7) [.var 6, .var 2] <|
   .prim (.get 18 8) [.var 6, .var 2] <|
   .prim (.get 18 9) [.var 6, .var 2] <|
   .prim (.get 18 10) [.var 6, .var 2] <|
   .prim (.get 18 11) [.var 6, .var 2] <|
   .prim (.get 18 12) [.var 6, .var 2] <|
   .prim (.get 18 13) [.var 6, .var 2] <|
   .prim (.get 18 14) [.var 6, .var 2] <|
   .prim (.get 18 15) [.var 6, .var 2] <|
   .prim (.get 18 16) [.var 6, .var 2] <|
   .prim (.get 18 17) [.var 6, .var 2] <|
   .prim (.bin .add) [.var 2, .int .i64 (1)] <|
   .prim (.inb 18) [.var 6, .var 140] <|
   .prim (.get 18 0) [.var 6, .var 140] <|
   .prim (.get 18 1) [.var 6, .var 140] <|
   .prim (.get 18 2) [.var 6, .var 140] <|
   .prim (.get 18 3) [.var 6, .var 140] <|
   .prim (.get 18 4) [.var 6, .var 140] <|
   .prim (.get 18 5) [.var 6, .var 140] <|
   .prim (.get 18 6) [.var 6, .var 140] <|
   .prim (.get 18 7) [.var 6, .var 140] <|
   .prim (.get 18 8) [.var 6, .var 140] <|
   .prim (.get 18 9) [.var 6, .var 140] <|
   .prim (.get 18 10) [.var 6, .var 140] <|
   .prim (.get 18 11) [.var 6, .var 140] <|
   .prim (.get 18 12) [.var 6, .var 140] <|
   .prim (.get 18 13) [.var 6, .var 140] <|
   .prim (.get 18 14) [.var 6, .var 140] <|
   .prim (.get 18 15) [.var 6, .var 140] <|
   .prim (.get 18 16) [.var 6, .var 140] <|
   .prim (.get 18 17) [.var 6, .var 140] <|
   .call F.dens_Ahead [.agg [.var 122, .var 123, .var 124, .var 125, .var 126, .var 127, .var 128, .var 129, .var 130, .var 131, .var 132, .var 133, .var 134, .var 135, .var 136, .var 137, .var 138, .var 139], .agg [.var 142, .var 143, .var 144, .var 145, .var 146, .var 147, .var 148, .var 149, .var 150, .var 151, .var 152, .var 153, .var 154, .var 155, .var 156, .var 157, .var 158, .var 159], .agg [.var 76, .var 77, .var 78, .var 79, .var 80, .var 81, .var 82, .var 83, .var 84, .var 85, .var 86, .var 87, .var 88, .var 89, .var 90, .var 91, .var 92, .var 93, .var 94, .var 95, .var 96, .var 97, .var 98, .var 99, .var 100, .var 101, .var 102, .var 103, .var 104, .var 105, .var 106, .var 107, .var 108, .var 109, .var 110, .var 111]] [.agg 3] <|
   .prim (.mk 2) [.var 118, .var 119, .var 120, .var 160, .var 161, .var 162] <|
   .call F.rat_Product [.one (.var 163)] [.agg 3] <|
   .prim (.mk 1) [.var 164, .var 165, .var 166] <|
   .prim (.app 3 56) [.var 73, .var 167] <|
   .prim (.bin .add) [.var 2, .int .i64 (1)] <|
   .jump 0 [.var 0, .var 1, .var 169, .var 3, .var 4, .var 5, .var 6, .var 7, .var 8, .var 9, .var 10, .var 11, .var 12, .var 13, .var 14, .var 15, .var 16, .var 17, .var 18, .var 19, .var 20, .var 21, .var 22, .var 23, .var 24, .var 25, .var 26, .var 27, .var 28, .var 29, .var 30, .var 31, .var 32, .var 33, .var 34, .var 35, .var 36, .var 37, .var 38, .var 39, .var 40, .var 41, .var 42, .var 43, .var 44, .var 45, .var 46, .var 47, .var 48, .var 49, .var 50, .var 51, .var 52, .var 53, .var 54, .var 55, .var 56, .var 57, .var 58, .var 59, .var 60, .var 61, .var 62, .var 63, .var 64, .var 65, .var 66, .var 67, .var 68, .var 69, .var 70, .var 71, .var 72, .var 168]) (
   .ret [.one (.var 73)]))

def ir_weigh_fromEye : IR :=
 .prim .len [.var 3] <|
 .prim (.bin .add) [.var 71, .int .i64 (1)] <|
 .prim (.make 56) [.var 72, .var 72, .bol false, .nil, .nil] <|
 .call F.rat_Of [.one (.int .i64 (1)), .one (.int .i64 (1))] [.agg 3] <|
 .prim (.inb 3) [.var 73, .var 71] <|
 .prim (.setl 3 0) [.var 73, .var 71, .var 74, .var 75, .var 76] <|
 .prim (.bin .sub) [.var 71, .int .i64 (1)] <|
 .prim (.inb 18) [.var 3, .var 79] <|
 .prim (.get 18 0) [.var 3, .var 79] <|
 .prim (.get 18 1) [.var 3, .var 79] <|
 .prim (.get 18 2) [.var 3, .var 79] <|
 .prim (.get 18 3) [.var 3, .var 79] <|
 .prim (.get 18 4) [.var 3, .var 79] <|
 .prim (.get 18 5) [.var 3, .var 79] <|
 .prim (.get 18 6) [.var 3, .var 79] <|
 .prim (.get 18 7) [.var 3, .var 79] <|
 .prim (.get 18 8) [.var 3, .var 79] <|
 .prim (.get 18 9) [.var 3, .var 79] <|
 .prim (.get 18 10) [.var 3, .var 79] <|
 .prim (.get 18 11) [.var 3, .var 79] <|
 .prim (.get 18 12) [.var 3, .var 79] <|
 .prim (.get 18 13) [.var 3, .var 79] <|
 .prim (.get 18 14) [.var 3, .var 79] <|
 .prim (.get 18 15) [.var 3, .var 79] <|
 .prim (.get 18 16) [.var 3, .var 79] <|
 .prim (.get 18 17) [.var 3, .var 79] <|
 .call F.dens_Film [.agg [.var 45, .var 46, .var 47, .var 48, .var 49, .var 50, .var 51, .var 52, .var 53, .var 54, .var 55, .var 56, .var 57, .var 58, .var 59, .var 60, .var 61, .var 62, .var 63, .var 64, .var 65, .var 66, .var 67], .agg [.var 81, .var 82, .var 83, .var 84, .var 85, .var 86, .var 87, .var 88, .var 89, .var 90, .var 91, .var 92, .var 93, .var 94, .var 95, .var 96, .var 97, .var 98], .agg [.var 5, .var 6, .var 7, .var 8, .var 9, .var 10, .var 11, .var 12, .var 13, .var 14, .var 15, .var 16, .var 17, .var 18, .var 19, .var 20, .var 21, .var 22, .var 23, .var 24, .var 25, .var 26, .var 27, .var 28, .var 29, .var 30, .var 31, .var 32, .var 33, .var 34, .var 35, .var 36, .var 37, .var 38, .var 39, .var 40]] [.one, .agg 3, .one] <|
 .prim (.bin .sub) [.var 71, .int .i64 (1)] <|
 .prim (.inb 3) [.var 78, .var 104] <|
 .prim (.setl 3 0) [.var 78, .var 104, .var 100, .var 101, .var 102] <|
 .prim (.bin .sub) [.var 71, .int .i64 (2)] <|
 .loop [.var 103, .var 107, .var 0, .var 1, .var 2, .var 3, .var 4, .var 5, .var 6, .var 7, .var 8, .var 9, .var 10, .var 11, .var 12, .var 13, .var 14, .var 15, .var 16, .var 17, .var 18, .var 19, .var 20, .var 21, .var 22, .var 23, .var 24, .var 25, .var 26, .var 27, .var 28, .var 29, .var 30, .var 31, .var 32, .var 33, .var 34, .var 35, .var 36, .var 37, .var 38, .var 39, .var 40, .var 41, .var 42, .var 43, .var 44, .var 45, .var 46, .var 47, .var 48, .var 49, .var 50, .var 51, .var 52, .var 53, .var 54, .var 55, .var 56, .var 57, .var 58, .var 59, .var 60, .var 61, .var 62, .var 63, .var 64, .var 65, .var 66, .var 67, .var 68, .var 69, .var 70, .var 106] (
  .prim (.bin .geq) [.var 1, .int .i64 (0)] <|
  .ite (.var 74) (
   .prim (.inb 40) [.var 6, .var 1] <|
   .prim (.get 40 0) [.var 6, .var 1] <|
   .prim (.get 40 1) [.var 6, .var 1] <|
   .prim (.get 40 2) [.var 6, .var 1] <|
   .prim (.get 40 3) [.var 6, .var 1] <|
   .prim (.get 40 4) [.var 6, .var 1] <|
   .prim (.get 40 5) [.var 6, .var 1] <|
   .prim (.get 40 6) [.var 6, .var 1] <|
   .prim (.get 40 7) [.var 6, .var 1] <|
   .prim (.get 40 8) [.var 6, .var 1] <|
   .prim (.get 40 9) [.var 6, .var 1] <|
   .prim (.get 40 10) [.var 6, .var 1] <|
   .prim (.get 40 11) [.var 6, .var 1] <|
   .prim (.get 40 12) [.var 6, .var 1] <|
   .prim (.get 40 13) [.var 6, .var 1] <|
   .prim (.get 40 14) [.var 6, .var 1] <|
   .prim (.get 40 15) [.var 6, .var 1] <|
   .prim (.get 40 16) [.var 6, .var 1] <|
   .prim (.get 40 17) [.var 6, .var 1] <|
   .prim (.get 40 18) [.var 6, .var 1] <|
   .prim (.get 40 19) [.var 6, .var 1] <|
   .prim (.get 40 20) [.var 6, .var 1] <|
   .prim (.get 40 21) [.var 6, .var 1] <|
   .prim (.get 40 22) [.var 6, .var 1] <|
   .prim (.get 40 23) [.var 6, .var 1] <|
   .prim (.get 40 24) [.var 6, .var 1] <|
   .prim (.get 40 25) [.var 6, .var 1] <|
   .prim (.get 40 26) [.var 6, .var 1] <|
   .prim (.get 40 27) [.var 6, .var 1] <|
   .prim (.get 40 28) [.var 6, .var 1] <|
   .prim (.get 40 29) [.var 6, .var 1] <|
   .prim (.get 40 30) [.var 6, .var 1] <|
   .prim (.get 40 31) [.var 6, .var 1] <|
   .prim (.get 40 32) [.var 6, .var 1] <|
   .prim (.get 40 33) [.var 6, .var 1] <|
   .prim (.get 40 34) [.var 6, .var 1] <|
   .prim (.get 40 35) [.var 6, .var 1] <|
   .call F.affine_Inverse [.agg [.var 76, .var 77, .var 78, .var 79, .var 80, .var 81, .var 82, .var 83, .var 84, .var 85, .var 86, .var 87, .var 88, .var 89, .var 90, .var 91, .var 92, .var 93, .var 94, .var 95, .var 96, .var 97, .var 98, .var 99, .var 100, .var 101, .var 102, .var 103, .var 104, .var 105, .var 106, .var 107, .var 108, .var 109, .var 110, .var 111]] [.agg 36, .one] <|
   .call F.rat_Of [.one (.int .i64 (0)), .one (.int .i64 (1))] [.agg 3] <|
   .prim (.inb 3) [.var 73, .var 1] <|
   .prim (.setl 3 0) [.var 73, .var 1, .var 149, .var 150, .var 151] <|
   .ite (.var 148) (
    .prim (.bin .add) [.var 1, .int .i64 (1)] <|
    .prim (.inb 3) [.var 153, .var 154] <|
    .prim (.get 3 0) [.var 153, .var 154] <|
    .prim (.get 3 1) [.var 153, .var 154] <|
    .prim (.get 3 2) [.var 153, .var 154] <|
    .prim (.bin .add) [.var 1, .int .i64 (1)] <|
    .prim (.inb 18) [.var 5, .var 159] <|
    .prim (.get 18 0) [.var 5, .var 159] <|
    .prim (.get 18 1) [.var 5, .var 159] <|
    .prim (.get 18 2) [.var 5, .var 159] <|
    .prim (.get 18 3) [.var 5, .var 159] <|
    .prim (.get 18 4) [.var 5, .var 159] <|
    .prim (.get 18 5) [.var 5, .var 159] <|
    .prim (.get 18 6) [.var 5, .var 159] <|
    .prim (.get 18 7) [.var 5, .var 159] <|
    .prim (.get 18 8) [.var 5, .var 159] <|
    .prim (.get 18 9) [.var 5, .var 159] <|
    .prim (.get 18 10) [.var 5, .var 159] <|
    .prim (.get 18 11) [.var 5, .var 159] <|
    .prim (.get 18 12) [.var 5, .var 159] <|
    .prim (.get 18 13) [.var 5, .var 159] <|
    .prim (.get 18 14) [.var 5, .var 159] <|
    .prim (.get 18 15) [.var 5, .var 159] <|
    .prim (.get 18 16) [.var 5, .var 159] <|
    .prim (.get 18 17) [.var 5, .var 159] <|
    .prim (.inb 18) [.var 5, .var 1] <|
    .prim (.get 18 0) [.var 5, .var 1] <|
    .prim (.get 18 1) [.var 5, .var 1] <|
    .prim (.get 18 2) [.var 5, .var 1] <|
    .prim (.get 18 3) [.var 5, .var 1] <|
    .prim (.get 18 4) [.var 5, .var 1] <|
    .prim (.get 18 5) [.var 5, .var 1] <|
    .prim (.get 18 6) [.var 5, .var 1] <|
    .prim (.get 18 7) [.var 5, .var 1] <|
    .prim (.get 18 8) [.var 5, .var 1] <|
    .prim (.get 18 9) [.var 5, .var 1] <|
    .prim (.get 18 10) [.var 5, .var 1] <|
    .prim (.get 18 11) [.var 5, .var 1] <|
    .prim (.get 18 12) [.var 5, .var 1] <|
    .prim (.get 18 13) [.var 5, .var 1] <|
    .prim (.get 18 14) [.var 5, .var 1] <|
    .prim (.get 18 15) [.var 5, .var 1] <|
    .prim (.get 18 16) [.var 5, .var 1] <|
    .prim (.get 18 17) [.var 5, .var 1] <|
    .call F.dens_Ahead [.agg [.var 161, .var 162, .var 163, .var 164, .var 165, .var 166, .var 167, .var 168, .var 169, .var 170, .var 171, .var 172, .var 173, .var 174, .var 175, .var 176, .var 177, .var 178], .agg [.var 180, .var 181, .var 182, .var 183, .var 184, .var 185, .var 186, .var 187, .var 188, .var 189, .var 190, .var 191, .var 192, .var 193, .var 194, .var 195, .var 196, .var 197], .agg [.var 112, .var 113, .var 114, .var 115, .var 116, .var 117, .var 118, .var 119, .var 120, .var 121, .var 122, .var 123, .var 124, .var 125, .var 126, .var 127, .var 128, .var 129, .var 130, .var 131, .var 132, .var 133, .var 134, .var 135, .var 136, .var 137, .var 138, .var 139, .var 140, .var 141, .var 142, .var 143, .var 144, .var 145, .var 146, .var 147]] [.agg 3] <|
    .prim (.mk 2) [.var 156, .var 157, .var 158, .var 198, .var 199, .var 200] <|
    .call F.rat_Product [.one (.var 201)] [.agg 3] <|
    .prim (.inb 3) [.var 153, .var 1] <|
    .prim (.setl 3 0) [.var 153, .var 1, .var 202, .var 203, .var 204] <|
    .prim (.bin .sub) [.var 1, .int .i64 (1)] <|
    .jump 0 [.var 0, .var 207, .var 2, .var 3, .var 4, .var 5, .var 6, .var 7, .var 8, .var 9, .var 10, .var 11, .var 12, .var 13, .var 14, .var 15, .var 16, .var 17, .var 18, .var 19, .var 20, .var 21, .var 22, .var 23, .var 24, .var 25, .var 26, .var 27, .var 28, .var 29, .var 30, .var 31, .var 32, .var 33, .var 34, .var 35, .var 36, .var 37, .var 38, .var 39, .var 40, .var 41, .var 42, .var 43, .var 44, .var 45, .var 46, .var 47, .var 48, .var 49, .var 50, .var 51, .var 52, .var 53, .var 54, .var 55, .var 56, .var 57, .var 58, .var 59, .var 60, .var 61, .var 62, .var 63, .var 64, .var 65, .var 66, .var 67, .var 68, .var 69, .var 70, .var 71, .var 72, .var 206]) (
    .prim (.bin .sub) [.var 1, .int .i64 (1)] <|
    .jump 0 [.var 0, .var 154, .var 2, .var 3, .var 4, .var 5, .var 6, .var 7, .var 8, .var 9, .var 10, .var 11, .var 12, .var 13, .var 14, .var 15, .var 16, .var 17, .var 18, .var 19, .var 20, .var 21, .var 22, .var 23, .var 24, .var 25, .var 26, .var 27, .var 28, .var 29, .var 30, .var 31, .var 32, .var 33, .var 34, .var 35, .var 36, .var 37, .var 38, .var 39, .var 40, .var 41, .var 42, .var 43, .var 44, .var 45, .var 46, .var 47, .var 48, .var 49, .var 50, .var 51, .var 52, .var 53, .var 54, .var 55, .var 56, .var 57, .var 58, .var 59, .var 60, .var 61, .var 62, .var 63, .var 64, .var 65, .var 66, .var 67, .var 68, .var 69, .var 70, .var 71, .var 72, .var 153])) (
   .ret [.one (.var 73), .one (.var 0)]))

theorem tree_weigh_may : symFunc Go.Proofs.Tryz.prog H0 400 F.weigh_may [.agg 71] = some ir_weigh_may := by kernel_rfl
theorem tree_weigh_fromLight : symFunc Go.Proofs.Tryz.prog ⟨fun f => [].contains f, fun f i => if f = 9 ∧ i = 3 then [⟨[(1, .s (.one (.lp 0 0))), (3, .s (.one (.own 1))), (12, .s (.one (.at (.var 0)))), (13, .s (.one (.at (.var 1)))), (14, .s (.one (.at (.var 2))))], [], [(0, .box [.at (.var 3), .at (.var 4), .at (.var 5), .at (.var 6), .at (.var 0), .at (.var 7), .at (.var 8), .at (.var 9), .at (.var 10), .at (.var 11), .at (.var 12), .at (.var 13), .at (.var 14), .at (.var 15), .at (.var 16), .at (.var 17), .at (.var 18), .at (.var 19), .at (.var 20), .at (.var 21), .at (.var 22), .at (.var 23), .at (.var 24), .at (.var 25), .at (.var 26), .at (.var 27), .at (.var 28), .at (.var 29), .at (.var 30), .at (.var 31), .at (.var 32), .at (.var 33), .at (.var 34), .at (.var 35), .at (.var 36), .at (.var 37), .at (.var 38), .at (.var 39), .at (.var 40), .at (.var 41), .at (.var 42), .at (.var 43), .at (.var 44), .at (.var 45), .at (.var 46), .at (.var 47), .at (.var 48), .at (.var 49), .at (.var 50), .at (.var 51), .at (.var 52), .at (.var 53), .at (.var 54), .at (.var 55), .at (.var 56), .at (.var 57), .at (.var 58), .at (.var 59), .at (.var 60), .at (.var 61), .at (.var 62), .at (.var 63), .at (.var 64), .at (.var 65), .at (.var 66), .at (.var 67), .at (.var 68), .at (.var 69), .at (.var 70), .at (.var 71), .at (.var 72)] 36 false), (1, .own (.var 73) 3 24)], 2, 74⟩] else [], fun f i => [], fun f => [].contains f, fun f => none⟩ 400 F.weigh_fromLight [.agg 71] = some ir_weigh_fromLight := by kernel_rfl
theorem tree_weigh_fromEye : symFunc Go.Proofs.Tryz.prog ⟨fun f => [].contains f, fun f i => if f = 10 ∧ i = 7 then [⟨[(1, .s (.one (.lp 0 0))), (5, .s (.one (.own 1))), (8, .s (.one (.at (.var 0)))), (9, .s (.one (.at (.var 1))))], [], [(0, .box [.at (.var 2), .at (.var 3), .at (.var 4), .at (.var 5), .at (.var 6), .at (.var 7), .at (.var 8), .at (.var 9), .at (.var 10), .at (.var 11), .at (.var 12), .at (.var 13), .at (.var 14), .at (.var 15), .at (.var 16), .at (.var 17), .at (.var 18), .at (.var 19), .at (.var 20), .at (.var 21), .at (.var 22), .at (.var 23), .at (.var 24), .at (.var 25), .at (.var 26), .at (.var 27), .at (.var 28), .at (.var 29), .at (.var 30), .at (.var 31), .at (.var 32), .at (.var 33), .at (.var 34), .at (.var 35), .at (.var 36), .at (.var 37), .at (.var 38), .at (.var 39), .at (.var 40), .at (.var 41), .at (.var 42), .at (.var 43), .at (.var 44), .at (.var 45), .at (.var 46), .at (.var 47), .at (.var 48), .at (.var 49), .at (.var 50), .at (.var 51), .at (.var 52), .at (.var 53), .at (.var 54), .at (.var 55), .at (.var 56), .at (.var 57), .at (.var 58), .at (.var 59), .at (.var 60), .at (.var 61), .at (.var 62), .at (.var 63), .at (.var 64), .at (.var 65), .at (.var 66), .at (.var 67), .at (.var 68), .at (.var 69), .at (.var 70), .at (.var 71), .at (.var 72)] 36 false), (1, .own (.var 73) 3 24)], 2, 74⟩] else [], fun f i => [], fun f => [].contains f, fun f => none⟩ 400 F.weigh_fromEye [.agg 71] = some ir_weigh_fromEye := by kernel_rfl
end Go.Px
namespace Go.Px.Na
open Go.RowKit
open Go.Proofs.Tryz (prog)

/-! ### Paths -/
structure Ed where
  map : M4
  hops : Int
structure RE where
  map : RM
  hops : Int
  gain : RR
def RE.c (e : RE) : List DV := gW e.map.l ++ [.int .i64 e.hops] ++ gW [e.gain]
theorem RE.len (e : RE) : e.c.length = 40 := rfl
theorem gS_len (r : RS) : (gW r.l).length = 18 := rfl
theorem RR.len (r : RR) : r.dv.length = 3 := rfl
structure NE (L : Nat) (r : RE) (e : Ed) : Prop where
  map : NM L r.map e.map
  hops : r.hops = e.hops
def spl (rs : List RS) : DV := .list rs.length (rs.flatMap fun r => gW r.l)
def edl (es : List RE) : DV := .list es.length (es.flatMap RE.c)
structure Pa where
  start : Rat
  sp : List Sp
  ed : List Ed
  last : Ed
  cam : Cam
  merge : Rat
structure RP where
  start : RR
  sp : List RS
  ed : List RE
  last : RE
  cam : RCam
  merge : RR
def RP.tl (p : RP) : List DV := p.last.c ++ p.cam.c ++ gW [p.merge]
def RP.c (p : RP) : List DV := gW [p.start] ++ [spl p.sp, edl p.ed] ++ p.tl
structure NP (L : Nat) (r : RP) (p : Pa) : Prop where
  start : Num L r.start p.start
  spn : r.sp.length = p.sp.length
  sp : ∀ (i : Nat) (a : RS) (b : Sp), r.sp[i]? = some a → p.sp[i]? = some b → NS L a b
  edn : r.ed.length = p.ed.length
  ed : ∀ (i : Nat) (a : RE) (b : Ed), r.ed[i]? = some a → p.ed[i]? = some b → NE L a b
  last : NE L r.last p.last
  cam : NCam L r.cam p.cam
  merge : Num (3 * L) r.merge p.merge
def v0 : V3 := ⟨0, 0, 0⟩
def m0 : M4 := ⟨v0, v0, v0, v0⟩
def Pa.s (p : Pa) (i : Nat) : Sp := p.sp.getD i ⟨v0, v0⟩
def Pa.e (p : Pa) (i : Nat) : Ed := p.ed.getD i ⟨m0, 0⟩
section
variable {L M : Nat} {r : RP} {p : Pa}
theorem NP.sp' (h : NP L r p) {i : Nat} (hi : i < r.sp.length) : ∃ a, r.sp[i]? = some a ∧ NS L a (p.s i) := by
  have hj : i < p.sp.length := h.spn ▸ hi
  exact ⟨_, List.getElem?_eq_getElem hi, h.sp i _ _ (List.getElem?_eq_getElem hi) (by simp [Pa.s, List.getD_eq_getElem?_getD, List.getElem?_eq_getElem hj])⟩
theorem NP.ed' (h : NP L r p) {i : Nat} (hi : i < r.ed.length) : ∃ a, r.ed[i]? = some a ∧ NE L a (p.e i) := by
  have hj : i < p.ed.length := h.edn ▸ hi
  exact ⟨_, List.getElem?_eq_getElem hi, h.ed i _ _ (List.getElem?_eq_getElem hi) (by simp [Pa.e, List.getD_eq_getElem?_getD, List.getElem?_eq_getElem hj])⟩
theorem SV.v0 (h : 1 ≤ L) : SV L v0 := ⟨Sm0.mono h, Sm0.mono h, Sm0.mono h⟩
theorem SM.m0 (h : 1 ≤ L) : SM L m0 := ⟨.v0 h, .v0 h, .v0 h, .v0 h⟩
/-- The sizes of a path's numbers. -/
structure SPa (L : Nat) (p : Pa) : Prop where
  start : Sm L p.start
  s : ∀ i, SS L (p.s i)
  e : ∀ i, SM L (p.e i).map
  last : SM L p.last.map
  eye : SV L p.cam.eye
  look : SV L p.cam.look
  half : Sm L p.cam.half
  merge : Sm (3 * L) p.merge
theorem NP.sm (h : NP L r p) : SPa L p := by
  have h1 : 1 ≤ L := h.start.2.2
  refine ⟨h.start.sm, fun i => ?_, fun i => ?_, h.last.map.sm, h.cam.eye.sm, h.cam.look.sm, h.cam.half.sm, h.merge.sm⟩
  · by_cases hi : i < r.sp.length
    · obtain ⟨a, _, h2⟩ := h.sp' hi; exact h2.sm
    · have : p.s i = ⟨v0, v0⟩ := by simp [Pa.s, List.getD_eq_getElem?_getD, List.getElem?_eq_none (show p.sp.length ≤ i from h.spn ▸ Nat.le_of_not_lt hi)]
      rw [this]; exact ⟨.v0 h1, .v0 h1⟩
  · by_cases hi : i < r.ed.length
    · obtain ⟨a, _, h2⟩ := h.ed' hi; exact h2.map.sm
    · have : p.e i = ⟨m0, 0⟩ := by simp [Pa.e, List.getD_eq_getElem?_getD, List.getElem?_eq_none (show p.ed.length ≤ i from h.edn ▸ Nat.le_of_not_lt hi)]
      rw [this]; exact .m0 h1
end

/-! ### From the light, from the eye -/
/-- How densely a light's path comes to the first spots: of none, of one, .. -/
def Pa.a (p : Pa) : Nat → Rat
  | 0 => 1
  | 1 => p.start
  | i + 2 => p.a (i + 1) * ahd (p.s i) (p.s (i + 1)) (p.e i).map
def Pa.n (p : Pa) : Nat := p.sp.length
def Pa.film (p : Pa) : Rat := p.cam.val (p.s (p.n - 1)) p.last.map
def Pa.on (p : Pa) : Prop := p.cam.on (p.s (p.n - 1)) p.last.map
instance (p : Pa) : Decidable p.on := inferInstanceAs (Decidable (p.cam.on _ _))
/-- How densely an eye's path comes to the last spots: of none, of one, .. -/
def Pa.z (p : Pa) : Nat → Rat
  | 0 => 1
  | 1 => p.film
  | k + 2 => if (p.e (p.n - 2 - k)).map.det = 0 then 0 else p.z (k + 1) * ahd (p.s (p.n - 2 - k + 1)) (p.s (p.n - 2 - k)) (inv (p.e (p.n - 2 - k)).map)
def Pa.b (p : Pa) (i : Nat) : Rat := p.z (p.n - i)
section
variable {r : RP} {p : Pa}
theorem SPa.a (h : SPa 1048576 p) : ∀ i, Sm (1048576 + i * 1811941000) (p.a (i + 1))
  | 0 => h.start
  | i + 1 => ((h.a i).mul (SS.ahd2 (h.s i) (h.s (i + 1)) (h.e i))).mono (by omega)
theorem SPa.film (h : SPa 1048576 p) : Sm 160000000 p.film := (Cam.Sval h.eye h.look h.half (h.s _) h.last).mono (by decide)
theorem SPa.z (h : SPa 1048576 p) : ∀ i, Sm (160000000 + i * 24827000000) (p.z (i + 1))
  | 0 => h.film
  | i + 1 => by
    rw [Pa.z]
    split
    · exact Sm0.mono (by omega)
    · exact ((h.z i).mul (SS.ahd2 (h.s _) (h.s _) (h.e _).inv)).mono (by omega)
theorem SPa.a' (h : SPa 1048576 p) {i : Nat} (hi : i ≤ 16) : Sm 28000000000 (p.a i) := by
  cases i with
  | zero => exact Sm1.mono (by decide)
  | succ i => exact (h.a i).mono (by omega)
theorem SPa.z' (h : SPa 1048576 p) {i : Nat} (hi : i ≤ 16) : Sm 374000000000 (p.z i) := by
  cases i with
  | zero => exact Sm1.mono (by decide)
  | succ i => exact (h.z i).mono (by omega)

/-! ### Rows -/
theorem rl_inb {l : List RR} {k : IntKind} {i : Nat} (hi : i < l.length) : Prim.den (.inb 3) [rl l, .int k (i : Int)] = some (.bool true) := fm_inb RR.len (by omega) (by omega)
theorem rl_app {a b : List RR} (h : a.length + b.length ≤ 1000) : Prim.den (.app 3 56) [rl a, rl b] = some (rl (a ++ b)) := by
  simp only [rl, Prim.den]
  rw [if_pos ⟨fm_len RR.len _, fm_len RR.len _, by omega⟩]
  simp
theorem spl_inb {l : List RS} {k : IntKind} {i : Nat} (hi : i < l.length) : Prim.den (.inb 18) [spl l, .int k (i : Int)] = some (.bool true) := fm_inb gS_len (by omega) (by omega)
theorem edl_inb {l : List RE} {k : IntKind} {i : Nat} (hi : i < l.length) : Prim.den (.inb 40) [edl l, .int k (i : Int)] = some (.bool true) := fm_inb RE.len (by omega) (by omega)
section
variable {P : Program} {As : List (List DV → Prop)} {ρ : List DV} {Q : List AV → Prop}
theorem get_rr {x i : Px.A} {rs : List RR} {ki : IntKind} {j : Nat} {k : IR} {r : RR} (hr : rs[j]? = some r) (hx : ∀ l, Px.A.ev (ρ ++ l) x = rl rs) (hi : ∀ l, Px.A.ev (ρ ++ l) i = .int ki (j : Int)) (hk : IRwp P As (ρ ++ gW [r]) k Q) : IRwp P As ρ (getsI x i 3 3 0 k) Q :=
  gets_ok (by omega) (by have := (List.getElem?_eq_some_iff.1 hr).1; omega) 3 0 ρ (gW [r]) hx hi rfl (fun t ht => by rw [Int.toNat_natCast, Nat.zero_add]; exact fm_get RR.len t hr ht) hk
theorem get_sp {x i : Px.A} {rs : List RS} {ki : IntKind} {j : Nat} {k : IR} {r : RS} (hr : rs[j]? = some r) (hx : ∀ l, Px.A.ev (ρ ++ l) x = spl rs) (hi : ∀ l, Px.A.ev (ρ ++ l) i = .int ki (j : Int)) (hk : IRwp P As (ρ ++ gW r.l) k Q) : IRwp P As ρ (getsI x i 18 18 0 k) Q :=
  gets_ok (by omega) (by have := (List.getElem?_eq_some_iff.1 hr).1; omega) 18 0 ρ (gW r.l) hx hi rfl (fun t ht => by rw [Int.toNat_natCast, Nat.zero_add]; exact fm_get gS_len t hr ht) hk
theorem get_ed {x i : Px.A} {rs : List RE} {ki : IntKind} {j : Nat} {k : IR} {r : RE} (hr : rs[j]? = some r) (hx : ∀ l, Px.A.ev (ρ ++ l) x = edl rs) (hi : ∀ l, Px.A.ev (ρ ++ l) i = .int ki (j : Int)) (hk : IRwp P As (ρ ++ r.c) k Q) : IRwp P As ρ (getsI x i 40 40 0 k) Q :=
  gets_ok (by omega) (by have := (List.getElem?_eq_some_iff.1 hr).1; omega) 40 0 ρ r.c hx hi rfl (fun t ht => by rw [Int.toNat_natCast, Nat.zero_add]; exact fm_get RE.len t hr ht) hk
end

theorem get_em {P : Program} {As : List (List DV → Prop)} {ρ : List DV} {Q : List AV → Prop} {x i : Px.A} {rs : List RE} {ki : IntKind} {j : Nat} {k : IR} {r : RE} (hr : rs[j]? = some r) (hx : ∀ l, Px.A.ev (ρ ++ l) x = edl rs) (hi : ∀ l, Px.A.ev (ρ ++ l) i = .int ki (j : Int)) (hk : IRwp P As (ρ ++ gW r.map.l) k Q) : IRwp P As ρ (getsI x i 40 36 0 k) Q :=
  gets_ok (by omega) (by have := (List.getElem?_eq_some_iff.1 hr).1; omega) 36 0 ρ (gW r.map.l) hx hi rfl (fun t ht => by
    rw [Int.toNat_natCast, Nat.zero_add]
    refine (fm_get RE.len t hr (by omega)).trans ?_
    rw [RE.c, List.append_assoc, List.getElem?_append_left (show t < (gW r.map.l).length from ht)]) hk

def Pa.rowA (p : Pa) (n : Nat) : List RR := (List.range n).map fun i => cr (p.a i)
theorem rowA_len (n : Nat) : (p.rowA n).length = n := by simp [Pa.rowA]
theorem rowA_get {n i : Nat} (h : i < n) : (p.rowA n)[i]? = some (cr (p.a i)) := by simp [Pa.rowA, h]
theorem f_weigh_fromLight (h : NP 1048576 r p) (hn : r.sp.length = r.ed.length + 1) (hm : r.ed.length ≤ 15) : PureCalls prog F.weigh_fromLight [.agg r.c] [.one (rl (p.rowA (r.ed.length + 2)))] := by
  refine symFunc_sound hmix tree_weigh_fromLight (by kernel_rfl) rfl ?_
  unfold ir_weigh_fromLight
  simp only [RP.c, RP.tl, RE.c, RCam.c]
  simp only [JJ]
  refine cs1 (n_rat_Of (k0 := 1) 1 1 (by decide) (by decide) (by decide) (by decide) (by decide +kernel)) ?_
  simp only [JJ]
  refine call_step (f_rat_Read h.start (by decide)) rfl ?_
  simp only [JJ]
  refine primS (rl [cr 1, cr p.start]) rfl ?_
  refine primS (.int .i64 (r.ed.length : Int)) rfl ?_
  refine loop_st (fun i : Nat => [edl r.ed, .int .i64 (r.ed.length : Int), .int .i64 (i : Int)] ++ gW [r.start] ++ [spl r.sp] ++ r.tl ++ [rl (p.rowA (i + 2))]) (fun i => i ≤ r.ed.length) (fun i => r.ed.length - i) 0 (Nat.zero_le _) rfl (fun _ => rfl) fun i hi X hX => ?_
  simp only [RP.tl, RE.c, RCam.c]
  simp only [JJ]
  refine primS (.bool (decide _)) d_lss ?_
  refine itD rfl (fun c1 => ?_) (fun c1 => ?_)
  · have hlt : i < r.ed.length := by omega
    obtain ⟨e, he, hE⟩ := h.ed' hlt
    obtain ⟨a, ha, hA⟩ := h.sp' (i := i) (by omega)
    obtain ⟨b, hb, hB⟩ := h.sp' (i := i + 1) (by omega)
    have hS := h.sm
    have n0 := Num.of (hS.a' (i := i + 1) (by omega))
    refine primS (.bool true) (edl_inb hlt) ?_
    try simp only [JJ]
    refine get_ed (x := .var 0) (i := .var 2) he (fun _ => rfl) (fun _ => rfl) ?_
    simp only [RE.c]
    simp only [JJ]
    refine primS (.int .i64 ((i + 1 : Nat) : Int)) ((d_add64 (by omega) (by omega)).trans (by simp)) ?_
    refine primS (.bool true) (rl_inb (by rw [rowA_len]; omega)) ?_
    try simp only [JJ]
    refine get_rr (x := .var 73) (i := .var 116) (rowA_get (by omega)) (fun _ => rfl) (fun _ => rfl) ?_
    refine primS (.bool true) (spl_inb (by omega)) ?_
    simp only [JJ]
    refine get_sp (x := .var 6) (i := .var 2) ha (fun _ => rfl) (fun _ => rfl) ?_
    simp only [JJ]
    refine primS (.int .i64 ((i + 1 : Nat) : Int)) ((d_add64 (by omega) (by omega)).trans (by simp)) ?_
    refine primS (.bool true) (spl_inb (by omega)) ?_
    try simp only [JJ]
    refine get_sp (x := .var 6) (i := .var 140) hb (fun _ => rfl) (fun _ => rfl) ?_
    simp only [JJ]
    refine call_step (f_dens_Ahead hA hB hE.map (by decide)) rfl ?_
    simp only [JJ]
    have n1 := Num.of (SS.ahd2 hA.sm hB.sm hE.map.sm)
    refine primS (rlN2 n0 n1) rfl ?_
    refine cs1 (n_rat_Product_2 (n0.mono (by decide)) (n1.mono (by decide)) rfl) ?_
    rw [show p.a (i + 1) * ahd (p.s i) (p.s (i + 1)) (p.e i).map = p.a (i + 2) from rfl]
    simp only [JJ]
    refine primS (rl [cr (p.a (i + 2))]) rfl ?_
    refine primS (rl (p.rowA (i + 2) ++ [cr (p.a (i + 2))])) (rl_app (by rw [rowA_len]; simp; omega)) ?_
    refine primS (.int .i64 ((i + 1 : Nat) : Int)) ((d_add64 (by omega) (by omega)).trans (by simp)) ?_
    have hh := hX (i + 1) (by omega) (by omega)
    rw [show p.rowA (i + 1 + 2) = p.rowA (i + 2) ++ [cr (p.a (i + 2))] by rw [Pa.rowA, show i + 1 + 2 = (i + 2) + 1 by omega, List.range_succ, List.map_append]; rfl] at hh
    exact jump_step rfl hh
  · obtain rfl : i = r.ed.length := by omega
    exact ret_step rfl

/-- May a path be? -/
def Pa.may (p : Pa) : Prop := (1 ≤ p.n ∧ p.n ≤ 16) ∧ p.ed.length + 1 = p.n ∧ (1 ≤ p.cam.w ∧ p.cam.w ≤ 16) ∧ (1 ≤ p.cam.h ∧ p.cam.h ≤ 16)
instance (p : Pa) : Decidable p.may := inferInstanceAs (Decidable (_ ∧ _ ∧ _ ∧ _))
theorem f_weigh_may {L : Nat} (h : NP L r p) : PureCalls prog F.weigh_may [.agg r.c] [.one (.bool (decide p.may))] := by
  refine symFunc_sound hmix tree_weigh_may (by kernel_rfl) rfl ?_
  unfold ir_weigh_may
  simp only [RP.c, RP.tl, RE.c, RCam.c]
  simp only [JJ]
  have hn : r.sp.length = p.n := h.spn
  have he := h.edn
  rw [h.cam.w, h.cam.h]
  have no : ∀ {As : List (List DV → Prop)} {ρ : List DV}, ¬p.may → IRwp prog As ρ (.ret [.one (.bol false)]) (fun x => x = [AV.one (.bool (decide p.may))]) := fun {_ _} hn => ret_step (by rw [decide_eq_false hn]; rfl)
  refine primS (.int .i64 (p.n : Int)) (by rw [← hn]; rfl) ?_
  refine primS (.bool (decide _)) d_geq ?_
  refine itD rfl (fun c1 => ?_) (fun c1 => no fun z => c1 (by have := z.1.1; omega))
  refine primS (.bool (decide _)) d_leq ?_
  refine itD rfl (fun c2 => ?_) (fun c2 => no fun z => c2 (by have := z.1.2; omega))
  refine primS (.int .i64 (p.ed.length : Int)) (by rw [← he]; rfl) ?_
  refine primS (.int .i64 ((p.n : Int) - 1)) (d_sub64 (by omega) (by omega)) ?_
  refine primS (.bool (decide _)) d_eql ?_
  refine itD rfl (fun c3 => ?_) (fun c3 => no fun z => c3 (by have := z.2.1; omega))
  refine primS (.bool (decide _)) d_geq ?_
  refine itD rfl (fun c4 => ?_) (fun c4 => no fun z => c4 z.2.2.1.1)
  refine primS (.bool (decide _)) d_leq ?_
  refine itD rfl (fun c5 => ?_) (fun c5 => no fun z => c5 z.2.2.1.2)
  refine primS (.bool (decide _)) d_geq ?_
  refine itD rfl (fun c6 => ?_) (fun c6 => no fun z => c6 z.2.2.2.1)
  refine primS (.bool (decide (p.cam.h ≤ 16))) d_leq ?_
  refine ret_step ?_
  rw [show decide p.may = decide (p.cam.h ≤ 16) from decide_eq_decide.2 ⟨fun z => z.2.2.2.2, fun z => ⟨⟨by omega, by omega⟩, by omega, ⟨c4, c5⟩, c6, z⟩⟩]
  rfl

/-! ### Rows that are filled from their end -/
theorem setAt_r : ∀ (vs xs ys : List DV) (j : Nat), xs.length ≤ j → setAt (xs ++ ys) j vs = xs ++ setAt ys (j - xs.length) vs
  | [], xs, ys, j, h => rfl
  | v :: vs, xs, ys, j, h => by
    simp only [setAt]
    rw [List.set_append_right _ _ h, setAt_r vs xs _ (j + 1) (by omega), show j + 1 - xs.length = j - xs.length + 1 by omega]
theorem setAt_l : ∀ (vs xs ys : List DV) (j : Nat), j + vs.length ≤ xs.length → setAt (xs ++ ys) j vs = setAt xs j vs ++ ys
  | [], xs, ys, j, h => rfl
  | v :: vs, xs, ys, j, h => by
    simp only [List.length_cons] at h
    simp only [setAt]
    rw [List.set_append_left _ _ (by omega), setAt_l vs _ ys (j + 1) (by simp; omega)]
theorem fmset {α : Type} {f : α → List DV} {s : Nat} (hf : ∀ a, (f a).length = s) {vs : List DV} {off : Nat} (ho : off + vs.length ≤ s) : ∀ {l : List α} {i : Nat} {a a' : α}, l[i]? = some a → f a' = setAt (f a) off vs → setAt (l.flatMap f) (i * s + off) vs = (l.set i a').flatMap f
  | [], i, a, a', h, _ => by simp at h
  | b :: l, 0, a, a', h, hv => by
    simp at h; subst h
    rw [List.flatMap_cons, Nat.zero_mul, Nat.zero_add, setAt_l _ _ _ _ (by rw [hf]; exact ho), ← hv]; rfl
  | b :: l, i + 1, a, a', h, hv => by
    rw [List.flatMap_cons, setAt_r _ _ _ _ (by rw [hf, Nat.succ_mul]; omega), hf, show (i + 1) * s + off - s = i * s + off by rw [Nat.succ_mul]; omega, fmset hf ho (by simpa using h) hv]
    rfl
theorem rl_set {l : List RR} {i : Nat} {y : RR} {k : IntKind} {vs : List DV} (hi : i < l.length) (hy : vs = y.dv) : Prim.den (.setl 3 0) (rl l :: .int k (i : Int) :: vs) = some (rl (l.set i y)) := by
  subst hy
  have hc : 0 ≤ (i : Int) ∧ (i : Int) < (l.length : Int) ∧ (i : Int).toNat * 3 + 0 + y.dv.length ≤ (l.flatMap RR.dv).length := ⟨by omega, by omega, by rw [fm_len RR.len, Int.toNat_natCast, RR.len]; omega⟩
  simp only [rl, Prim.den]
  rw [if_pos hc, Int.toNat_natCast, fmset RR.len (show 0 + 3 ≤ 3 by decide) (List.getElem?_eq_getElem hi) rfl, List.length_set]
theorem rl_make {W : Nat} (h : W ≤ 1000) : Prim.den (.make 56) [.int .i64 (W : Int), .int .i64 (W : Int), .bool false, .list 0 [], .list 0 []] = some (rl (List.replicate W rz)) := by
  have key : ∀ W : Nat, (List.range (W * 3)).map (fun j => [DV.bool false, .list 0 [], .list 0 []].getD (j % 3) (.bool false)) = (List.replicate W rz).flatMap RR.dv := fun W => by
    induction W with
    | zero => rfl
    | succ W ih =>
      rw [List.replicate_succ', List.flatMap_append, ← ih, Nat.succ_mul, List.range_add, List.map_append, List.map_map]
      congr 1
      simp only [List.range, List.range.loop, List.map_cons, List.map_nil, Function.comp, Nat.mul_comm W 3, Nat.mul_add_mod, List.flatMap_cons, List.flatMap_nil]
      rfl
  simp only [Prim.den]
  rw [if_pos ⟨by omega, by omega, by omega⟩, Int.toNat_natCast]
  simp only [rl, List.length_replicate]
  exact congrArg some (congrArg (DV.list W) (key W))
/-- A row's last places, the first ones yet unset. -/
def Pa.stB (p : Pa) (k : Nat) : List RR := (List.range (p.n + 1)).map fun i => if p.n - 1 - k ≤ i then cr (p.b i) else rz
def Pa.rowB (p : Pa) : List RR := (List.range (p.n + 1)).map fun i => cr (p.b i)
theorem stB_len (k : Nat) : (p.stB k).length = p.n + 1 := by simp [Pa.stB]
theorem stB_get {k i : Nat} (h : i ≤ p.n) (hk : p.n - 1 - k ≤ i) : (p.stB k)[i]? = some (cr (p.b i)) := by rw [Pa.stB, List.getElem?_map, List.getElem?_range (by omega), Option.map_some, if_pos hk]
theorem stB_0 (h : 1 ≤ p.n) : ((List.replicate (p.n + 1) rz).set p.n (cr 1)).set (p.n - 1) (cr p.film) = p.stB 0 := by
  refine List.ext_getElem? fun i => ?_
  by_cases h1 : i < p.n + 1
  · rw [Pa.stB, List.getElem?_map, List.getElem?_range h1, Option.map_some]
    by_cases h2 : i = p.n - 1
    · subst h2
      rw [List.getElem?_set_self (by simp; omega), if_pos (by omega), Pa.b, show p.n - (p.n - 1) = 1 by omega]; rfl
    · rw [List.getElem?_set_ne (by omega)]
      by_cases h3 : i = p.n
      · subst h3
        rw [List.getElem?_set_self (by simp), if_pos (by omega), Pa.b, Nat.sub_self]; rfl
      · rw [List.getElem?_set_ne (by omega), if_neg (by omega), List.getElem?_replicate, if_pos h1]
  · rw [List.getElem?_eq_none (by simp; omega), List.getElem?_eq_none (by rw [stB_len]; omega)]
theorem stB_set {k j : Nat} (hj : j + 2 + k = p.n) : (p.stB k).set j (cr (p.b j)) = p.stB (k + 1) := by
  refine List.ext_getElem? fun i => ?_
  by_cases h1 : i < p.n + 1
  · rw [Pa.stB, Pa.stB, List.getElem?_map (l := List.range (p.n + 1)) (f := fun i => if p.n - 1 - (k + 1) ≤ i then cr (p.b i) else rz), List.getElem?_range h1, Option.map_some]
    by_cases h2 : i = j
    · subst h2
      rw [List.getElem?_set_self (by simp; omega), if_pos (by omega)]
    · rw [List.getElem?_set_ne (by omega), List.getElem?_map, List.getElem?_range h1, Option.map_some]
      by_cases h3 : j ≤ i
      · rw [if_pos (by omega), if_pos (by omega)]
      · rw [if_neg (by omega), if_neg (by omega)]
  · rw [List.getElem?_eq_none (by simp [Pa.stB]; omega), List.getElem?_eq_none (by rw [stB_len]; omega)]
theorem stB_all (h : 1 ≤ p.n) : p.stB (p.n - 1) = p.rowB := by
  unfold Pa.stB Pa.rowB
  refine List.map_congr_left fun i _ => ?_
  rw [if_pos (by omega)]
theorem b_step {k j : Nat} (hj : j + 2 + k = p.n) : p.b j = if (p.e j).map.det = 0 then 0 else p.b (j + 1) * ahd (p.s (j + 1)) (p.s j) (inv (p.e j).map) := by
  rw [Pa.b, show p.n - j = k + 2 by omega, Pa.z, show p.n - 2 - k = j by omega, Pa.b, show p.n - (j + 1) = k + 1 by omega]
theorem SPa.b (h : SPa 1048576 p) (hn : p.n ≤ 16) (i : Nat) : Sm 374000000000 (p.b i) := h.z' (by omega)
theorem f_weigh_fromEye (h : NP 1048576 r p) (hm : p.may) : PureCalls prog F.weigh_fromEye [.agg r.c] [.one (rl p.rowB), .one (.bool (decide p.on))] := by
  refine symFunc_sound hmix tree_weigh_fromEye (by kernel_rfl) rfl ?_
  unfold ir_weigh_fromEye
  obtain ⟨⟨h1, h16⟩, hE, -, -⟩ := hm
  have hn : r.sp.length = p.n := h.spn
  have he := h.edn
  have hS := h.sm
  simp only [RP.c, RP.tl, RE.c, RCam.c]
  simp only [JJ]
  refine primS (.int .i64 (p.n : Int)) (by rw [← hn]; rfl) ?_
  refine primS (.int .i64 ((p.n + 1 : Nat) : Int)) ((d_add64 (by omega) (by omega)).trans (by simp)) ?_
  refine primS (rl (List.replicate (p.n + 1) rz)) (rl_make (by omega)) ?_
  try simp only [JJ]
  refine cs1 (n_rat_Of (k0 := 1) 1 1 (by decide) (by decide) (by decide) (by decide) (by decide +kernel)) ?_
  simp only [JJ]
  refine primS (.bool true) (rl_inb (by simp)) ?_
  refine primS (rl ((List.replicate (p.n + 1) rz).set p.n (cr 1))) (rl_set (by simp) rfl) ?_
  refine primS (.int .i64 ((p.n - 1 : Nat) : Int)) ((d_sub64 (by omega) (by omega)).trans (by congr 2; omega)) ?_
  obtain ⟨a, ha, hA⟩ := h.sp' (i := p.n - 1) (by omega)
  refine primS (.bool true) (spl_inb (by omega)) ?_
  try simp only [JJ]
  refine get_sp (x := .var 3) (i := .var 79) ha (fun _ => rfl) (fun _ => rfl) ?_
  simp only [JJ]
  refine call_step (f_dens_Film h.cam hA h.last.map (by decide)) rfl ?_
  rw [show p.cam.val (p.s (p.n - 1)) p.last.map = p.film from rfl]
  simp only [JJ]
  refine primS (.int .i64 ((p.n - 1 : Nat) : Int)) ((d_sub64 (by omega) (by omega)).trans (by congr 2; omega)) ?_
  refine primS (.bool true) (rl_inb (by simp; omega)) ?_
  refine primS (rl (((List.replicate (p.n + 1) rz).set p.n (cr 1)).set (p.n - 1) (cr p.film))) (rl_set (by simp; omega) rfl) ?_
  rw [stB_0 h1]
  refine primS (.int .i64 ((p.n : Int) - 2)) (d_sub64 (by omega) (by omega)) ?_
  refine loop_st (fun k : Nat => [.bool (decide p.on), .int .i64 ((p.n : Int) - 2 - k)] ++ gW [r.start] ++ [spl r.sp, edl r.ed] ++ r.tl ++ [rl (p.stB k)]) (fun k => k + 1 ≤ p.n) (fun k => p.n - k) 0 h1 (by simp only [Int.ofNat_zero, Int.sub_zero]; rfl) (fun _ => rfl) fun k hk X hX => ?_
  simp only [RP.tl, RE.c, RCam.c]
  simp only [JJ]
  refine primS (.bool (decide _)) d_geq ?_
  refine itD rfl (fun c1 => ?_) (fun c1 => ?_)
  · obtain ⟨j, hj⟩ : ∃ j : Nat, (p.n : Int) - 2 - k = (j : Int) := ⟨p.n - 2 - k, by omega⟩
    have hj2 : j + 2 + k = p.n := by omega
    rw [hj]
    obtain ⟨e, he', hE'⟩ := h.ed' (i := j) (by omega)
    obtain ⟨a, ha, hA⟩ := h.sp' (i := j) (by omega)
    obtain ⟨b, hb, hB⟩ := h.sp' (i := j + 1) (by omega)
    have n0 := Num.of (hS.b h16 (j + 1))
    have nI := NM.of hE'.map.sm.inv
    refine primS (.bool true) (edl_inb (by omega)) ?_
    try simp only [JJ]
    refine get_em (x := .var 6) (i := .var 1) he' (fun _ => rfl) (fun _ => rfl) ?_
    simp only [JJ]
    have hb1 := b_step hj2
    have hX' := hX (k + 1) (by omega) (by omega)
    rw [show (p.n : Int) - 2 - ((k + 1 : Nat) : Int) = (j : Int) - 1 by omega, ← stB_set hj2] at hX'
    by_cases hd : (p.e j).map.det = 0
    · rw [if_pos hd] at hb1
      refine call_step (f_affine_Inverse_n hd hE'.map (by decide)) rfl ?_
      simp only [JJ]
      refine cs1 (n_rat_Of (k0 := 0) 0 1 (by decide) (by decide) (by decide) (by decide) (by decide +kernel)) ?_
      simp only [JJ]
      refine primS (.bool true) (rl_inb (by rw [stB_len]; omega)) ?_
      refine primS (rl ((p.stB k).set j (cr 0))) (rl_set (by rw [stB_len]; omega) rfl) ?_
      refine itF rfl ?_
      refine primS (.int .i64 ((j : Int) - 1)) (d_sub64 (by omega) (by omega)) ?_
      rw [hb1] at hX'
      exact jump_step rfl hX'
    · rw [if_neg hd] at hb1
      refine call_step (f_affine_Inverse_t hd hE'.map (by decide)) rfl ?_
      simp only [JJ]
      refine cs1 (n_rat_Of (k0 := 0) 0 1 (by decide) (by decide) (by decide) (by decide) (by decide +kernel)) ?_
      simp only [JJ]
      refine primS (.bool true) (rl_inb (by rw [stB_len]; omega)) ?_
      refine primS (rl ((p.stB k).set j (cr 0))) (rl_set (by rw [stB_len]; omega) rfl) ?_
      refine itT rfl ?_
      refine primS (.int .i64 ((j + 1 : Nat) : Int)) ((d_add64 (by omega) (by omega)).trans (by simp)) ?_
      refine primS (.bool true) (rl_inb (by rw [List.length_set, stB_len]; omega)) ?_
      try simp only [JJ]
      refine get_rr (x := .var 153) (i := .var 154) (r := cr (p.b (j + 1))) (by rw [List.getElem?_set_ne (by omega)]; exact stB_get (by omega) (by omega)) (fun _ => rfl) (fun _ => rfl) ?_
      simp only [JJ]
      refine primS (.int .i64 ((j + 1 : Nat) : Int)) ((d_add64 (by omega) (by omega)).trans (by simp)) ?_
      refine primS (.bool true) (spl_inb (by omega)) ?_
      try simp only [JJ]
      refine get_sp (x := .var 5) (i := .var 159) hb (fun _ => rfl) (fun _ => rfl) ?_
      simp only [JJ]
      refine primS (.bool true) (spl_inb (by omega)) ?_
      try simp only [JJ]
      refine get_sp (x := .var 5) (i := .var 1) ha (fun _ => rfl) (fun _ => rfl) ?_
      simp only [JJ]
      refine call_step (f_dens_Ahead hB hA nI (by decide)) rfl ?_
      simp only [JJ]
      have n1 := Num.of (SS.ahd2 hB.sm hA.sm nI.sm)
      refine primS (rlN2 n0 n1) rfl ?_
      refine cs1 (n_rat_Product_2 (n0.mono (by decide)) (n1.mono (by decide)) rfl) ?_
      rw [← hb1]
      simp only [JJ]
      refine primS (.bool true) (rl_inb (by rw [List.length_set, stB_len]; omega)) ?_
      refine primS (rl (((p.stB k).set j (cr 0)).set j (cr (p.b j)))) (rl_set (by rw [List.length_set, stB_len]; omega) rfl) ?_
      refine primS (.int .i64 ((j : Int) - 1)) (d_sub64 (by omega) (by omega)) ?_
      rw [List.set_set]
      exact jump_step rfl hX'
  · obtain rfl : k = p.n - 1 := by omega
    rw [stB_all h1]
    exact ret_step rfl
end
end Go.Px.Na

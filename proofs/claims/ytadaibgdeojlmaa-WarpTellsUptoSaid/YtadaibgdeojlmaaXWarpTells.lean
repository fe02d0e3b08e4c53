/- XWarpTells: the trees of functions and their contracts, as programs of mine printed them. -/
import Derived.Test.YtadaibgdeojlmaaLb
import Derived.Test.YtadaibgdeojlmaaPx24
import Derived.Test.YtadaibgdeojlmaaProg
import Derived.Tactics
set_option maxRecDepth 20000
set_option maxHeartbeats 40000000
set_option linter.unusedVariables false
set_option linter.unusedSimpArgs false
namespace Go.Px
open Go.RowKit
def ir_warp_one : IR :=
 .call F.rat_Of [.one (.int .i64 (1)), .one (.int .i64 (1))] [.agg 3] <|
 .ret [.agg [.var 0, .var 1, .var 2]]

def ir_warp_Fold : IR :=
 .prim (.mk 2) [.var 0, .var 1, .var 2, .var 3, .var 4, .var 5] <|
 .call F.rat_Sum [.one (.var 6)] [.agg 3] <|
 .call F.warp_one [] [.agg 3] <|
 .call F.rat_Cmp [.agg [.var 7, .var 8, .var 9], .agg [.var 10, .var 11, .var 12]] [.one] <|
 .prim (.bin .gtr) [.var 13, .int .i64 (0)] <|
 .ite (.var 14) (
  .call F.warp_one [] [.agg 3] <|
  .call F.rat_Sub [.agg [.var 15, .var 16, .var 17], .agg [.var 0, .var 1, .var 2]] [.agg 3] <|
  .call F.warp_one [] [.agg 3] <|
  .call F.rat_Sub [.agg [.var 21, .var 22, .var 23], .agg [.var 3, .var 4, .var 5]] [.agg 3] <|
  .ret [.agg [.var 18, .var 19, .var 20], .agg [.var 24, .var 25, .var 26]]) (
  .call F.rat_Read [.agg [.var 0, .var 1, .var 2]] [.agg 3] <|
  .call F.rat_Read [.agg [.var 3, .var 4, .var 5]] [.agg 3] <|
  .ret [.agg [.var 15, .var 16, .var 17], .agg [.var 18, .var 19, .var 20]])

def ir_penumbraref14_Fold : IR :=
 .call F.penumbraref03_Add [.agg [.var 0, .var 1, .var 2], .agg [.var 3, .var 4, .var 5]] [.agg 3] <|
 .call F.penumbraref03_One [] [.agg 3] <|
 .call F.penumbraref03_Cmp [.agg [.var 6, .var 7, .var 8], .agg [.var 9, .var 10, .var 11]] [.one] <|
 .prim (.bin .gtr) [.var 12, .int .i64 (0)] <|
 .ite (.var 13) (
  .call F.penumbraref03_One [] [.agg 3] <|
  .call F.penumbraref03_Sub [.agg [.var 14, .var 15, .var 16], .agg [.var 0, .var 1, .var 2]] [.agg 3] <|
  .call F.penumbraref03_One [] [.agg 3] <|
  .call F.penumbraref03_Sub [.agg [.var 20, .var 21, .var 22], .agg [.var 3, .var 4, .var 5]] [.agg 3] <|
  .ret [.agg [.var 17, .var 18, .var 19], .agg [.var 23, .var 24, .var 25]]) (
  .call F.penumbraref03_Read [.agg [.var 0, .var 1, .var 2]] [.agg 3] <|
  .call F.penumbraref03_Read [.agg [.var 3, .var 4, .var 5]] [.agg 3] <|
  .ret [.agg [.var 14, .var 15, .var 16], .agg [.var 17, .var 18, .var 19]])

def ir_warp_over : IR :=
 .call F.rat_Div [.agg [.var 0, .var 1, .var 2], .agg [.var 3, .var 4, .var 5]] [.agg 3, .one] <|
 .ret [.agg [.var 6, .var 7, .var 8]]

def ir_warp_Line : IR :=
 .call F.rat_Sign [.agg [.var 0, .var 1, .var 2]] [.one] <|
 .prim (.bin .leq) [.var 3, .int .i64 (0)] <|
 .ite (.var 4) (
  .call F.rat_Of [.one (.int .i64 (0)), .one (.int .i64 (1))] [.agg 3] <|
  .ret [.agg [.var 5, .var 6, .var 7], .one (.bol false)]) (
  .call F.warp_one [] [.agg 3] <|
  .call F.rat_Cmp [.agg [.var 0, .var 1, .var 2], .agg [.var 5, .var 6, .var 7]] [.one] <|
  .prim (.bin .geq) [.var 8, .int .i64 (0)] <|
  .ite (.var 9) (
   .call F.rat_Of [.one (.int .i64 (0)), .one (.int .i64 (1))] [.agg 3] <|
   .ret [.agg [.var 10, .var 11, .var 12], .one (.bol false)]) (
   .prim (.mk 2) [.var 0, .var 1, .var 2, .var 0, .var 1, .var 2] <|
   .call F.rat_Sum [.one (.var 10)] [.agg 3] <|
   .call F.warp_one [] [.agg 3] <|
   .call F.rat_Sub [.agg [.var 11, .var 12, .var 13], .agg [.var 14, .var 15, .var 16]] [.agg 3] <|
   .call F.warp_one [] [.agg 3] <|
   .call F.rat_Abs [.agg [.var 17, .var 18, .var 19]] [.agg 3] <|
   .call F.rat_Sub [.agg [.var 20, .var 21, .var 22], .agg [.var 23, .var 24, .var 25]] [.agg 3] <|
   .call F.warp_over [.agg [.var 17, .var 18, .var 19], .agg [.var 26, .var 27, .var 28]] [.agg 3] <|
   .ret [.agg [.var 29, .var 30, .var 31], .one (.bol true)]))

def ir_penumbraref14_Line : IR :=
 .call F.penumbraref03_Sign [.agg [.var 0, .var 1, .var 2]] [.one] <|
 .prim (.bin .leq) [.var 3, .int .i64 (0)] <|
 .ite (.var 4) (
  .call F.penumbraref03_Zero [] [.agg 3] <|
  .ret [.agg [.var 5, .var 6, .var 7], .one (.bol false)]) (
  .call F.penumbraref03_One [] [.agg 3] <|
  .call F.penumbraref03_Cmp [.agg [.var 0, .var 1, .var 2], .agg [.var 5, .var 6, .var 7]] [.one] <|
  .prim (.bin .geq) [.var 8, .int .i64 (0)] <|
  .ite (.var 9) (
   .call F.penumbraref03_Zero [] [.agg 3] <|
   .ret [.agg [.var 10, .var 11, .var 12], .one (.bol false)]) (
   .call F.penumbraref03_Of [.one (.int .i64 (2)), .one (.int .i64 (1))] [.agg 3] <|
   .call F.penumbraref03_Mul [.agg [.var 10, .var 11, .var 12], .agg [.var 0, .var 1, .var 2]] [.agg 3] <|
   .call F.penumbraref03_One [] [.agg 3] <|
   .call F.penumbraref03_Sub [.agg [.var 13, .var 14, .var 15], .agg [.var 16, .var 17, .var 18]] [.agg 3] <|
   .call F.penumbraref03_One [] [.agg 3] <|
   .call F.penumbraref03_Abs [.agg [.var 19, .var 20, .var 21]] [.agg 3] <|
   .call F.penumbraref03_Sub [.agg [.var 22, .var 23, .var 24], .agg [.var 25, .var 26, .var 27]] [.agg 3] <|
   .call F.penumbraref03_Over [.agg [.var 19, .var 20, .var 21], .agg [.var 28, .var 29, .var 30]] [.agg 3] <|
   .ret [.agg [.var 31, .var 32, .var 33], .one (.bol true)]))

def ir_warp_Pick : IR :=
 .prim .len [.var 0] <|
 .prim (.bin .gtr) [.var 4, .int .i64 (1000)] <|
 .ite (.var 5) (
  .ret [.one (.int .i64 (0)), .one (.bol false)]) (
  .call F.rat_Sign [.agg [.var 1, .var 2, .var 3]] [.one] <|
  .prim (.bin .lss) [.var 6, .int .i64 (0)] <|
  .ite (.var 7) (
   .ret [.one (.int .i64 (0)), .one (.bol false)]) (
   .call F.warp_one [] [.agg 3] <|
   .call F.rat_Cmp [.agg [.var 1, .var 2, .var 3], .agg [.var 8, .var 9, .var 10]] [.one] <|
   .prim (.bin .geq) [.var 11, .int .i64 (0)] <|
   .ite (.var 12) (
    .ret [.one (.int .i64 (0)), .one (.bol false)]) (
    .prim .len [.var 0] <|
    .loop [.var 0, .int .i64 (0), .var 13, .int .i64 (0), .var 1, .var 2, .var 3] (
     .prim (.bin .lss) [.var 3, .var 2] <|
     .ite (.var 7) (
      .prim (.inb 1) [.var 0, .var 3] <|
      .prim (.get 1 0) [.var 0, .var 3] <|
      .prim (.bin .lss) [.var 9, .int .i64 (0)] <|
      .ite (.var 10) (
       .ret [.one (.int .i64 (0)), .one (.bol false)]) (
       .prim (.bin .gtr) [.var 9, .int .i64 (1048576)] <|
       .ite (.var 11) (
        .ret [.one (.int .i64 (0)), .one (.bol false)]) (
        .prim (.bin .add) [.var 1, .var 9] <|
        .prim (.bin .add) [.var 3, .int .i64 (1)] <|
        .jump 0 [.var 0, .var 12, .var 2, .var 13, .var 4, .var 5, .var 6]))) (
      .call F.rat_Of [.one (.var 1), .one (.int .i64 (1))] [.agg 3] <|
      .prim (.mk 2) [.var 4, .var 5, .var 6, .var 8, .var 9, .var 10] <|
      .call F.rat_Product [.one (.var 11)] [.agg 3] <|
      .prim .len [.var 0] <|
      .loop [.int .i64 (0), .var 0, .var 15, .int .i64 (0), .var 12, .var 13, .var 14] (
       .prim (.bin .lss) [.var 3, .var 2] <|
       .ite (.var 7) (
        .prim (.inb 1) [.var 1, .var 3] <|
        .prim (.get 1 0) [.var 1, .var 3] <|
        .prim (.bin .add) [.var 0, .var 9] <|
        .call F.rat_Of [.one (.var 10), .one (.int .i64 (1))] [.agg 3] <|
        .call F.rat_Cmp [.agg [.var 4, .var 5, .var 6], .agg [.var 11, .var 12, .var 13]] [.one] <|
        .prim (.bin .lss) [.var 14, .int .i64 (0)] <|
        .ite (.var 15) (
         .ret [.one (.var 3), .one (.bol true)]) (
         .prim (.bin .add) [.var 3, .int .i64 (1)] <|
         .jump 1 [.var 10, .var 1, .var 2, .var 16, .var 4, .var 5, .var 6])) (
        .ret [.one (.int .i64 (0)), .one (.bol false)])))))))

def ir_warp_Back : IR :=
 .call F.warp_one [] [.agg 3] <|
 .call F.rat_Abs [.agg [.var 0, .var 1, .var 2]] [.agg 3] <|
 .prim (.mk 2) [.var 3, .var 4, .var 5, .var 6, .var 7, .var 8] <|
 .call F.rat_Sum [.one (.var 9)] [.agg 3] <|
 .call F.warp_over [.agg [.var 0, .var 1, .var 2], .agg [.var 10, .var 11, .var 12]] [.agg 3] <|
 .call F.rat_Of [.one (.int .i64 (1)), .one (.int .i64 (2))] [.agg 3] <|
 .call F.warp_one [] [.agg 3] <|
 .prim (.mk 2) [.var 19, .var 20, .var 21, .var 13, .var 14, .var 15] <|
 .call F.rat_Sum [.one (.var 22)] [.agg 3] <|
 .prim (.mk 2) [.var 16, .var 17, .var 18, .var 23, .var 24, .var 25] <|
 .call F.rat_Product [.one (.var 26)] [.agg 3] <|
 .ret [.agg [.var 27, .var 28, .var 29]]

def ir_warp_Density : IR :=
 .call F.warp_one [] [.agg 3] <|
 .call F.rat_Abs [.agg [.var 0, .var 1, .var 2]] [.agg 3] <|
 .prim (.mk 2) [.var 3, .var 4, .var 5, .var 6, .var 7, .var 8] <|
 .call F.rat_Sum [.one (.var 9)] [.agg 3] <|
 .call F.rat_Of [.one (.int .i64 (1)), .one (.int .i64 (2))] [.agg 3] <|
 .prim (.mk 2) [.var 10, .var 11, .var 12, .var 10, .var 11, .var 12] <|
 .call F.rat_Product [.one (.var 16)] [.agg 3] <|
 .call F.warp_over [.agg [.var 13, .var 14, .var 15], .agg [.var 17, .var 18, .var 19]] [.agg 3] <|
 .ret [.agg [.var 20, .var 21, .var 22]]

def ir_penumbralaw14_fixed : IR :=
 .call F.rat_Of [.one (.int .i64 (3)), .one (.int .i64 (4))] [.agg 3] <|
 .call F.rat_Of [.one (.int .i64 (1)), .one (.int .i64 (2))] [.agg 3] <|
 .call F.warp_Fold [.agg [.var 0, .var 1, .var 2], .agg [.var 3, .var 4, .var 5]] [.agg 3, .agg 3] <|
 .call F.rat_Of [.one (.int .i64 (1)), .one (.int .i64 (8))] [.agg 3] <|
 .call F.warp_Line [.agg [.var 12, .var 13, .var 14]] [.agg 3, .one] <|
 .call F.rat_Of [.one (.int .i64 (1)), .one (.int .i64 (1))] [.agg 3] <|
 .call F.warp_Line [.agg [.var 19, .var 20, .var 21]] [.agg 3, .one] <|
 .prim (.mk 3) [.int .i64 (1), .int .i64 (0), .int .i64 (3)] <|
 .call F.rat_Of [.one (.int .i64 (1)), .one (.int .i64 (4))] [.agg 3] <|
 .call F.warp_Pick [.one (.var 26), .agg [.var 27, .var 28, .var 29]] [.one, .one] <|
 .prim (.mk 3) [.int .i64 (1), .int .i64 (0), .int .i64 (3)] <|
 .call F.rat_Of [.one (.int .i64 (1)), .one (.int .i64 (8))] [.agg 3] <|
 .call F.warp_Pick [.one (.var 32), .agg [.var 33, .var 34, .var 35]] [.one, .one] <|
 .call F.penumbraref03_Of [.one (.int .i64 (1)), .one (.int .i64 (4))] [.agg 3] <|
 .call F.penumbraref03_Is [.agg [.var 6, .var 7, .var 8], .agg [.var 38, .var 39, .var 40]] [.one] <|
 .ite (.var 41) (
  .call F.penumbraref03_Of [.one (.int .i64 (1)), .one (.int .i64 (2))] [.agg 3] <|
  .call F.penumbraref03_Is [.agg [.var 9, .var 10, .var 11], .agg [.var 42, .var 43, .var 44]] [.one] <|
  .ite (.var 45) (
   .call F.penumbraref03_Of [.one (.int .i64 (-3)), .one (.int .i64 (1))] [.agg 3] <|
   .call F.penumbraref03_Is [.agg [.var 15, .var 16, .var 17], .agg [.var 46, .var 47, .var 48]] [.one] <|
   .ite (.var 49) (
    .ite (.var 18) (
     .prim .not [.var 25] <|
     .ite (.var 50) (
      .prim (.bin .eql) [.var 30, .int .i64 (2)] <|
      .ite (.var 51) (
       .ite (.var 31) (
        .prim (.bin .eql) [.var 36, .int .i64 (0)] <|
        .ite (.var 52) (
         .ite (.var 37) (
          .call F.rat_Of [.one (.int .i64 (1)), .one (.int .i64 (1))] [.agg 3] <|
          .call F.warp_Back [.agg [.var 53, .var 54, .var 55]] [.agg 3] <|
          .call F.penumbraref03_Of [.one (.int .i64 (3)), .one (.int .i64 (4))] [.agg 3] <|
          .call F.penumbraref03_Is [.agg [.var 56, .var 57, .var 58], .agg [.var 59, .var 60, .var 61]] [.one] <|
          .ite (.var 62) (
           .call F.rat_Of [.one (.int .i64 (-1)), .one (.int .i64 (1))] [.agg 3] <|
           .call F.warp_Density [.agg [.var 63, .var 64, .var 65]] [.agg 3] <|
           .call F.penumbraref03_Of [.one (.int .i64 (1)), .one (.int .i64 (8))] [.agg 3] <|
           .call F.penumbraref03_Is [.agg [.var 66, .var 67, .var 68], .agg [.var 69, .var 70, .var 71]] [.one] <|
           .ret [.one (.var 72)]) (
           .ret [.one (.bol false)])) (
          .ret [.one (.bol false)])) (
         .ret [.one (.bol false)])) (
        .ret [.one (.bol false)])) (
       .ret [.one (.bol false)])) (
      .ret [.one (.bol false)])) (
     .ret [.one (.bol false)])) (
    .ret [.one (.bol false)])) (
   .ret [.one (.bol false)])) (
  .ret [.one (.bol false)])

def ir_penumbraref14_Back : IR :=
 .call F.penumbraref03_One [] [.agg 3] <|
 .call F.penumbraref03_Abs [.agg [.var 0, .var 1, .var 2]] [.agg 3] <|
 .call F.penumbraref03_Add [.agg [.var 3, .var 4, .var 5], .agg [.var 6, .var 7, .var 8]] [.agg 3] <|
 .call F.penumbraref03_One [] [.agg 3] <|
 .call F.penumbraref03_Over [.agg [.var 0, .var 1, .var 2], .agg [.var 9, .var 10, .var 11]] [.agg 3] <|
 .call F.penumbraref03_Add [.agg [.var 12, .var 13, .var 14], .agg [.var 15, .var 16, .var 17]] [.agg 3] <|
 .call F.penumbraref03_Of [.one (.int .i64 (2)), .one (.int .i64 (1))] [.agg 3] <|
 .call F.penumbraref03_Over [.agg [.var 18, .var 19, .var 20], .agg [.var 21, .var 22, .var 23]] [.agg 3] <|
 .ret [.agg [.var 24, .var 25, .var 26]]

def ir_penumbraref14_Density : IR :=
 .call F.penumbraref03_One [] [.agg 3] <|
 .call F.penumbraref03_Abs [.agg [.var 0, .var 1, .var 2]] [.agg 3] <|
 .call F.penumbraref03_Add [.agg [.var 3, .var 4, .var 5], .agg [.var 6, .var 7, .var 8]] [.agg 3] <|
 .call F.penumbraref03_One [] [.agg 3] <|
 .call F.penumbraref03_Of [.one (.int .i64 (2)), .one (.int .i64 (1))] [.agg 3] <|
 .call F.penumbraref03_Mul [.agg [.var 9, .var 10, .var 11], .agg [.var 9, .var 10, .var 11]] [.agg 3] <|
 .call F.penumbraref03_Mul [.agg [.var 15, .var 16, .var 17], .agg [.var 18, .var 19, .var 20]] [.agg 3] <|
 .call F.penumbraref03_Over [.agg [.var 12, .var 13, .var 14], .agg [.var 21, .var 22, .var 23]] [.agg 3] <|
 .ret [.agg [.var 24, .var 25, .var 26]]

def ir_penumbralaw14_WarpTells : IR :=
 .call F.warp_Fold [.agg [.var 0, .var 1, .var 2], .agg [.var 3, .var 4, .var 5]] [.agg 3, .agg 3] <|
 .call F.penumbraref14_Fold [.agg [.var 0, .var 1, .var 2], .agg [.var 3, .var 4, .var 5]] [.agg 3, .agg 3] <|
 .call F.warp_Line [.agg [.var 0, .var 1, .var 2]] [.agg 3, .one] <|
 .call F.penumbraref14_Line [.agg [.var 0, .var 1, .var 2]] [.agg 3, .one] <|
 .call F.penumbralaw14_fixed [] [.one] <|
 .ite (.var 26) (
  .call F.penumbraref03_Is [.agg [.var 6, .var 7, .var 8], .agg [.var 12, .var 13, .var 14]] [.one] <|
  .ite (.var 27) (
   .call F.penumbraref03_Is [.agg [.var 9, .var 10, .var 11], .agg [.var 15, .var 16, .var 17]] [.one] <|
   .ite (.var 28) (
    .call F.penumbraref03_Is [.agg [.var 18, .var 19, .var 20], .agg [.var 22, .var 23, .var 24]] [.one] <|
    .ite (.var 29) (
     .prim (.beq false) [.var 21, .var 25] <|
     .ite (.var 30) (
      .call F.warp_Back [.agg [.var 3, .var 4, .var 5]] [.agg 3] <|
      .call F.penumbraref14_Back [.agg [.var 3, .var 4, .var 5]] [.agg 3] <|
      .call F.penumbraref03_Is [.agg [.var 31, .var 32, .var 33], .agg [.var 34, .var 35, .var 36]] [.one] <|
      .ite (.var 37) (
       .call F.warp_Density [.agg [.var 3, .var 4, .var 5]] [.agg 3] <|
       .call F.penumbraref14_Density [.agg [.var 3, .var 4, .var 5]] [.agg 3] <|
       .call F.penumbraref03_Is [.agg [.var 38, .var 39, .var 40], .agg [.var 41, .var 42, .var 43]] [.one] <|
       .ret [.one (.var 44)]) (
       .ret [.one (.bol false)])) (
      .ret [.one (.bol false)])) (
     .ret [.one (.bol false)])) (
    .ret [.one (.bol false)])) (
   .ret [.one (.bol false)])) (
  .ret [.one (.bol false)])

theorem tree_warp_one : symFunc Go.Proofs.Try.prog H0 400 F.warp_one [] = some ir_warp_one := by kernel_rfl
theorem tree_warp_Fold : symFunc Go.Proofs.Try.prog H0 400 F.warp_Fold [.agg 3, .agg 3] = some ir_warp_Fold := by kernel_rfl
theorem tree_penumbraref14_Fold : symFunc Go.Proofs.Try.prog H0 400 F.penumbraref14_Fold [.agg 3, .agg 3] = some ir_penumbraref14_Fold := by kernel_rfl
theorem tree_warp_over : symFunc Go.Proofs.Try.prog H0 400 F.warp_over [.agg 3, .agg 3] = some ir_warp_over := by kernel_rfl
theorem tree_warp_Line : symFunc Go.Proofs.Try.prog H0 400 F.warp_Line [.agg 3] = some ir_warp_Line := by kernel_rfl
theorem tree_penumbraref14_Line : symFunc Go.Proofs.Try.prog H0 400 F.penumbraref14_Line [.agg 3] = some ir_penumbraref14_Line := by kernel_rfl
theorem tree_warp_Pick : symFunc Go.Proofs.Try.prog ⟨fun f => [].contains f, fun f i => if f = 99 ∧ i = 5 then [⟨[(0, .s (.one (.at (.var 0)))), (3, .s (.one (.lp 0 0))), (6, .s (.one (.at (.var 1)))), (27, .s (.one (.at (.var 0)))), (28, .s (.one (.at (.var 2)))), (29, .s (.one (.at (.var 3))))], [], [(0, .box [.at (.var 4), .at (.var 5), .at (.var 6)] 24 false)], 1, 7⟩] else if f = 99 ∧ i = 14 then [⟨[(9, .s (.one (.lp 0 0))), (10, .s (.one (.at (.var 0)))), (48, .s (.one (.at (.var 1)))), (49, .s (.one (.at (.var 2)))), (50, .s (.one (.at (.var 3))))], [], [(0, .box [.at (.var 4), .at (.var 5), .at (.var 6)] 24 false)], 1, 7⟩] else [], fun f i => [], fun f => [].contains f⟩ 400 F.warp_Pick [.one, .agg 3] = some ir_warp_Pick := by kernel_rfl
theorem tree_warp_Back : symFunc Go.Proofs.Try.prog H0 400 F.warp_Back [.agg 3] = some ir_warp_Back := by kernel_rfl
theorem tree_warp_Density : symFunc Go.Proofs.Try.prog H0 400 F.warp_Density [.agg 3] = some ir_warp_Density := by kernel_rfl
theorem tree_penumbralaw14_fixed : symFunc Go.Proofs.Try.prog H0 400 F.penumbralaw14_fixed [] = some ir_penumbralaw14_fixed := by kernel_rfl
theorem tree_penumbraref14_Back : symFunc Go.Proofs.Try.prog H0 400 F.penumbraref14_Back [.agg 3] = some ir_penumbraref14_Back := by kernel_rfl
theorem tree_penumbraref14_Density : symFunc Go.Proofs.Try.prog H0 400 F.penumbraref14_Density [.agg 3] = some ir_penumbraref14_Density := by kernel_rfl
theorem tree_penumbralaw14_WarpTells : symFunc Go.Proofs.Try.prog H0 400 F.penumbralaw14_WarpTells [.agg 3, .agg 3] = some ir_penumbralaw14_WarpTells := by kernel_rfl
end Go.Px
namespace Go.Px.Na
open Go.RowKit
open Go.Proofs.Try (prog)

theorem n_warp_one_0 {Z1 : Rat} (Y1 : Z1 = (1 : Rat))    : PureCalls prog F.warp_one [] [.agg ([.bool (decide ((Z1).num < 0)), nn (Z1).num.natAbs, nn (Z1).den])] := by
  refine symFunc_sound hmix tree_warp_one (by kernel_rfl) rfl ?_
  unfold ir_warp_one
  simp only [fa_agg, fa_one, fa_nil, List.cons_append, List.nil_append, List.append_nil]
  refine call_step (n_rat_Of (1) (1) (by decide) (by decide) (by decide) (by decide) (Y1.trans (by decide +kernel))) rfl ?_
  simp only [fa_agg, fa_one, fa_nil, List.cons_append, List.nil_append, List.append_nil]
  exact ret_step rfl

theorem n_warp_Fold_0 {Z1 : Rat} (Y1 : Z1 = (1 : Rat)) {r0 r1 : RR} {x0 x1 : Rat} {k0 k1 k2 : Rat} (h0 : Num 9000000000 r0 x0) (h1 : Num 9000000000 r1 x1) (e0 : k0 = (x0 + x1)) (e1 : k1 = (Z1 - x0)) (e2 : k2 = (Z1 - x1)) (c0 : Z1 < k0) : PureCalls prog F.warp_Fold [.agg ([.bool r0.neg, nl r0.num, nl r0.den]), .agg ([.bool r1.neg, nl r1.num, nl r1.den])] [.agg ([.bool (decide ((k1).num < 0)), nn (k1).num.natAbs, nn (k1).den]), .agg ([.bool (decide ((k2).num < 0)), nn (k2).num.natAbs, nn (k2).den])] := by
  subst e0 e1 e2
  refine symFunc_sound hmix tree_warp_Fold (by kernel_rfl) rfl ?_
  unfold ir_warp_Fold
  simp only [fa_agg, fa_one, fa_nil, List.cons_append, List.nil_append, List.append_nil]
  refine primS (rl [r0, r1]) rfl ?_
  refine call_step (n_rat_Sum_2 (k0 := (x0 + x1)) (h0.mono (by decide)) (h1.mono (by decide)) rfl) rfl ?_
  simp only [fa_agg, fa_one, fa_nil, List.cons_append, List.nil_append, List.append_nil]
  refine call_step (n_warp_one_0 Y1) rfl ?_
  simp only [fa_agg, fa_one, fa_nil, List.cons_append, List.nil_append, List.append_nil]
  have m8 : Num 18000000001 (cr (x0 + x1)) (x0 + x1) := Num.of (Sm.add h0.sm h1.sm)
  have m9 : Num 1 (cr Z1) Z1 := Num.c Y1 (by decide +kernel) (by decide +kernel)
  refine call_step (n_rat_Cmp (m8.mono (by decide)) (m9.mono (by decide))) rfl ?_
  simp only [fa_agg, fa_one, fa_nil, List.cons_append, List.nil_append, List.append_nil]
  refine primS (.bool true) (cs_gtr_t (cq_gt.2 c0)) ?_
  refine itT rfl ?_
  refine call_step (n_warp_one_0 Y1) rfl ?_
  simp only [fa_agg, fa_one, fa_nil, List.cons_append, List.nil_append, List.append_nil]
  refine call_step (n_rat_Sub (k0 := (Z1 - x0)) (m9.mono (by decide)) (h0.mono (by decide)) rfl) rfl ?_
  simp only [fa_agg, fa_one, fa_nil, List.cons_append, List.nil_append, List.append_nil]
  refine call_step (n_warp_one_0 Y1) rfl ?_
  simp only [fa_agg, fa_one, fa_nil, List.cons_append, List.nil_append, List.append_nil]
  refine call_step (n_rat_Sub (k0 := (Z1 - x1)) (m9.mono (by decide)) (h1.mono (by decide)) rfl) rfl ?_
  simp only [fa_agg, fa_one, fa_nil, List.cons_append, List.nil_append, List.append_nil]
  exact ret_step rfl

theorem n_warp_Fold_1 {Z1 : Rat} (Y1 : Z1 = (1 : Rat)) {r0 r1 : RR} {x0 x1 : Rat} {k0 : Rat} (h0 : Num 9000000000 r0 x0) (h1 : Num 9000000000 r1 x1) (e0 : k0 = (x0 + x1)) (c0 : ¬Z1 < k0) : PureCalls prog F.warp_Fold [.agg ([.bool r0.neg, nl r0.num, nl r0.den]), .agg ([.bool r1.neg, nl r1.num, nl r1.den])] [.agg ([.bool (decide ((x0).num < 0)), nn (x0).num.natAbs, nn (x0).den]), .agg ([.bool (decide ((x1).num < 0)), nn (x1).num.natAbs, nn (x1).den])] := by
  subst e0
  refine symFunc_sound hmix tree_warp_Fold (by kernel_rfl) rfl ?_
  unfold ir_warp_Fold
  simp only [fa_agg, fa_one, fa_nil, List.cons_append, List.nil_append, List.append_nil]
  refine primS (rl [r0, r1]) rfl ?_
  refine call_step (n_rat_Sum_2 (k0 := (x0 + x1)) (h0.mono (by decide)) (h1.mono (by decide)) rfl) rfl ?_
  simp only [fa_agg, fa_one, fa_nil, List.cons_append, List.nil_append, List.append_nil]
  refine call_step (n_warp_one_0 Y1) rfl ?_
  simp only [fa_agg, fa_one, fa_nil, List.cons_append, List.nil_append, List.append_nil]
  have m11 : Num 18000000001 (cr (x0 + x1)) (x0 + x1) := Num.of (Sm.add h0.sm h1.sm)
  have m12 : Num 1 (cr Z1) Z1 := Num.c Y1 (by decide +kernel) (by decide +kernel)
  refine call_step (n_rat_Cmp (m11.mono (by decide)) (m12.mono (by decide))) rfl ?_
  simp only [fa_agg, fa_one, fa_nil, List.cons_append, List.nil_append, List.append_nil]
  refine primS (.bool false) (cs_gtr_f (fun z => c0 (cq_gt.1 z))) ?_
  refine itF rfl ?_
  refine call_step (n_rat_Read (h0.mono (by decide))) rfl ?_
  simp only [fa_agg, fa_one, fa_nil, List.cons_append, List.nil_append, List.append_nil]
  refine call_step (n_rat_Read (h1.mono (by decide))) rfl ?_
  simp only [fa_agg, fa_one, fa_nil, List.cons_append, List.nil_append, List.append_nil]
  exact ret_step rfl

theorem n_penumbraref14_Fold_0 {Z1 : Rat} (Y1 : Z1 = (1 : Rat)) {r0 r1 : RR} {x0 x1 : Rat} {k0 k1 k2 : Rat} (h0 : Num 9000000000 r0 x0) (h1 : Num 9000000000 r1 x1) (e0 : k0 = (x0 + x1)) (e1 : k1 = (Z1 - x0)) (e2 : k2 = (Z1 - x1)) (c0 : Z1 < k0) : PureCalls prog F.penumbraref14_Fold [.agg ([.bool r0.neg, nl r0.num, nl r0.den]), .agg ([.bool r1.neg, nl r1.num, nl r1.den])] [.agg ([.bool (decide ((k1).num < 0)), nn (k1).num.natAbs, nn (k1).den]), .agg ([.bool (decide ((k2).num < 0)), nn (k2).num.natAbs, nn (k2).den])] := by
  subst e0 e1 e2
  refine symFunc_sound hmix tree_penumbraref14_Fold (by kernel_rfl) rfl ?_
  unfold ir_penumbraref14_Fold
  simp only [fa_agg, fa_one, fa_nil, List.cons_append, List.nil_append, List.append_nil]
  refine call_step (n_penumbraref03_Add (k0 := (x0 + x1)) (h0.mono (by decide)) (h1.mono (by decide)) rfl) rfl ?_
  simp only [fa_agg, fa_one, fa_nil, List.cons_append, List.nil_append, List.append_nil]
  refine call_step (n_penumbraref03_One Y1) rfl ?_
  simp only [fa_agg, fa_one, fa_nil, List.cons_append, List.nil_append, List.append_nil]
  have m17 : Num 18000000001 (cr (x0 + x1)) (x0 + x1) := Num.of (Sm.add h0.sm h1.sm)
  have m18 : Num 1 (cr Z1) Z1 := Num.c Y1 (by decide +kernel) (by decide +kernel)
  refine call_step (n_penumbraref03_Cmp (m17.mono (by decide)) (m18.mono (by decide))) rfl ?_
  simp only [fa_agg, fa_one, fa_nil, List.cons_append, List.nil_append, List.append_nil]
  refine primS (.bool true) (cs_gtr_t (cq_gt.2 c0)) ?_
  refine itT rfl ?_
  refine call_step (n_penumbraref03_One Y1) rfl ?_
  simp only [fa_agg, fa_one, fa_nil, List.cons_append, List.nil_append, List.append_nil]
  refine call_step (n_penumbraref03_Sub (k0 := (Z1 - x0)) (m18.mono (by decide)) (h0.mono (by decide)) rfl) rfl ?_
  simp only [fa_agg, fa_one, fa_nil, List.cons_append, List.nil_append, List.append_nil]
  refine call_step (n_penumbraref03_One Y1) rfl ?_
  simp only [fa_agg, fa_one, fa_nil, List.cons_append, List.nil_append, List.append_nil]
  refine call_step (n_penumbraref03_Sub (k0 := (Z1 - x1)) (m18.mono (by decide)) (h1.mono (by decide)) rfl) rfl ?_
  simp only [fa_agg, fa_one, fa_nil, List.cons_append, List.nil_append, List.append_nil]
  exact ret_step rfl

theorem n_penumbraref14_Fold_1 {Z1 : Rat} (Y1 : Z1 = (1 : Rat)) {r0 r1 : RR} {x0 x1 : Rat} {k0 : Rat} (h0 : Num 9000000000 r0 x0) (h1 : Num 9000000000 r1 x1) (e0 : k0 = (x0 + x1)) (c0 : ¬Z1 < k0) : PureCalls prog F.penumbraref14_Fold [.agg ([.bool r0.neg, nl r0.num, nl r0.den]), .agg ([.bool r1.neg, nl r1.num, nl r1.den])] [.agg ([.bool (decide ((x0).num < 0)), nn (x0).num.natAbs, nn (x0).den]), .agg ([.bool (decide ((x1).num < 0)), nn (x1).num.natAbs, nn (x1).den])] := by
  subst e0
  refine symFunc_sound hmix tree_penumbraref14_Fold (by kernel_rfl) rfl ?_
  unfold ir_penumbraref14_Fold
  simp only [fa_agg, fa_one, fa_nil, List.cons_append, List.nil_append, List.append_nil]
  refine call_step (n_penumbraref03_Add (k0 := (x0 + x1)) (h0.mono (by decide)) (h1.mono (by decide)) rfl) rfl ?_
  simp only [fa_agg, fa_one, fa_nil, List.cons_append, List.nil_append, List.append_nil]
  refine call_step (n_penumbraref03_One Y1) rfl ?_
  simp only [fa_agg, fa_one, fa_nil, List.cons_append, List.nil_append, List.append_nil]
  have m19 : Num 18000000001 (cr (x0 + x1)) (x0 + x1) := Num.of (Sm.add h0.sm h1.sm)
  have m20 : Num 1 (cr Z1) Z1 := Num.c Y1 (by decide +kernel) (by decide +kernel)
  refine call_step (n_penumbraref03_Cmp (m19.mono (by decide)) (m20.mono (by decide))) rfl ?_
  simp only [fa_agg, fa_one, fa_nil, List.cons_append, List.nil_append, List.append_nil]
  refine primS (.bool false) (cs_gtr_f (fun z => c0 (cq_gt.1 z))) ?_
  refine itF rfl ?_
  refine call_step (n_penumbraref03_Read (h0.mono (by decide))) rfl ?_
  simp only [fa_agg, fa_one, fa_nil, List.cons_append, List.nil_append, List.append_nil]
  refine call_step (n_penumbraref03_Read (h1.mono (by decide))) rfl ?_
  simp only [fa_agg, fa_one, fa_nil, List.cons_append, List.nil_append, List.append_nil]
  exact ret_step rfl

theorem n_warp_over_1 {Z0 : Rat} (Y0 : Z0 = (0 : Rat)) {r0 r1 : RR} {x0 x1 : Rat} {k0 : Rat} (h0 : Num 9000000000 r0 x0) (h1 : Num 9000000000 r1 x1) (e0 : k0 = (x0 / x1)) (c0 : ¬x1 = Z0) : PureCalls prog F.warp_over [.agg ([.bool r0.neg, nl r0.num, nl r0.den]), .agg ([.bool r1.neg, nl r1.num, nl r1.den])] [.agg ([.bool (decide ((k0).num < 0)), nn (k0).num.natAbs, nn (k0).den])] := by
  subst e0
  refine symFunc_sound hmix tree_warp_over (by kernel_rfl) rfl ?_
  unfold ir_warp_over
  simp only [fa_agg, fa_one, fa_nil, List.cons_append, List.nil_append, List.append_nil]
  refine call_step (n_rat_Div_f (k0 := (x0 / x1)) Y0 (h0.mono (by decide)) (h1.mono (by decide)) rfl c0) rfl ?_
  simp only [fa_agg, fa_one, fa_nil, List.cons_append, List.nil_append, List.append_nil]
  exact ret_step rfl

theorem n_warp_Line_1 {Z0 Z1 : Rat} (Y0 : Z0 = (0 : Rat)) (Y1 : Z1 = (1 : Rat)) {r0 : RR} {x0 : Rat} {k0 k1 k2 : Rat} (h0 : Num 900000000 r0 x0) (e0 : k0 = ((x0 + x0) - Z1)) (e1 : k1 = (Z1 - (-k0))) (e2 : k2 = (k0 / k1)) (c0 : Z0 < x0) (c1 : x0 < Z1) (c2 : k0 < Z0) (c3 : ¬k1 = Z0) : PureCalls prog F.warp_Line [.agg ([.bool r0.neg, nl r0.num, nl r0.den])] [.agg ([.bool (decide ((k2).num < 0)), nn (k2).num.natAbs, nn (k2).den]), .one (.bool true)] := by
  subst e0 e1 e2
  refine symFunc_sound hmix tree_warp_Line (by kernel_rfl) rfl ?_
  unfold ir_warp_Line
  simp only [fa_agg, fa_one, fa_nil, List.cons_append, List.nil_append, List.append_nil]
  refine call_step (n_rat_Sign (h0.mono (by decide))) rfl ?_
  simp only [fa_agg, fa_one, fa_nil, List.cons_append, List.nil_append, List.append_nil]
  refine primS (.bool false) (cs_leq_f ((sg_gt Y0).2 c0)) ?_
  refine itF rfl ?_
  refine call_step (n_warp_one_0 Y1) rfl ?_
  simp only [fa_agg, fa_one, fa_nil, List.cons_append, List.nil_append, List.append_nil]
  have m55 : Num 1 (cr Z1) Z1 := Num.c Y1 (by decide +kernel) (by decide +kernel)
  refine call_step (n_rat_Cmp (h0.mono (by decide)) (m55.mono (by decide))) rfl ?_
  simp only [fa_agg, fa_one, fa_nil, List.cons_append, List.nil_append, List.append_nil]
  refine primS (.bool false) (cs_geq_f (cq_lt.2 c1)) ?_
  refine itF rfl ?_
  refine primS (rl [r0, r0]) rfl ?_
  refine call_step (n_rat_Sum_2 (k0 := (x0 + x0)) (h0.mono (by decide)) (h0.mono (by decide)) rfl) rfl ?_
  simp only [fa_agg, fa_one, fa_nil, List.cons_append, List.nil_append, List.append_nil]
  refine call_step (n_warp_one_0 Y1) rfl ?_
  simp only [fa_agg, fa_one, fa_nil, List.cons_append, List.nil_append, List.append_nil]
  have m57 : Num 1800000001 (cr (x0 + x0)) (x0 + x0) := Num.of (Sm.add h0.sm h0.sm)
  refine call_step (n_rat_Sub (k0 := ((x0 + x0) - Z1)) (m57.mono (by decide)) (m55.mono (by decide)) rfl) rfl ?_
  simp only [fa_agg, fa_one, fa_nil, List.cons_append, List.nil_append, List.append_nil]
  refine call_step (n_warp_one_0 Y1) rfl ?_
  simp only [fa_agg, fa_one, fa_nil, List.cons_append, List.nil_append, List.append_nil]
  have m58 : Num 1800000003 (cr ((x0 + x0) - Z1)) ((x0 + x0) - Z1) := Num.of (Sm.sub m57.sm m55.sm)
  refine call_step (n_rat_Abs_t (k0 := (-((x0 + x0) - Z1))) Y0 (m58.mono (by decide)) rfl c2) rfl ?_
  simp only [fa_agg, fa_one, fa_nil, List.cons_append, List.nil_append, List.append_nil]
  have m59 : Num 1800000003 (cr (-((x0 + x0) - Z1))) (-((x0 + x0) - Z1)) := Num.of (Sm.neg m58.sm)
  refine call_step (n_rat_Sub (k0 := (Z1 - (-((x0 + x0) - Z1)))) (m55.mono (by decide)) (m59.mono (by decide)) rfl) rfl ?_
  simp only [fa_agg, fa_one, fa_nil, List.cons_append, List.nil_append, List.append_nil]
  have m60 : Num 1800000005 (cr (Z1 - (-((x0 + x0) - Z1)))) (Z1 - (-((x0 + x0) - Z1))) := Num.of (Sm.sub m55.sm m59.sm)
  refine call_step (n_warp_over_1 (k0 := (((x0 + x0) - Z1) / (Z1 - (-((x0 + x0) - Z1))))) Y0 (m58.mono (by decide)) (m60.mono (by decide)) rfl c3) rfl ?_
  simp only [fa_agg, fa_one, fa_nil, List.cons_append, List.nil_append, List.append_nil]
  exact ret_step rfl

theorem n_warp_Line_3 {Z0 Z1 : Rat} (Y0 : Z0 = (0 : Rat)) (Y1 : Z1 = (1 : Rat)) {r0 : RR} {x0 : Rat} {k0 k1 k2 : Rat} (h0 : Num 900000000 r0 x0) (e0 : k0 = ((x0 + x0) - Z1)) (e1 : k1 = (Z1 - k0)) (e2 : k2 = (k0 / k1)) (c0 : Z0 < x0) (c1 : x0 < Z1) (c2 : ¬k0 < Z0) (c3 : ¬k1 = Z0) : PureCalls prog F.warp_Line [.agg ([.bool r0.neg, nl r0.num, nl r0.den])] [.agg ([.bool (decide ((k2).num < 0)), nn (k2).num.natAbs, nn (k2).den]), .one (.bool true)] := by
  subst e0 e1 e2
  refine symFunc_sound hmix tree_warp_Line (by kernel_rfl) rfl ?_
  unfold ir_warp_Line
  simp only [fa_agg, fa_one, fa_nil, List.cons_append, List.nil_append, List.append_nil]
  refine call_step (n_rat_Sign (h0.mono (by decide))) rfl ?_
  simp only [fa_agg, fa_one, fa_nil, List.cons_append, List.nil_append, List.append_nil]
  refine primS (.bool false) (cs_leq_f ((sg_gt Y0).2 c0)) ?_
  refine itF rfl ?_
  refine call_step (n_warp_one_0 Y1) rfl ?_
  simp only [fa_agg, fa_one, fa_nil, List.cons_append, List.nil_append, List.append_nil]
  have m66 : Num 1 (cr Z1) Z1 := Num.c Y1 (by decide +kernel) (by decide +kernel)
  refine call_step (n_rat_Cmp (h0.mono (by decide)) (m66.mono (by decide))) rfl ?_
  simp only [fa_agg, fa_one, fa_nil, List.cons_append, List.nil_append, List.append_nil]
  refine primS (.bool false) (cs_geq_f (cq_lt.2 c1)) ?_
  refine itF rfl ?_
  refine primS (rl [r0, r0]) rfl ?_
  refine call_step (n_rat_Sum_2 (k0 := (x0 + x0)) (h0.mono (by decide)) (h0.mono (by decide)) rfl) rfl ?_
  simp only [fa_agg, fa_one, fa_nil, List.cons_append, List.nil_append, List.append_nil]
  refine call_step (n_warp_one_0 Y1) rfl ?_
  simp only [fa_agg, fa_one, fa_nil, List.cons_append, List.nil_append, List.append_nil]
  have m68 : Num 1800000001 (cr (x0 + x0)) (x0 + x0) := Num.of (Sm.add h0.sm h0.sm)
  refine call_step (n_rat_Sub (k0 := ((x0 + x0) - Z1)) (m68.mono (by decide)) (m66.mono (by decide)) rfl) rfl ?_
  simp only [fa_agg, fa_one, fa_nil, List.cons_append, List.nil_append, List.append_nil]
  refine call_step (n_warp_one_0 Y1) rfl ?_
  simp only [fa_agg, fa_one, fa_nil, List.cons_append, List.nil_append, List.append_nil]
  have m69 : Num 1800000003 (cr ((x0 + x0) - Z1)) ((x0 + x0) - Z1) := Num.of (Sm.sub m68.sm m66.sm)
  refine call_step (n_rat_Abs_f Y0 (m69.mono (by decide)) c2) rfl ?_
  simp only [fa_agg, fa_one, fa_nil, List.cons_append, List.nil_append, List.append_nil]
  refine call_step (n_rat_Sub (k0 := (Z1 - ((x0 + x0) - Z1))) (m66.mono (by decide)) (m69.mono (by decide)) rfl) rfl ?_
  simp only [fa_agg, fa_one, fa_nil, List.cons_append, List.nil_append, List.append_nil]
  have m70 : Num 1800000005 (cr (Z1 - ((x0 + x0) - Z1))) (Z1 - ((x0 + x0) - Z1)) := Num.of (Sm.sub m66.sm m69.sm)
  refine call_step (n_warp_over_1 (k0 := (((x0 + x0) - Z1) / (Z1 - ((x0 + x0) - Z1)))) Y0 (m69.mono (by decide)) (m70.mono (by decide)) rfl c3) rfl ?_
  simp only [fa_agg, fa_one, fa_nil, List.cons_append, List.nil_append, List.append_nil]
  exact ret_step rfl

theorem n_warp_Line_4 {Z0 Z1 : Rat} (Y0 : Z0 = (0 : Rat)) (Y1 : Z1 = (1 : Rat)) {r0 : RR} {x0 : Rat} (h0 : Num 900000000 r0 x0)  (c0 : Z0 < x0) (c1 : ¬x0 < Z1) : PureCalls prog F.warp_Line [.agg ([.bool r0.neg, nl r0.num, nl r0.den])] [.agg ([.bool (decide ((Z0).num < 0)), nn (Z0).num.natAbs, nn (Z0).den]), .one (.bool false)] := by
  refine symFunc_sound hmix tree_warp_Line (by kernel_rfl) rfl ?_
  unfold ir_warp_Line
  simp only [fa_agg, fa_one, fa_nil, List.cons_append, List.nil_append, List.append_nil]
  refine call_step (n_rat_Sign (h0.mono (by decide))) rfl ?_
  simp only [fa_agg, fa_one, fa_nil, List.cons_append, List.nil_append, List.append_nil]
  refine primS (.bool false) (cs_leq_f ((sg_gt Y0).2 c0)) ?_
  refine itF rfl ?_
  refine call_step (n_warp_one_0 Y1) rfl ?_
  simp only [fa_agg, fa_one, fa_nil, List.cons_append, List.nil_append, List.append_nil]
  have m71 : Num 1 (cr Z1) Z1 := Num.c Y1 (by decide +kernel) (by decide +kernel)
  refine call_step (n_rat_Cmp (h0.mono (by decide)) (m71.mono (by decide))) rfl ?_
  simp only [fa_agg, fa_one, fa_nil, List.cons_append, List.nil_append, List.append_nil]
  refine primS (.bool true) (cs_geq_t (fun z => c1 (cq_lt.1 z))) ?_
  refine itT rfl ?_
  refine call_step (n_rat_Of (0) (1) (by decide) (by decide) (by decide) (by decide) (Y0.trans (by decide +kernel))) rfl ?_
  simp only [fa_agg, fa_one, fa_nil, List.cons_append, List.nil_append, List.append_nil]
  exact ret_step rfl

theorem n_warp_Line_5 {Z0 : Rat} (Y0 : Z0 = (0 : Rat)) {r0 : RR} {x0 : Rat} (h0 : Num 900000000 r0 x0)  (c0 : ¬Z0 < x0) : PureCalls prog F.warp_Line [.agg ([.bool r0.neg, nl r0.num, nl r0.den])] [.agg ([.bool (decide ((Z0).num < 0)), nn (Z0).num.natAbs, nn (Z0).den]), .one (.bool false)] := by
  refine symFunc_sound hmix tree_warp_Line (by kernel_rfl) rfl ?_
  unfold ir_warp_Line
  simp only [fa_agg, fa_one, fa_nil, List.cons_append, List.nil_append, List.append_nil]
  refine call_step (n_rat_Sign (h0.mono (by decide))) rfl ?_
  simp only [fa_agg, fa_one, fa_nil, List.cons_append, List.nil_append, List.append_nil]
  refine primS (.bool true) (cs_leq_t (fun z => c0 ((sg_gt Y0).1 z))) ?_
  refine itT rfl ?_
  refine call_step (n_rat_Of (0) (1) (by decide) (by decide) (by decide) (by decide) (Y0.trans (by decide +kernel))) rfl ?_
  simp only [fa_agg, fa_one, fa_nil, List.cons_append, List.nil_append, List.append_nil]
  exact ret_step rfl

theorem n_penumbraref14_Line_0 {Z0 Z1 Z2 : Rat} (Y0 : Z0 = (0 : Rat)) (Y1 : Z1 = (1 : Rat)) (Y2 : Z2 = (2 : Rat)) {r0 : RR} {x0 : Rat} {k0 k1 : Rat} (h0 : Num 9000000000 r0 x0) (e0 : k0 = ((Z2 * x0) - Z1)) (e1 : k1 = (k0 / (Z1 - (-k0)))) (c0 : Z0 < x0) (c1 : x0 < Z1) (c2 : k0 < Z0) : PureCalls prog F.penumbraref14_Line [.agg ([.bool r0.neg, nl r0.num, nl r0.den])] [.agg ([.bool (decide ((k1).num < 0)), nn (k1).num.natAbs, nn (k1).den]), .one (.bool true)] := by
  subst e0 e1
  refine symFunc_sound hmix tree_penumbraref14_Line (by kernel_rfl) rfl ?_
  unfold ir_penumbraref14_Line
  simp only [fa_agg, fa_one, fa_nil, List.cons_append, List.nil_append, List.append_nil]
  refine call_step (n_penumbraref03_Sign (h0.mono (by decide))) rfl ?_
  simp only [fa_agg, fa_one, fa_nil, List.cons_append, List.nil_append, List.append_nil]
  refine primS (.bool false) (cs_leq_f ((sg_gt Y0).2 c0)) ?_
  refine itF rfl ?_
  refine call_step (n_penumbraref03_One Y1) rfl ?_
  simp only [fa_agg, fa_one, fa_nil, List.cons_append, List.nil_append, List.append_nil]
  have m84 : Num 1 (cr Z1) Z1 := Num.c Y1 (by decide +kernel) (by decide +kernel)
  refine call_step (n_penumbraref03_Cmp (h0.mono (by decide)) (m84.mono (by decide))) rfl ?_
  simp only [fa_agg, fa_one, fa_nil, List.cons_append, List.nil_append, List.append_nil]
  refine primS (.bool false) (cs_geq_f (cq_lt.2 c1)) ?_
  refine itF rfl ?_
  refine call_step (n_penumbraref03_Of (2) (1) (by decide) (by decide) (by decide) (by decide) (Y2.trans (by decide +kernel))) rfl ?_
  simp only [fa_agg, fa_one, fa_nil, List.cons_append, List.nil_append, List.append_nil]
  have m85 : Num 1 (cr Z2) Z2 := Num.c Y2 (by decide +kernel) (by decide +kernel)
  refine call_step (n_penumbraref03_Mul (k0 := (Z2 * x0)) (m85.mono (by decide)) (h0.mono (by decide)) rfl) rfl ?_
  simp only [fa_agg, fa_one, fa_nil, List.cons_append, List.nil_append, List.append_nil]
  refine call_step (n_penumbraref03_One Y1) rfl ?_
  simp only [fa_agg, fa_one, fa_nil, List.cons_append, List.nil_append, List.append_nil]
  have m86 : Num 9000000001 (cr (Z2 * x0)) (Z2 * x0) := Num.of (Sm.mul m85.sm h0.sm)
  refine call_step (n_penumbraref03_Sub (k0 := ((Z2 * x0) - Z1)) (m86.mono (by decide)) (m84.mono (by decide)) rfl) rfl ?_
  simp only [fa_agg, fa_one, fa_nil, List.cons_append, List.nil_append, List.append_nil]
  refine call_step (n_penumbraref03_One Y1) rfl ?_
  simp only [fa_agg, fa_one, fa_nil, List.cons_append, List.nil_append, List.append_nil]
  have m87 : Num 9000000003 (cr ((Z2 * x0) - Z1)) ((Z2 * x0) - Z1) := Num.of (Sm.sub m86.sm m84.sm)
  refine call_step (n_penumbraref03_Abs_t (k0 := (-((Z2 * x0) - Z1))) Y0 (m87.mono (by decide)) rfl c2) rfl ?_
  simp only [fa_agg, fa_one, fa_nil, List.cons_append, List.nil_append, List.append_nil]
  have m88 : Num 9000000003 (cr (-((Z2 * x0) - Z1))) (-((Z2 * x0) - Z1)) := Num.of (Sm.neg m87.sm)
  refine call_step (n_penumbraref03_Sub (k0 := (Z1 - (-((Z2 * x0) - Z1)))) (m84.mono (by decide)) (m88.mono (by decide)) rfl) rfl ?_
  simp only [fa_agg, fa_one, fa_nil, List.cons_append, List.nil_append, List.append_nil]
  have m89 : Num 9000000005 (cr (Z1 - (-((Z2 * x0) - Z1)))) (Z1 - (-((Z2 * x0) - Z1))) := Num.of (Sm.sub m84.sm m88.sm)
  refine call_step (n_penumbraref03_Over (k0 := (((Z2 * x0) - Z1) / (Z1 - (-((Z2 * x0) - Z1))))) (m87.mono (by decide)) (m89.mono (by decide)) rfl) rfl ?_
  simp only [fa_agg, fa_one, fa_nil, List.cons_append, List.nil_append, List.append_nil]
  exact ret_step rfl

theorem n_penumbraref14_Line_1 {Z0 Z1 Z2 : Rat} (Y0 : Z0 = (0 : Rat)) (Y1 : Z1 = (1 : Rat)) (Y2 : Z2 = (2 : Rat)) {r0 : RR} {x0 : Rat} {k0 k1 : Rat} (h0 : Num 9000000000 r0 x0) (e0 : k0 = ((Z2 * x0) - Z1)) (e1 : k1 = (k0 / (Z1 - k0))) (c0 : Z0 < x0) (c1 : x0 < Z1) (c2 : ¬k0 < Z0) : PureCalls prog F.penumbraref14_Line [.agg ([.bool r0.neg, nl r0.num, nl r0.den])] [.agg ([.bool (decide ((k1).num < 0)), nn (k1).num.natAbs, nn (k1).den]), .one (.bool true)] := by
  subst e0 e1
  refine symFunc_sound hmix tree_penumbraref14_Line (by kernel_rfl) rfl ?_
  unfold ir_penumbraref14_Line
  simp only [fa_agg, fa_one, fa_nil, List.cons_append, List.nil_append, List.append_nil]
  refine call_step (n_penumbraref03_Sign (h0.mono (by decide))) rfl ?_
  simp only [fa_agg, fa_one, fa_nil, List.cons_append, List.nil_append, List.append_nil]
  refine primS (.bool false) (cs_leq_f ((sg_gt Y0).2 c0)) ?_
  refine itF rfl ?_
  refine call_step (n_penumbraref03_One Y1) rfl ?_
  simp only [fa_agg, fa_one, fa_nil, List.cons_append, List.nil_append, List.append_nil]
  have m90 : Num 1 (cr Z1) Z1 := Num.c Y1 (by decide +kernel) (by decide +kernel)
  refine call_step (n_penumbraref03_Cmp (h0.mono (by decide)) (m90.mono (by decide))) rfl ?_
  simp only [fa_agg, fa_one, fa_nil, List.cons_append, List.nil_append, List.append_nil]
  refine primS (.bool false) (cs_geq_f (cq_lt.2 c1)) ?_
  refine itF rfl ?_
  refine call_step (n_penumbraref03_Of (2) (1) (by decide) (by decide) (by decide) (by decide) (Y2.trans (by decide +kernel))) rfl ?_
  simp only [fa_agg, fa_one, fa_nil, List.cons_append, List.nil_append, List.append_nil]
  have m91 : Num 1 (cr Z2) Z2 := Num.c Y2 (by decide +kernel) (by decide +kernel)
  refine call_step (n_penumbraref03_Mul (k0 := (Z2 * x0)) (m91.mono (by decide)) (h0.mono (by decide)) rfl) rfl ?_
  simp only [fa_agg, fa_one, fa_nil, List.cons_append, List.nil_append, List.append_nil]
  refine call_step (n_penumbraref03_One Y1) rfl ?_
  simp only [fa_agg, fa_one, fa_nil, List.cons_append, List.nil_append, List.append_nil]
  have m92 : Num 9000000001 (cr (Z2 * x0)) (Z2 * x0) := Num.of (Sm.mul m91.sm h0.sm)
  refine call_step (n_penumbraref03_Sub (k0 := ((Z2 * x0) - Z1)) (m92.mono (by decide)) (m90.mono (by decide)) rfl) rfl ?_
  simp only [fa_agg, fa_one, fa_nil, List.cons_append, List.nil_append, List.append_nil]
  refine call_step (n_penumbraref03_One Y1) rfl ?_
  simp only [fa_agg, fa_one, fa_nil, List.cons_append, List.nil_append, List.append_nil]
  have m93 : Num 9000000003 (cr ((Z2 * x0) - Z1)) ((Z2 * x0) - Z1) := Num.of (Sm.sub m92.sm m90.sm)
  refine call_step (n_penumbraref03_Abs_f Y0 (m93.mono (by decide)) c2) rfl ?_
  simp only [fa_agg, fa_one, fa_nil, List.cons_append, List.nil_append, List.append_nil]
  refine call_step (n_penumbraref03_Sub (k0 := (Z1 - ((Z2 * x0) - Z1))) (m90.mono (by decide)) (m93.mono (by decide)) rfl) rfl ?_
  simp only [fa_agg, fa_one, fa_nil, List.cons_append, List.nil_append, List.append_nil]
  have m94 : Num 9000000005 (cr (Z1 - ((Z2 * x0) - Z1))) (Z1 - ((Z2 * x0) - Z1)) := Num.of (Sm.sub m90.sm m93.sm)
  refine call_step (n_penumbraref03_Over (k0 := (((Z2 * x0) - Z1) / (Z1 - ((Z2 * x0) - Z1)))) (m93.mono (by decide)) (m94.mono (by decide)) rfl) rfl ?_
  simp only [fa_agg, fa_one, fa_nil, List.cons_append, List.nil_append, List.append_nil]
  exact ret_step rfl

theorem n_penumbraref14_Line_2 {Z0 Z1 : Rat} (Y0 : Z0 = (0 : Rat)) (Y1 : Z1 = (1 : Rat)) {r0 : RR} {x0 : Rat} (h0 : Num 9000000000 r0 x0)  (c0 : Z0 < x0) (c1 : ¬x0 < Z1) : PureCalls prog F.penumbraref14_Line [.agg ([.bool r0.neg, nl r0.num, nl r0.den])] [.agg ([.bool (decide ((Z0).num < 0)), nn (Z0).num.natAbs, nn (Z0).den]), .one (.bool false)] := by
  refine symFunc_sound hmix tree_penumbraref14_Line (by kernel_rfl) rfl ?_
  unfold ir_penumbraref14_Line
  simp only [fa_agg, fa_one, fa_nil, List.cons_append, List.nil_append, List.append_nil]
  refine call_step (n_penumbraref03_Sign (h0.mono (by decide))) rfl ?_
  simp only [fa_agg, fa_one, fa_nil, List.cons_append, List.nil_append, List.append_nil]
  refine primS (.bool false) (cs_leq_f ((sg_gt Y0).2 c0)) ?_
  refine itF rfl ?_
  refine call_step (n_penumbraref03_One Y1) rfl ?_
  simp only [fa_agg, fa_one, fa_nil, List.cons_append, List.nil_append, List.append_nil]
  have m95 : Num 1 (cr Z1) Z1 := Num.c Y1 (by decide +kernel) (by decide +kernel)
  refine call_step (n_penumbraref03_Cmp (h0.mono (by decide)) (m95.mono (by decide))) rfl ?_
  simp only [fa_agg, fa_one, fa_nil, List.cons_append, List.nil_append, List.append_nil]
  refine primS (.bool true) (cs_geq_t (fun z => c1 (cq_lt.1 z))) ?_
  refine itT rfl ?_
  refine call_step (n_penumbraref03_Zero Y0) rfl ?_
  simp only [fa_agg, fa_one, fa_nil, List.cons_append, List.nil_append, List.append_nil]
  exact ret_step rfl

theorem n_penumbraref14_Line_3 {Z0 : Rat} (Y0 : Z0 = (0 : Rat)) {r0 : RR} {x0 : Rat} (h0 : Num 9000000000 r0 x0)  (c0 : ¬Z0 < x0) : PureCalls prog F.penumbraref14_Line [.agg ([.bool r0.neg, nl r0.num, nl r0.den])] [.agg ([.bool (decide ((Z0).num < 0)), nn (Z0).num.natAbs, nn (Z0).den]), .one (.bool false)] := by
  refine symFunc_sound hmix tree_penumbraref14_Line (by kernel_rfl) rfl ?_
  unfold ir_penumbraref14_Line
  simp only [fa_agg, fa_one, fa_nil, List.cons_append, List.nil_append, List.append_nil]
  refine call_step (n_penumbraref03_Sign (h0.mono (by decide))) rfl ?_
  simp only [fa_agg, fa_one, fa_nil, List.cons_append, List.nil_append, List.append_nil]
  refine primS (.bool true) (cs_leq_t (fun z => c0 ((sg_gt Y0).1 z))) ?_
  refine itT rfl ?_
  refine call_step (n_penumbraref03_Zero Y0) rfl ?_
  simp only [fa_agg, fa_one, fa_nil, List.cons_append, List.nil_append, List.append_nil]
  exact ret_step rfl

theorem n_warp_Back_1 {Z0 Z1_2 Z1 : Rat} (Y0 : Z0 = (0 : Rat)) (Y1_2 : Z1_2 = (1/2 : Rat)) (Y1 : Z1 = (1 : Rat)) {r0 : RR} {x0 : Rat} {k0 k1 k2 : Rat} (h0 : Num 900000000 r0 x0) (e0 : k0 = (Z1 + (-x0))) (e1 : k1 = (x0 / k0)) (e2 : k2 = (Z1_2 * (Z1 + k1))) (c0 : x0 < Z0) (c1 : ¬k0 = Z0) : PureCalls prog F.warp_Back [.agg ([.bool r0.neg, nl r0.num, nl r0.den])] [.agg ([.bool (decide ((k2).num < 0)), nn (k2).num.natAbs, nn (k2).den])] := by
  subst e0 e1 e2
  refine symFunc_sound hmix tree_warp_Back (by kernel_rfl) rfl ?_
  unfold ir_warp_Back
  simp only [fa_agg, fa_one, fa_nil, List.cons_append, List.nil_append, List.append_nil]
  refine call_step (n_warp_one_0 Y1) rfl ?_
  simp only [fa_agg, fa_one, fa_nil, List.cons_append, List.nil_append, List.append_nil]
  refine call_step (n_rat_Abs_t (k0 := (-x0)) Y0 (h0.mono (by decide)) rfl c0) rfl ?_
  simp only [fa_agg, fa_one, fa_nil, List.cons_append, List.nil_append, List.append_nil]
  refine primS (rl [(cr Z1), (cr (-x0))]) rfl ?_
  have m142 : Num 1 (cr Z1) Z1 := Num.c Y1 (by decide +kernel) (by decide +kernel)
  have m143 : Num 900000000 (cr (-x0)) (-x0) := Num.of (Sm.neg h0.sm)
  refine call_step (n_rat_Sum_2 (k0 := (Z1 + (-x0))) (m142.mono (by decide)) (m143.mono (by decide)) rfl) rfl ?_
  simp only [fa_agg, fa_one, fa_nil, List.cons_append, List.nil_append, List.append_nil]
  have m144 : Num 900000002 (cr (Z1 + (-x0))) (Z1 + (-x0)) := Num.of (Sm.add m142.sm m143.sm)
  refine call_step (n_warp_over_1 (k0 := (x0 / (Z1 + (-x0)))) Y0 (h0.mono (by decide)) (m144.mono (by decide)) rfl c1) rfl ?_
  simp only [fa_agg, fa_one, fa_nil, List.cons_append, List.nil_append, List.append_nil]
  refine call_step (n_rat_Of (1) (2) (by decide) (by decide) (by decide) (by decide) (Y1_2.trans (by decide +kernel))) rfl ?_
  simp only [fa_agg, fa_one, fa_nil, List.cons_append, List.nil_append, List.append_nil]
  refine call_step (n_warp_one_0 Y1) rfl ?_
  simp only [fa_agg, fa_one, fa_nil, List.cons_append, List.nil_append, List.append_nil]
  refine primS (rl [(cr Z1), (cr (x0 / (Z1 + (-x0))))]) rfl ?_
  have m146 : Num 1800000002 (cr (x0 / (Z1 + (-x0)))) (x0 / (Z1 + (-x0))) := Num.of (Sm.div h0.sm m144.sm)
  refine call_step (n_rat_Sum_2 (k0 := (Z1 + (x0 / (Z1 + (-x0))))) (m142.mono (by decide)) (m146.mono (by decide)) rfl) rfl ?_
  simp only [fa_agg, fa_one, fa_nil, List.cons_append, List.nil_append, List.append_nil]
  refine primS (rl [(cr Z1_2), (cr (Z1 + (x0 / (Z1 + (-x0)))))]) rfl ?_
  have m148 : Num 1 (cr Z1_2) Z1_2 := Num.c Y1_2 (by decide +kernel) (by decide +kernel)
  have m149 : Num 1800000004 (cr (Z1 + (x0 / (Z1 + (-x0))))) (Z1 + (x0 / (Z1 + (-x0)))) := Num.of (Sm.add m142.sm m146.sm)
  refine call_step (n_rat_Product_2 (k0 := (Z1_2 * (Z1 + (x0 / (Z1 + (-x0)))))) (m148.mono (by decide)) (m149.mono (by decide)) rfl) rfl ?_
  simp only [fa_agg, fa_one, fa_nil, List.cons_append, List.nil_append, List.append_nil]
  exact ret_step rfl

theorem n_warp_Back_3 {Z0 Z1_2 Z1 : Rat} (Y0 : Z0 = (0 : Rat)) (Y1_2 : Z1_2 = (1/2 : Rat)) (Y1 : Z1 = (1 : Rat)) {r0 : RR} {x0 : Rat} {k0 k1 k2 : Rat} (h0 : Num 900000000 r0 x0) (e0 : k0 = (Z1 + x0)) (e1 : k1 = (x0 / k0)) (e2 : k2 = (Z1_2 * (Z1 + k1))) (c0 : ¬x0 < Z0) (c1 : ¬k0 = Z0) : PureCalls prog F.warp_Back [.agg ([.bool r0.neg, nl r0.num, nl r0.den])] [.agg ([.bool (decide ((k2).num < 0)), nn (k2).num.natAbs, nn (k2).den])] := by
  subst e0 e1 e2
  refine symFunc_sound hmix tree_warp_Back (by kernel_rfl) rfl ?_
  unfold ir_warp_Back
  simp only [fa_agg, fa_one, fa_nil, List.cons_append, List.nil_append, List.append_nil]
  refine call_step (n_warp_one_0 Y1) rfl ?_
  simp only [fa_agg, fa_one, fa_nil, List.cons_append, List.nil_append, List.append_nil]
  refine call_step (n_rat_Abs_f Y0 (h0.mono (by decide)) c0) rfl ?_
  simp only [fa_agg, fa_one, fa_nil, List.cons_append, List.nil_append, List.append_nil]
  refine primS (rl [(cr Z1), (cr x0)]) rfl ?_
  have m159 : Num 1 (cr Z1) Z1 := Num.c Y1 (by decide +kernel) (by decide +kernel)
  have m160 : Num 900000000 (cr x0) x0 := Num.of h0.sm
  refine call_step (n_rat_Sum_2 (k0 := (Z1 + x0)) (m159.mono (by decide)) (m160.mono (by decide)) rfl) rfl ?_
  simp only [fa_agg, fa_one, fa_nil, List.cons_append, List.nil_append, List.append_nil]
  have m161 : Num 900000002 (cr (Z1 + x0)) (Z1 + x0) := Num.of (Sm.add m159.sm m160.sm)
  refine call_step (n_warp_over_1 (k0 := (x0 / (Z1 + x0))) Y0 (h0.mono (by decide)) (m161.mono (by decide)) rfl c1) rfl ?_
  simp only [fa_agg, fa_one, fa_nil, List.cons_append, List.nil_append, List.append_nil]
  refine call_step (n_rat_Of (1) (2) (by decide) (by decide) (by decide) (by decide) (Y1_2.trans (by decide +kernel))) rfl ?_
  simp only [fa_agg, fa_one, fa_nil, List.cons_append, List.nil_append, List.append_nil]
  refine call_step (n_warp_one_0 Y1) rfl ?_
  simp only [fa_agg, fa_one, fa_nil, List.cons_append, List.nil_append, List.append_nil]
  refine primS (rl [(cr Z1), (cr (x0 / (Z1 + x0)))]) rfl ?_
  have m163 : Num 1800000002 (cr (x0 / (Z1 + x0))) (x0 / (Z1 + x0)) := Num.of (Sm.div h0.sm m161.sm)
  refine call_step (n_rat_Sum_2 (k0 := (Z1 + (x0 / (Z1 + x0)))) (m159.mono (by decide)) (m163.mono (by decide)) rfl) rfl ?_
  simp only [fa_agg, fa_one, fa_nil, List.cons_append, List.nil_append, List.append_nil]
  refine primS (rl [(cr Z1_2), (cr (Z1 + (x0 / (Z1 + x0))))]) rfl ?_
  have m165 : Num 1 (cr Z1_2) Z1_2 := Num.c Y1_2 (by decide +kernel) (by decide +kernel)
  have m166 : Num 1800000004 (cr (Z1 + (x0 / (Z1 + x0)))) (Z1 + (x0 / (Z1 + x0))) := Num.of (Sm.add m159.sm m163.sm)
  refine call_step (n_rat_Product_2 (k0 := (Z1_2 * (Z1 + (x0 / (Z1 + x0))))) (m165.mono (by decide)) (m166.mono (by decide)) rfl) rfl ?_
  simp only [fa_agg, fa_one, fa_nil, List.cons_append, List.nil_append, List.append_nil]
  exact ret_step rfl

theorem n_warp_Density_1 {Z0 Z1_2 Z1 : Rat} (Y0 : Z0 = (0 : Rat)) (Y1_2 : Z1_2 = (1/2 : Rat)) (Y1 : Z1 = (1 : Rat)) {r0 : RR} {x0 : Rat} {k0 k1 : Rat} (h0 : Num 900000000 r0 x0) (e0 : k0 = ((Z1 + (-x0)) * (Z1 + (-x0)))) (e1 : k1 = (Z1_2 / k0)) (c0 : x0 < Z0) (c1 : ¬k0 = Z0) : PureCalls prog F.warp_Density [.agg ([.bool r0.neg, nl r0.num, nl r0.den])] [.agg ([.bool (decide ((k1).num < 0)), nn (k1).num.natAbs, nn (k1).den])] := by
  subst e0 e1
  refine symFunc_sound hmix tree_warp_Density (by kernel_rfl) rfl ?_
  unfold ir_warp_Density
  simp only [fa_agg, fa_one, fa_nil, List.cons_append, List.nil_append, List.append_nil]
  refine call_step (n_warp_one_0 Y1) rfl ?_
  simp only [fa_agg, fa_one, fa_nil, List.cons_append, List.nil_append, List.append_nil]
  refine call_step (n_rat_Abs_t (k0 := (-x0)) Y0 (h0.mono (by decide)) rfl c0) rfl ?_
  simp only [fa_agg, fa_one, fa_nil, List.cons_append, List.nil_append, List.append_nil]
  refine primS (rl [(cr Z1), (cr (-x0))]) rfl ?_
  have m209 : Num 1 (cr Z1) Z1 := Num.c Y1 (by decide +kernel) (by decide +kernel)
  have m210 : Num 900000000 (cr (-x0)) (-x0) := Num.of (Sm.neg h0.sm)
  refine call_step (n_rat_Sum_2 (k0 := (Z1 + (-x0))) (m209.mono (by decide)) (m210.mono (by decide)) rfl) rfl ?_
  simp only [fa_agg, fa_one, fa_nil, List.cons_append, List.nil_append, List.append_nil]
  refine call_step (n_rat_Of (1) (2) (by decide) (by decide) (by decide) (by decide) (Y1_2.trans (by decide +kernel))) rfl ?_
  simp only [fa_agg, fa_one, fa_nil, List.cons_append, List.nil_append, List.append_nil]
  refine primS (rl [(cr (Z1 + (-x0))), (cr (Z1 + (-x0)))]) rfl ?_
  have m212 : Num 900000002 (cr (Z1 + (-x0))) (Z1 + (-x0)) := Num.of (Sm.add m209.sm m210.sm)
  refine call_step (n_rat_Product_2 (k0 := ((Z1 + (-x0)) * (Z1 + (-x0)))) (m212.mono (by decide)) (m212.mono (by decide)) rfl) rfl ?_
  simp only [fa_agg, fa_one, fa_nil, List.cons_append, List.nil_append, List.append_nil]
  have m213 : Num 1 (cr Z1_2) Z1_2 := Num.c Y1_2 (by decide +kernel) (by decide +kernel)
  have m214 : Num 1800000004 (cr ((Z1 + (-x0)) * (Z1 + (-x0)))) ((Z1 + (-x0)) * (Z1 + (-x0))) := Num.of (Sm.mul m212.sm m212.sm)
  refine call_step (n_warp_over_1 (k0 := (Z1_2 / ((Z1 + (-x0)) * (Z1 + (-x0))))) Y0 (m213.mono (by decide)) (m214.mono (by decide)) rfl c1) rfl ?_
  simp only [fa_agg, fa_one, fa_nil, List.cons_append, List.nil_append, List.append_nil]
  exact ret_step rfl

theorem n_warp_Density_3 {Z0 Z1_2 Z1 : Rat} (Y0 : Z0 = (0 : Rat)) (Y1_2 : Z1_2 = (1/2 : Rat)) (Y1 : Z1 = (1 : Rat)) {r0 : RR} {x0 : Rat} {k0 k1 : Rat} (h0 : Num 900000000 r0 x0) (e0 : k0 = ((Z1 + x0) * (Z1 + x0))) (e1 : k1 = (Z1_2 / k0)) (c0 : ¬x0 < Z0) (c1 : ¬k0 = Z0) : PureCalls prog F.warp_Density [.agg ([.bool r0.neg, nl r0.num, nl r0.den])] [.agg ([.bool (decide ((k1).num < 0)), nn (k1).num.natAbs, nn (k1).den])] := by
  subst e0 e1
  refine symFunc_sound hmix tree_warp_Density (by kernel_rfl) rfl ?_
  unfold ir_warp_Density
  simp only [fa_agg, fa_one, fa_nil, List.cons_append, List.nil_append, List.append_nil]
  refine call_step (n_warp_one_0 Y1) rfl ?_
  simp only [fa_agg, fa_one, fa_nil, List.cons_append, List.nil_append, List.append_nil]
  refine call_step (n_rat_Abs_f Y0 (h0.mono (by decide)) c0) rfl ?_
  simp only [fa_agg, fa_one, fa_nil, List.cons_append, List.nil_append, List.append_nil]
  refine primS (rl [(cr Z1), (cr x0)]) rfl ?_
  have m223 : Num 1 (cr Z1) Z1 := Num.c Y1 (by decide +kernel) (by decide +kernel)
  have m224 : Num 900000000 (cr x0) x0 := Num.of h0.sm
  refine call_step (n_rat_Sum_2 (k0 := (Z1 + x0)) (m223.mono (by decide)) (m224.mono (by decide)) rfl) rfl ?_
  simp only [fa_agg, fa_one, fa_nil, List.cons_append, List.nil_append, List.append_nil]
  refine call_step (n_rat_Of (1) (2) (by decide) (by decide) (by decide) (by decide) (Y1_2.trans (by decide +kernel))) rfl ?_
  simp only [fa_agg, fa_one, fa_nil, List.cons_append, List.nil_append, List.append_nil]
  refine primS (rl [(cr (Z1 + x0)), (cr (Z1 + x0))]) rfl ?_
  have m226 : Num 900000002 (cr (Z1 + x0)) (Z1 + x0) := Num.of (Sm.add m223.sm m224.sm)
  refine call_step (n_rat_Product_2 (k0 := ((Z1 + x0) * (Z1 + x0))) (m226.mono (by decide)) (m226.mono (by decide)) rfl) rfl ?_
  simp only [fa_agg, fa_one, fa_nil, List.cons_append, List.nil_append, List.append_nil]
  have m227 : Num 1 (cr Z1_2) Z1_2 := Num.c Y1_2 (by decide +kernel) (by decide +kernel)
  have m228 : Num 1800000004 (cr ((Z1 + x0) * (Z1 + x0))) ((Z1 + x0) * (Z1 + x0)) := Num.of (Sm.mul m226.sm m226.sm)
  refine call_step (n_warp_over_1 (k0 := (Z1_2 / ((Z1 + x0) * (Z1 + x0)))) Y0 (m227.mono (by decide)) (m228.mono (by decide)) rfl c1) rfl ?_
  simp only [fa_agg, fa_one, fa_nil, List.cons_append, List.nil_append, List.append_nil]
  exact ret_step rfl

theorem n_warp_Pick_at0 {Z0 Z1_4 Z1 Z4 : Rat} (Y0 : Z0 = (0 : Rat)) (Y1_4 : Z1_4 = (1/4 : Rat)) (Y1 : Z1 = (1 : Rat)) (Y4 : Z4 = (4 : Rat)) : PureCalls prog F.warp_Pick [.one (.list 3 [.int .i64 (1), .int .i64 (0), .int .i64 (3)]), .agg ([.bool (decide ((Z1_4).num < 0)), nn (Z1_4).num.natAbs, nn (Z1_4).den])] [.one (.int .i64 (2)), .one (.bool true)] := by
  refine symFunc_sound hmix tree_warp_Pick (by kernel_rfl) rfl ?_
  unfold ir_warp_Pick
  simp only [fa_agg, fa_one, fa_nil, List.cons_append, List.nil_append, List.append_nil]
  refine primS (.int .i64 (3)) rfl ?_
  refine primS (.bool false) rfl ?_
  refine itF rfl ?_
  have m233 : Num 1 (cr Z1_4) Z1_4 := Num.c Y1_4 (by decide +kernel) (by decide +kernel)
  refine call_step (n_rat_Sign (m233.mono (by decide))) rfl ?_
  simp only [fa_agg, fa_one, fa_nil, List.cons_append, List.nil_append, List.append_nil]
  refine primS (.bool false) (cs_lss_f (fun z => (show ¬(Z1_4 < Z0) by rw [Y1_4, Y0] <;> decide +kernel) ((sg_lt Y0).1 z))) ?_
  refine itF rfl ?_
  refine call_step (n_warp_one_0 Y1) rfl ?_
  simp only [fa_agg, fa_one, fa_nil, List.cons_append, List.nil_append, List.append_nil]
  have m234 : Num 1 (cr Z1) Z1 := Num.c Y1 (by decide +kernel) (by decide +kernel)
  refine call_step (n_rat_Cmp (m233.mono (by decide)) (m234.mono (by decide))) rfl ?_
  simp only [fa_agg, fa_one, fa_nil, List.cons_append, List.nil_append, List.append_nil]
  refine primS (.bool false) (cs_geq_f (cq_lt.2 (show (Z1_4 < Z1) by rw [Y1_4, Y1] <;> decide +kernel))) ?_
  refine itF rfl ?_
  refine primS (.int .i64 (3)) rfl ?_
  refine loop_step (fun ds => ds = [.list 3 [.int .i64 (1), .int .i64 (0), .int .i64 (3)], .int .i64 (0), .int .i64 (3), .int .i64 (0), .bool (decide (Z1_4.num < 0)), nn (Z1_4).num.natAbs, nn (Z1_4).den] ∨ ds = [.list 3 [.int .i64 (1), .int .i64 (0), .int .i64 (3)], .int .i64 (1), .int .i64 (3), .int .i64 (1), .bool (decide (Z1_4.num < 0)), nn (Z1_4).num.natAbs, nn (Z1_4).den] ∨ ds = [.list 3 [.int .i64 (1), .int .i64 (0), .int .i64 (3)], .int .i64 (1), .int .i64 (3), .int .i64 (2), .bool (decide (Z1_4.num < 0)), nn (Z1_4).num.natAbs, nn (Z1_4).den] ∨ ds = [.list 3 [.int .i64 (1), .int .i64 (0), .int .i64 (3)], .int .i64 (4), .int .i64 (3), .int .i64 (3), .bool (decide (Z1_4.num < 0)), nn (Z1_4).num.natAbs, nn (Z1_4).den]) (fun ds => 3 - num 3 ds) ?_ ?_ ?_
  · exact (.inl rfl)
  · rintro ds (rfl | rfl | rfl | rfl) <;> rfl
  · rintro ds (rfl | rfl | rfl | rfl)
    · skip
      refine primS (.bool true) rfl ?_
      refine itT rfl ?_
      refine primS (.bool true) rfl ?_
      refine primS (.int .i64 (1)) rfl ?_
      refine primS (.bool false) rfl ?_
      refine itF rfl ?_
      refine primS (.bool false) rfl ?_
      refine itF rfl ?_
      refine primS (.int .i64 (1)) rfl ?_
      refine primS (.int .i64 (1)) rfl ?_
      exact jump_step rfl ⟨(.inr (.inl rfl)), show (3 - 1 : Nat) < 3 - 0 from by decide⟩
    · skip
      refine primS (.bool true) rfl ?_
      refine itT rfl ?_
      refine primS (.bool true) rfl ?_
      refine primS (.int .i64 (0)) rfl ?_
      refine primS (.bool false) rfl ?_
      refine itF rfl ?_
      refine primS (.bool false) rfl ?_
      refine itF rfl ?_
      refine primS (.int .i64 (1)) rfl ?_
      refine primS (.int .i64 (2)) rfl ?_
      exact jump_step rfl ⟨(.inr (.inr (.inl rfl))), show (3 - 2 : Nat) < 3 - 1 from by decide⟩
    · skip
      refine primS (.bool true) rfl ?_
      refine itT rfl ?_
      refine primS (.bool true) rfl ?_
      refine primS (.int .i64 (3)) rfl ?_
      refine primS (.bool false) rfl ?_
      refine itF rfl ?_
      refine primS (.bool false) rfl ?_
      refine itF rfl ?_
      refine primS (.int .i64 (4)) rfl ?_
      refine primS (.int .i64 (3)) rfl ?_
      exact jump_step rfl ⟨(.inr (.inr (.inr (rfl)))), show (3 - 3 : Nat) < 3 - 2 from by decide⟩
    · skip
      refine primS (.bool false) rfl ?_
      refine itF rfl ?_
      refine call_step (n_rat_Of (4) (1) (by decide) (by decide) (by decide) (by decide) (Y4.trans (by decide +kernel))) rfl ?_
      simp only [fa_agg, fa_one, fa_nil, List.cons_append, List.nil_append, List.append_nil]
      refine primS (rl [(cr Z1_4), (cr Z4)]) rfl ?_
      have m236 : Num 1 (cr Z4) Z4 := Num.c Y4 (by decide +kernel) (by decide +kernel)
      refine call_step (n_rat_Product_2 (k0 := Z1) (m233.mono (by decide)) (m236.mono (by decide)) (by rw [Y1, Y1_4, Y4] <;> decide +kernel)) rfl ?_
      simp only [fa_agg, fa_one, fa_nil, List.cons_append, List.nil_append, List.append_nil]
      refine primS (.int .i64 (3)) rfl ?_
      refine loop_step (fun ds => ds = [.int .i64 (0), .list 3 [.int .i64 (1), .int .i64 (0), .int .i64 (3)], .int .i64 (3), .int .i64 (0), .bool (decide (Z1.num < 0)), nn (Z1).num.natAbs, nn (Z1).den] ∨ ds = [.int .i64 (1), .list 3 [.int .i64 (1), .int .i64 (0), .int .i64 (3)], .int .i64 (3), .int .i64 (1), .bool (decide (Z1.num < 0)), nn (Z1).num.natAbs, nn (Z1).den] ∨ ds = [.int .i64 (1), .list 3 [.int .i64 (1), .int .i64 (0), .int .i64 (3)], .int .i64 (3), .int .i64 (2), .bool (decide (Z1.num < 0)), nn (Z1).num.natAbs, nn (Z1).den]) (fun ds => 2 - num 3 ds) ?_ ?_ ?_
      · exact (.inl rfl)
      · rintro ds (rfl | rfl | rfl) <;> rfl
      · rintro ds (rfl | rfl | rfl)
        · skip
          refine primS (.bool true) rfl ?_
          refine itT rfl ?_
          refine primS (.bool true) rfl ?_
          refine primS (.int .i64 (1)) rfl ?_
          refine primS (.int .i64 (1)) rfl ?_
          refine call_step (n_rat_Of (1) (1) (by decide) (by decide) (by decide) (by decide) (Y1.trans (by decide +kernel))) rfl ?_
          simp only [fa_agg, fa_one, fa_nil, List.cons_append, List.nil_append, List.append_nil]
          refine call_step (n_rat_Cmp (m234.mono (by decide)) (m234.mono (by decide))) rfl ?_
          simp only [fa_agg, fa_one, fa_nil, List.cons_append, List.nil_append, List.append_nil]
          refine primS (.bool false) (cs_lss_f (fun z => (Rat.lt_irrefl) (cq_lt.1 z))) ?_
          refine itF rfl ?_
          refine primS (.int .i64 (1)) rfl ?_
          exact jump_step rfl ⟨(.inr (.inl rfl)), show (2 - 1 : Nat) < 2 - 0 from by decide⟩
        · skip
          refine primS (.bool true) rfl ?_
          refine itT rfl ?_
          refine primS (.bool true) rfl ?_
          refine primS (.int .i64 (0)) rfl ?_
          refine primS (.int .i64 (1)) rfl ?_
          refine call_step (n_rat_Of (1) (1) (by decide) (by decide) (by decide) (by decide) (Y1.trans (by decide +kernel))) rfl ?_
          simp only [fa_agg, fa_one, fa_nil, List.cons_append, List.nil_append, List.append_nil]
          refine call_step (n_rat_Cmp (m234.mono (by decide)) (m234.mono (by decide))) rfl ?_
          simp only [fa_agg, fa_one, fa_nil, List.cons_append, List.nil_append, List.append_nil]
          refine primS (.bool false) (cs_lss_f (fun z => (Rat.lt_irrefl) (cq_lt.1 z))) ?_
          refine itF rfl ?_
          refine primS (.int .i64 (2)) rfl ?_
          exact jump_step rfl ⟨(.inr (.inr (rfl))), show (2 - 2 : Nat) < 2 - 1 from by decide⟩
        · skip
          refine primS (.bool true) rfl ?_
          refine itT rfl ?_
          refine primS (.bool true) rfl ?_
          refine primS (.int .i64 (3)) rfl ?_
          refine primS (.int .i64 (4)) rfl ?_
          refine call_step (n_rat_Of (4) (1) (by decide) (by decide) (by decide) (by decide) (Y4.trans (by decide +kernel))) rfl ?_
          simp only [fa_agg, fa_one, fa_nil, List.cons_append, List.nil_append, List.append_nil]
          refine call_step (n_rat_Cmp (m234.mono (by decide)) (m236.mono (by decide))) rfl ?_
          simp only [fa_agg, fa_one, fa_nil, List.cons_append, List.nil_append, List.append_nil]
          refine primS (.bool true) (cs_lss_t (cq_lt.2 (show (Z1 < Z4) by rw [Y1, Y4] <;> decide +kernel))) ?_
          refine itT rfl ?_
          exact ret_step rfl

theorem n_warp_Pick_at1 {Z0 Z1_8 Z1_2 Z1 Z4 : Rat} (Y0 : Z0 = (0 : Rat)) (Y1_8 : Z1_8 = (1/8 : Rat)) (Y1_2 : Z1_2 = (1/2 : Rat)) (Y1 : Z1 = (1 : Rat)) (Y4 : Z4 = (4 : Rat)) : PureCalls prog F.warp_Pick [.one (.list 3 [.int .i64 (1), .int .i64 (0), .int .i64 (3)]), .agg ([.bool (decide ((Z1_8).num < 0)), nn (Z1_8).num.natAbs, nn (Z1_8).den])] [.one (.int .i64 (0)), .one (.bool true)] := by
  refine symFunc_sound hmix tree_warp_Pick (by kernel_rfl) rfl ?_
  unfold ir_warp_Pick
  simp only [fa_agg, fa_one, fa_nil, List.cons_append, List.nil_append, List.append_nil]
  refine primS (.int .i64 (3)) rfl ?_
  refine primS (.bool false) rfl ?_
  refine itF rfl ?_
  have m237 : Num 1 (cr Z1_8) Z1_8 := Num.c Y1_8 (by decide +kernel) (by decide +kernel)
  refine call_step (n_rat_Sign (m237.mono (by decide))) rfl ?_
  simp only [fa_agg, fa_one, fa_nil, List.cons_append, List.nil_append, List.append_nil]
  refine primS (.bool false) (cs_lss_f (fun z => (show ¬(Z1_8 < Z0) by rw [Y1_8, Y0] <;> decide +kernel) ((sg_lt Y0).1 z))) ?_
  refine itF rfl ?_
  refine call_step (n_warp_one_0 Y1) rfl ?_
  simp only [fa_agg, fa_one, fa_nil, List.cons_append, List.nil_append, List.append_nil]
  have m238 : Num 1 (cr Z1) Z1 := Num.c Y1 (by decide +kernel) (by decide +kernel)
  refine call_step (n_rat_Cmp (m237.mono (by decide)) (m238.mono (by decide))) rfl ?_
  simp only [fa_agg, fa_one, fa_nil, List.cons_append, List.nil_append, List.append_nil]
  refine primS (.bool false) (cs_geq_f (cq_lt.2 (show (Z1_8 < Z1) by rw [Y1_8, Y1] <;> decide +kernel))) ?_
  refine itF rfl ?_
  refine primS (.int .i64 (3)) rfl ?_
  refine loop_step (fun ds => ds = [.list 3 [.int .i64 (1), .int .i64 (0), .int .i64 (3)], .int .i64 (0), .int .i64 (3), .int .i64 (0), .bool (decide (Z1_8.num < 0)), nn (Z1_8).num.natAbs, nn (Z1_8).den] ∨ ds = [.list 3 [.int .i64 (1), .int .i64 (0), .int .i64 (3)], .int .i64 (1), .int .i64 (3), .int .i64 (1), .bool (decide (Z1_8.num < 0)), nn (Z1_8).num.natAbs, nn (Z1_8).den] ∨ ds = [.list 3 [.int .i64 (1), .int .i64 (0), .int .i64 (3)], .int .i64 (1), .int .i64 (3), .int .i64 (2), .bool (decide (Z1_8.num < 0)), nn (Z1_8).num.natAbs, nn (Z1_8).den] ∨ ds = [.list 3 [.int .i64 (1), .int .i64 (0), .int .i64 (3)], .int .i64 (4), .int .i64 (3), .int .i64 (3), .bool (decide (Z1_8.num < 0)), nn (Z1_8).num.natAbs, nn (Z1_8).den]) (fun ds => 3 - num 3 ds) ?_ ?_ ?_
  · exact (.inl rfl)
  · rintro ds (rfl | rfl | rfl | rfl) <;> rfl
  · rintro ds (rfl | rfl | rfl | rfl)
    · skip
      refine primS (.bool true) rfl ?_
      refine itT rfl ?_
      refine primS (.bool true) rfl ?_
      refine primS (.int .i64 (1)) rfl ?_
      refine primS (.bool false) rfl ?_
      refine itF rfl ?_
      refine primS (.bool false) rfl ?_
      refine itF rfl ?_
      refine primS (.int .i64 (1)) rfl ?_
      refine primS (.int .i64 (1)) rfl ?_
      exact jump_step rfl ⟨(.inr (.inl rfl)), show (3 - 1 : Nat) < 3 - 0 from by decide⟩
    · skip
      refine primS (.bool true) rfl ?_
      refine itT rfl ?_
      refine primS (.bool true) rfl ?_
      refine primS (.int .i64 (0)) rfl ?_
      refine primS (.bool false) rfl ?_
      refine itF rfl ?_
      refine primS (.bool false) rfl ?_
      refine itF rfl ?_
      refine primS (.int .i64 (1)) rfl ?_
      refine primS (.int .i64 (2)) rfl ?_
      exact jump_step rfl ⟨(.inr (.inr (.inl rfl))), show (3 - 2 : Nat) < 3 - 1 from by decide⟩
    · skip
      refine primS (.bool true) rfl ?_
      refine itT rfl ?_
      refine primS (.bool true) rfl ?_
      refine primS (.int .i64 (3)) rfl ?_
      refine primS (.bool false) rfl ?_
      refine itF rfl ?_
      refine primS (.bool false) rfl ?_
      refine itF rfl ?_
      refine primS (.int .i64 (4)) rfl ?_
      refine primS (.int .i64 (3)) rfl ?_
      exact jump_step rfl ⟨(.inr (.inr (.inr (rfl)))), show (3 - 3 : Nat) < 3 - 2 from by decide⟩
    · skip
      refine primS (.bool false) rfl ?_
      refine itF rfl ?_
      refine call_step (n_rat_Of (4) (1) (by decide) (by decide) (by decide) (by decide) (Y4.trans (by decide +kernel))) rfl ?_
      simp only [fa_agg, fa_one, fa_nil, List.cons_append, List.nil_append, List.append_nil]
      refine primS (rl [(cr Z1_8), (cr Z4)]) rfl ?_
      have m240 : Num 1 (cr Z4) Z4 := Num.c Y4 (by decide +kernel) (by decide +kernel)
      refine call_step (n_rat_Product_2 (k0 := Z1_2) (m237.mono (by decide)) (m240.mono (by decide)) (by rw [Y1_2, Y1_8, Y4] <;> decide +kernel)) rfl ?_
      simp only [fa_agg, fa_one, fa_nil, List.cons_append, List.nil_append, List.append_nil]
      refine primS (.int .i64 (3)) rfl ?_
      refine loop_step (fun ds => ds = [.int .i64 (0), .list 3 [.int .i64 (1), .int .i64 (0), .int .i64 (3)], .int .i64 (3), .int .i64 (0), .bool (decide (Z1_2.num < 0)), nn (Z1_2).num.natAbs, nn (Z1_2).den]) (fun ds => 0 - num 0 ds) ?_ ?_ ?_
      · exact (rfl)
      · rintro ds (rfl) <;> rfl
      · rintro ds (rfl)
        · skip
          refine primS (.bool true) rfl ?_
          refine itT rfl ?_
          refine primS (.bool true) rfl ?_
          refine primS (.int .i64 (1)) rfl ?_
          refine primS (.int .i64 (1)) rfl ?_
          refine call_step (n_rat_Of (1) (1) (by decide) (by decide) (by decide) (by decide) (Y1.trans (by decide +kernel))) rfl ?_
          simp only [fa_agg, fa_one, fa_nil, List.cons_append, List.nil_append, List.append_nil]
          have m241 : Num 1 (cr Z1_2) Z1_2 := Num.c Y1_2 (by decide +kernel) (by decide +kernel)
          refine call_step (n_rat_Cmp (m241.mono (by decide)) (m238.mono (by decide))) rfl ?_
          simp only [fa_agg, fa_one, fa_nil, List.cons_append, List.nil_append, List.append_nil]
          refine primS (.bool true) (cs_lss_t (cq_lt.2 (show (Z1_2 < Z1) by rw [Y1_2, Y1] <;> decide +kernel))) ?_
          refine itT rfl ?_
          exact ret_step rfl

theorem n_penumbralaw14_fixed : PureCalls prog F.penumbralaw14_fixed [] [.one (.bool true)] := by
  obtain ⟨Zm3, Ym3⟩ := ex_eq (-3 : Rat)
  obtain ⟨Zm1, Ym1⟩ := ex_eq (-1 : Rat)
  obtain ⟨Zm3_4, Ym3_4⟩ := ex_eq (-3/4 : Rat)
  obtain ⟨Z0, Y0⟩ := ex_eq (0 : Rat)
  obtain ⟨Z1_8, Y1_8⟩ := ex_eq (1/8 : Rat)
  obtain ⟨Z1_4, Y1_4⟩ := ex_eq (1/4 : Rat)
  obtain ⟨Z1_2, Y1_2⟩ := ex_eq (1/2 : Rat)
  obtain ⟨Z3_4, Y3_4⟩ := ex_eq (3/4 : Rat)
  obtain ⟨Z1, Y1⟩ := ex_eq (1 : Rat)
  obtain ⟨Z5_4, Y5_4⟩ := ex_eq (5/4 : Rat)
  obtain ⟨Z2, Y2⟩ := ex_eq (2 : Rat)
  obtain ⟨Z4, Y4⟩ := ex_eq (4 : Rat)
  refine symFunc_sound hmix tree_penumbralaw14_fixed (by kernel_rfl) rfl ?_
  unfold ir_penumbralaw14_fixed
  simp only [fa_agg, fa_one, fa_nil, List.cons_append, List.nil_append, List.append_nil]
  refine call_step (n_rat_Of (3) (4) (by decide) (by decide) (by decide) (by decide) (Y3_4.trans (by decide +kernel))) rfl ?_
  simp only [fa_agg, fa_one, fa_nil, List.cons_append, List.nil_append, List.append_nil]
  refine call_step (n_rat_Of (1) (2) (by decide) (by decide) (by decide) (by decide) (Y1_2.trans (by decide +kernel))) rfl ?_
  simp only [fa_agg, fa_one, fa_nil, List.cons_append, List.nil_append, List.append_nil]
  have m229 : Num 1 (cr Z3_4) Z3_4 := Num.c Y3_4 (by decide +kernel) (by decide +kernel)
  have m230 : Num 1 (cr Z1_2) Z1_2 := Num.c Y1_2 (by decide +kernel) (by decide +kernel)
  refine call_step (n_warp_Fold_0 (k0 := Z5_4) (k1 := Z1_4) (k2 := Z1_2) Y1 (m229.mono (by decide)) (m230.mono (by decide)) (by rw [Y5_4, Y3_4, Y1_2] <;> decide +kernel) (by rw [Y1_4, Y1, Y3_4] <;> decide +kernel) (by rw [Y1_2, Y1] <;> decide +kernel) (show (Z1 < Z5_4) by rw [Y1, Y5_4] <;> decide +kernel)) rfl ?_
  simp only [fa_agg, fa_one, fa_nil, List.cons_append, List.nil_append, List.append_nil]
  refine call_step (n_rat_Of (1) (8) (by decide) (by decide) (by decide) (by decide) (Y1_8.trans (by decide +kernel))) rfl ?_
  simp only [fa_agg, fa_one, fa_nil, List.cons_append, List.nil_append, List.append_nil]
  have m231 : Num 1 (cr Z1_8) Z1_8 := Num.c Y1_8 (by decide +kernel) (by decide +kernel)
  refine call_step (n_warp_Line_1 (k0 := Zm3_4) (k1 := Z1_4) (k2 := Zm3) Y0 Y1 (m231.mono (by decide)) (by rw [Ym3_4, Y1_8, Y1] <;> decide +kernel) (by rw [Y1_4, Y1, Ym3_4] <;> decide +kernel) (by rw [Ym3, Ym3_4, Y1_4] <;> decide +kernel) (show (Z0 < Z1_8) by rw [Y0, Y1_8] <;> decide +kernel) (show (Z1_8 < Z1) by rw [Y1_8, Y1] <;> decide +kernel) (show (Zm3_4 < Z0) by rw [Ym3_4, Y0] <;> decide +kernel) (show ¬(Z1_4 = Z0) by rw [Y1_4, Y0] <;> decide +kernel)) rfl ?_
  simp only [fa_agg, fa_one, fa_nil, List.cons_append, List.nil_append, List.append_nil]
  refine call_step (n_rat_Of (1) (1) (by decide) (by decide) (by decide) (by decide) (Y1.trans (by decide +kernel))) rfl ?_
  simp only [fa_agg, fa_one, fa_nil, List.cons_append, List.nil_append, List.append_nil]
  have m232 : Num 1 (cr Z1) Z1 := Num.c Y1 (by decide +kernel) (by decide +kernel)
  refine call_step (n_warp_Line_4 Y0 Y1 (m232.mono (by decide)) (show (Z0 < Z1) by rw [Y0, Y1] <;> decide +kernel) (Rat.lt_irrefl)) rfl ?_
  simp only [fa_agg, fa_one, fa_nil, List.cons_append, List.nil_append, List.append_nil]
  refine primS (.list 3 [.int .i64 (1), .int .i64 (0), .int .i64 (3)]) rfl ?_
  refine call_step (n_rat_Of (1) (4) (by decide) (by decide) (by decide) (by decide) (Y1_4.trans (by decide +kernel))) rfl ?_
  simp only [fa_agg, fa_one, fa_nil, List.cons_append, List.nil_append, List.append_nil]
  refine call_step (n_warp_Pick_at0 Y0 Y1_4 Y1 Y4) rfl ?_
  simp only [fa_agg, fa_one, fa_nil, List.cons_append, List.nil_append, List.append_nil]
  refine primS (.list 3 [.int .i64 (1), .int .i64 (0), .int .i64 (3)]) rfl ?_
  refine call_step (n_rat_Of (1) (8) (by decide) (by decide) (by decide) (by decide) (Y1_8.trans (by decide +kernel))) rfl ?_
  simp only [fa_agg, fa_one, fa_nil, List.cons_append, List.nil_append, List.append_nil]
  refine call_step (n_warp_Pick_at1 Y0 Y1_8 Y1_2 Y1 Y4) rfl ?_
  simp only [fa_agg, fa_one, fa_nil, List.cons_append, List.nil_append, List.append_nil]
  refine call_step (n_penumbraref03_Of (1) (4) (by decide) (by decide) (by decide) (by decide) (Y1_4.trans (by decide +kernel))) rfl ?_
  simp only [fa_agg, fa_one, fa_nil, List.cons_append, List.nil_append, List.append_nil]
  have m242 : Num 1 (cr Z1_4) Z1_4 := Num.c Y1_4 (by decide +kernel) (by decide +kernel)
  refine call_step (n_penumbraref03_Is_t (m242.mono (by decide)) (m242.mono (by decide)) rfl) rfl ?_
  simp only [fa_agg, fa_one, fa_nil, List.cons_append, List.nil_append, List.append_nil]
  refine itT rfl ?_
  refine call_step (n_penumbraref03_Of (1) (2) (by decide) (by decide) (by decide) (by decide) (Y1_2.trans (by decide +kernel))) rfl ?_
  simp only [fa_agg, fa_one, fa_nil, List.cons_append, List.nil_append, List.append_nil]
  refine call_step (n_penumbraref03_Is_t (m230.mono (by decide)) (m230.mono (by decide)) rfl) rfl ?_
  simp only [fa_agg, fa_one, fa_nil, List.cons_append, List.nil_append, List.append_nil]
  refine itT rfl ?_
  refine call_step (n_penumbraref03_Of (-3) (1) (by decide) (by decide) (by decide) (by decide) (Ym3.trans (by decide +kernel))) rfl ?_
  simp only [fa_agg, fa_one, fa_nil, List.cons_append, List.nil_append, List.append_nil]
  have m243 : Num 1 (cr Zm3) Zm3 := Num.c Ym3 (by decide +kernel) (by decide +kernel)
  refine call_step (n_penumbraref03_Is_t (m243.mono (by decide)) (m243.mono (by decide)) rfl) rfl ?_
  simp only [fa_agg, fa_one, fa_nil, List.cons_append, List.nil_append, List.append_nil]
  refine itT rfl ?_
  refine itT rfl ?_
  refine primS (.bool true) rfl ?_
  refine itT rfl ?_
  refine primS (.bool true) rfl ?_
  refine itT rfl ?_
  refine itT rfl ?_
  refine primS (.bool true) rfl ?_
  refine itT rfl ?_
  refine itT rfl ?_
  refine call_step (n_rat_Of (1) (1) (by decide) (by decide) (by decide) (by decide) (Y1.trans (by decide +kernel))) rfl ?_
  simp only [fa_agg, fa_one, fa_nil, List.cons_append, List.nil_append, List.append_nil]
  refine call_step (n_warp_Back_3 (k0 := Z2) (k1 := Z1_2) (k2 := Z3_4) Y0 Y1_2 Y1 (m232.mono (by decide)) (by rw [Y2, Y1] <;> decide +kernel) (by rw [Y1_2, Y1, Y2] <;> decide +kernel) (by rw [Y3_4, Y1_2, Y1] <;> decide +kernel) (show ¬(Z1 < Z0) by rw [Y1, Y0] <;> decide +kernel) (show ¬(Z2 = Z0) by rw [Y2, Y0] <;> decide +kernel)) rfl ?_
  simp only [fa_agg, fa_one, fa_nil, List.cons_append, List.nil_append, List.append_nil]
  refine call_step (n_penumbraref03_Of (3) (4) (by decide) (by decide) (by decide) (by decide) (Y3_4.trans (by decide +kernel))) rfl ?_
  simp only [fa_agg, fa_one, fa_nil, List.cons_append, List.nil_append, List.append_nil]
  refine call_step (n_penumbraref03_Is_t (m229.mono (by decide)) (m229.mono (by decide)) rfl) rfl ?_
  simp only [fa_agg, fa_one, fa_nil, List.cons_append, List.nil_append, List.append_nil]
  refine itT rfl ?_
  refine call_step (n_rat_Of (-1) (1) (by decide) (by decide) (by decide) (by decide) (Ym1.trans (by decide +kernel))) rfl ?_
  simp only [fa_agg, fa_one, fa_nil, List.cons_append, List.nil_append, List.append_nil]
  have m244 : Num 1 (cr Zm1) Zm1 := Num.c Ym1 (by decide +kernel) (by decide +kernel)
  refine call_step (n_warp_Density_1 (k0 := Z4) (k1 := Z1_8) Y0 Y1_2 Y1 (m244.mono (by decide)) (by rw [Y4, Y1, Ym1] <;> decide +kernel) (by rw [Y1_8, Y1_2, Y4] <;> decide +kernel) (show (Zm1 < Z0) by rw [Ym1, Y0] <;> decide +kernel) (show ¬(Z4 = Z0) by rw [Y4, Y0] <;> decide +kernel)) rfl ?_
  simp only [fa_agg, fa_one, fa_nil, List.cons_append, List.nil_append, List.append_nil]
  refine call_step (n_penumbraref03_Of (1) (8) (by decide) (by decide) (by decide) (by decide) (Y1_8.trans (by decide +kernel))) rfl ?_
  simp only [fa_agg, fa_one, fa_nil, List.cons_append, List.nil_append, List.append_nil]
  refine call_step (n_penumbraref03_Is_t (m231.mono (by decide)) (m231.mono (by decide)) rfl) rfl ?_
  simp only [fa_agg, fa_one, fa_nil, List.cons_append, List.nil_append, List.append_nil]
  exact ret_step rfl

theorem n_penumbraref14_Back_0 {Z0 Z1 Z2 : Rat} (Y0 : Z0 = (0 : Rat)) (Y1 : Z1 = (1 : Rat)) (Y2 : Z2 = (2 : Rat)) {r0 : RR} {x0 : Rat} {k0 k1 : Rat} (h0 : Num 9000000000 r0 x0) (e0 : k0 = (x0 / (Z1 + (-x0)))) (e1 : k1 = ((Z1 + k0) / Z2)) (c0 : x0 < Z0) : PureCalls prog F.penumbraref14_Back [.agg ([.bool r0.neg, nl r0.num, nl r0.den])] [.agg ([.bool (decide ((k1).num < 0)), nn (k1).num.natAbs, nn (k1).den])] := by
  subst e0 e1
  refine symFunc_sound hmix tree_penumbraref14_Back (by kernel_rfl) rfl ?_
  unfold ir_penumbraref14_Back
  simp only [fa_agg, fa_one, fa_nil, List.cons_append, List.nil_append, List.append_nil]
  refine call_step (n_penumbraref03_One Y1) rfl ?_
  simp only [fa_agg, fa_one, fa_nil, List.cons_append, List.nil_append, List.append_nil]
  refine call_step (n_penumbraref03_Abs_t (k0 := (-x0)) Y0 (h0.mono (by decide)) rfl c0) rfl ?_
  simp only [fa_agg, fa_one, fa_nil, List.cons_append, List.nil_append, List.append_nil]
  have m257 : Num 1 (cr Z1) Z1 := Num.c Y1 (by decide +kernel) (by decide +kernel)
  have m258 : Num 9000000000 (cr (-x0)) (-x0) := Num.of (Sm.neg h0.sm)
  refine call_step (n_penumbraref03_Add (k0 := (Z1 + (-x0))) (m257.mono (by decide)) (m258.mono (by decide)) rfl) rfl ?_
  simp only [fa_agg, fa_one, fa_nil, List.cons_append, List.nil_append, List.append_nil]
  refine call_step (n_penumbraref03_One Y1) rfl ?_
  simp only [fa_agg, fa_one, fa_nil, List.cons_append, List.nil_append, List.append_nil]
  have m259 : Num 9000000002 (cr (Z1 + (-x0))) (Z1 + (-x0)) := Num.of (Sm.add m257.sm m258.sm)
  refine call_step (n_penumbraref03_Over (k0 := (x0 / (Z1 + (-x0)))) (h0.mono (by decide)) (m259.mono (by decide)) rfl) rfl ?_
  simp only [fa_agg, fa_one, fa_nil, List.cons_append, List.nil_append, List.append_nil]
  have m260 : Num 18000000002 (cr (x0 / (Z1 + (-x0)))) (x0 / (Z1 + (-x0))) := Num.of (Sm.div h0.sm m259.sm)
  refine call_step (n_penumbraref03_Add (k0 := (Z1 + (x0 / (Z1 + (-x0))))) (m257.mono (by decide)) (m260.mono (by decide)) rfl) rfl ?_
  simp only [fa_agg, fa_one, fa_nil, List.cons_append, List.nil_append, List.append_nil]
  refine call_step (n_penumbraref03_Of (2) (1) (by decide) (by decide) (by decide) (by decide) (Y2.trans (by decide +kernel))) rfl ?_
  simp only [fa_agg, fa_one, fa_nil, List.cons_append, List.nil_append, List.append_nil]
  have m261 : Num 18000000004 (cr (Z1 + (x0 / (Z1 + (-x0))))) (Z1 + (x0 / (Z1 + (-x0)))) := Num.of (Sm.add m257.sm m260.sm)
  have m262 : Num 1 (cr Z2) Z2 := Num.c Y2 (by decide +kernel) (by decide +kernel)
  refine call_step (n_penumbraref03_Over (k0 := ((Z1 + (x0 / (Z1 + (-x0)))) / Z2)) (m261.mono (by decide)) (m262.mono (by decide)) rfl) rfl ?_
  simp only [fa_agg, fa_one, fa_nil, List.cons_append, List.nil_append, List.append_nil]
  exact ret_step rfl

theorem n_penumbraref14_Back_1 {Z0 Z1 Z2 : Rat} (Y0 : Z0 = (0 : Rat)) (Y1 : Z1 = (1 : Rat)) (Y2 : Z2 = (2 : Rat)) {r0 : RR} {x0 : Rat} {k0 k1 : Rat} (h0 : Num 9000000000 r0 x0) (e0 : k0 = (x0 / (Z1 + x0))) (e1 : k1 = ((Z1 + k0) / Z2)) (c0 : ¬x0 < Z0) : PureCalls prog F.penumbraref14_Back [.agg ([.bool r0.neg, nl r0.num, nl r0.den])] [.agg ([.bool (decide ((k1).num < 0)), nn (k1).num.natAbs, nn (k1).den])] := by
  subst e0 e1
  refine symFunc_sound hmix tree_penumbraref14_Back (by kernel_rfl) rfl ?_
  unfold ir_penumbraref14_Back
  simp only [fa_agg, fa_one, fa_nil, List.cons_append, List.nil_append, List.append_nil]
  refine call_step (n_penumbraref03_One Y1) rfl ?_
  simp only [fa_agg, fa_one, fa_nil, List.cons_append, List.nil_append, List.append_nil]
  refine call_step (n_penumbraref03_Abs_f Y0 (h0.mono (by decide)) c0) rfl ?_
  simp only [fa_agg, fa_one, fa_nil, List.cons_append, List.nil_append, List.append_nil]
  have m263 : Num 1 (cr Z1) Z1 := Num.c Y1 (by decide +kernel) (by decide +kernel)
  have m264 : Num 9000000000 (cr x0) x0 := Num.of h0.sm
  refine call_step (n_penumbraref03_Add (k0 := (Z1 + x0)) (m263.mono (by decide)) (m264.mono (by decide)) rfl) rfl ?_
  simp only [fa_agg, fa_one, fa_nil, List.cons_append, List.nil_append, List.append_nil]
  refine call_step (n_penumbraref03_One Y1) rfl ?_
  simp only [fa_agg, fa_one, fa_nil, List.cons_append, List.nil_append, List.append_nil]
  have m265 : Num 9000000002 (cr (Z1 + x0)) (Z1 + x0) := Num.of (Sm.add m263.sm m264.sm)
  refine call_step (n_penumbraref03_Over (k0 := (x0 / (Z1 + x0))) (h0.mono (by decide)) (m265.mono (by decide)) rfl) rfl ?_
  simp only [fa_agg, fa_one, fa_nil, List.cons_append, List.nil_append, List.append_nil]
  have m266 : Num 18000000002 (cr (x0 / (Z1 + x0))) (x0 / (Z1 + x0)) := Num.of (Sm.div h0.sm m265.sm)
  refine call_step (n_penumbraref03_Add (k0 := (Z1 + (x0 / (Z1 + x0)))) (m263.mono (by decide)) (m266.mono (by decide)) rfl) rfl ?_
  simp only [fa_agg, fa_one, fa_nil, List.cons_append, List.nil_append, List.append_nil]
  refine call_step (n_penumbraref03_Of (2) (1) (by decide) (by decide) (by decide) (by decide) (Y2.trans (by decide +kernel))) rfl ?_
  simp only [fa_agg, fa_one, fa_nil, List.cons_append, List.nil_append, List.append_nil]
  have m267 : Num 18000000004 (cr (Z1 + (x0 / (Z1 + x0)))) (Z1 + (x0 / (Z1 + x0))) := Num.of (Sm.add m263.sm m266.sm)
  have m268 : Num 1 (cr Z2) Z2 := Num.c Y2 (by decide +kernel) (by decide +kernel)
  refine call_step (n_penumbraref03_Over (k0 := ((Z1 + (x0 / (Z1 + x0))) / Z2)) (m267.mono (by decide)) (m268.mono (by decide)) rfl) rfl ?_
  simp only [fa_agg, fa_one, fa_nil, List.cons_append, List.nil_append, List.append_nil]
  exact ret_step rfl

theorem n_penumbraref14_Density_0 {Z0 Z1 Z2 : Rat} (Y0 : Z0 = (0 : Rat)) (Y1 : Z1 = (1 : Rat)) (Y2 : Z2 = (2 : Rat)) {r0 : RR} {x0 : Rat} {k0 : Rat} (h0 : Num 9000000000 r0 x0) (e0 : k0 = (Z1 / (Z2 * ((Z1 + (-x0)) * (Z1 + (-x0)))))) (c0 : x0 < Z0) : PureCalls prog F.penumbraref14_Density [.agg ([.bool r0.neg, nl r0.num, nl r0.den])] [.agg ([.bool (decide ((k0).num < 0)), nn (k0).num.natAbs, nn (k0).den])] := by
  subst e0
  refine symFunc_sound hmix tree_penumbraref14_Density (by kernel_rfl) rfl ?_
  unfold ir_penumbraref14_Density
  simp only [fa_agg, fa_one, fa_nil, List.cons_append, List.nil_append, List.append_nil]
  refine call_step (n_penumbraref03_One Y1) rfl ?_
  simp only [fa_agg, fa_one, fa_nil, List.cons_append, List.nil_append, List.append_nil]
  refine call_step (n_penumbraref03_Abs_t (k0 := (-x0)) Y0 (h0.mono (by decide)) rfl c0) rfl ?_
  simp only [fa_agg, fa_one, fa_nil, List.cons_append, List.nil_append, List.append_nil]
  have m281 : Num 1 (cr Z1) Z1 := Num.c Y1 (by decide +kernel) (by decide +kernel)
  have m282 : Num 9000000000 (cr (-x0)) (-x0) := Num.of (Sm.neg h0.sm)
  refine call_step (n_penumbraref03_Add (k0 := (Z1 + (-x0))) (m281.mono (by decide)) (m282.mono (by decide)) rfl) rfl ?_
  simp only [fa_agg, fa_one, fa_nil, List.cons_append, List.nil_append, List.append_nil]
  refine call_step (n_penumbraref03_One Y1) rfl ?_
  simp only [fa_agg, fa_one, fa_nil, List.cons_append, List.nil_append, List.append_nil]
  refine call_step (n_penumbraref03_Of (2) (1) (by decide) (by decide) (by decide) (by decide) (Y2.trans (by decide +kernel))) rfl ?_
  simp only [fa_agg, fa_one, fa_nil, List.cons_append, List.nil_append, List.append_nil]
  have m283 : Num 9000000002 (cr (Z1 + (-x0))) (Z1 + (-x0)) := Num.of (Sm.add m281.sm m282.sm)
  refine call_step (n_penumbraref03_Mul (k0 := ((Z1 + (-x0)) * (Z1 + (-x0)))) (m283.mono (by decide)) (m283.mono (by decide)) rfl) rfl ?_
  simp only [fa_agg, fa_one, fa_nil, List.cons_append, List.nil_append, List.append_nil]
  have m284 : Num 1 (cr Z2) Z2 := Num.c Y2 (by decide +kernel) (by decide +kernel)
  have m285 : Num 18000000004 (cr ((Z1 + (-x0)) * (Z1 + (-x0)))) ((Z1 + (-x0)) * (Z1 + (-x0))) := Num.of (Sm.mul m283.sm m283.sm)
  refine call_step (n_penumbraref03_Mul (k0 := (Z2 * ((Z1 + (-x0)) * (Z1 + (-x0))))) (m284.mono (by decide)) (m285.mono (by decide)) rfl) rfl ?_
  simp only [fa_agg, fa_one, fa_nil, List.cons_append, List.nil_append, List.append_nil]
  have m286 : Num 18000000005 (cr (Z2 * ((Z1 + (-x0)) * (Z1 + (-x0))))) (Z2 * ((Z1 + (-x0)) * (Z1 + (-x0)))) := Num.of (Sm.mul m284.sm m285.sm)
  refine call_step (n_penumbraref03_Over (k0 := (Z1 / (Z2 * ((Z1 + (-x0)) * (Z1 + (-x0)))))) (m281.mono (by decide)) (m286.mono (by decide)) rfl) rfl ?_
  simp only [fa_agg, fa_one, fa_nil, List.cons_append, List.nil_append, List.append_nil]
  exact ret_step rfl

theorem n_penumbraref14_Density_1 {Z0 Z1 Z2 : Rat} (Y0 : Z0 = (0 : Rat)) (Y1 : Z1 = (1 : Rat)) (Y2 : Z2 = (2 : Rat)) {r0 : RR} {x0 : Rat} {k0 : Rat} (h0 : Num 9000000000 r0 x0) (e0 : k0 = (Z1 / (Z2 * ((Z1 + x0) * (Z1 + x0))))) (c0 : ¬x0 < Z0) : PureCalls prog F.penumbraref14_Density [.agg ([.bool r0.neg, nl r0.num, nl r0.den])] [.agg ([.bool (decide ((k0).num < 0)), nn (k0).num.natAbs, nn (k0).den])] := by
  subst e0
  refine symFunc_sound hmix tree_penumbraref14_Density (by kernel_rfl) rfl ?_
  unfold ir_penumbraref14_Density
  simp only [fa_agg, fa_one, fa_nil, List.cons_append, List.nil_append, List.append_nil]
  refine call_step (n_penumbraref03_One Y1) rfl ?_
  simp only [fa_agg, fa_one, fa_nil, List.cons_append, List.nil_append, List.append_nil]
  refine call_step (n_penumbraref03_Abs_f Y0 (h0.mono (by decide)) c0) rfl ?_
  simp only [fa_agg, fa_one, fa_nil, List.cons_append, List.nil_append, List.append_nil]
  have m287 : Num 1 (cr Z1) Z1 := Num.c Y1 (by decide +kernel) (by decide +kernel)
  have m288 : Num 9000000000 (cr x0) x0 := Num.of h0.sm
  refine call_step (n_penumbraref03_Add (k0 := (Z1 + x0)) (m287.mono (by decide)) (m288.mono (by decide)) rfl) rfl ?_
  simp only [fa_agg, fa_one, fa_nil, List.cons_append, List.nil_append, List.append_nil]
  refine call_step (n_penumbraref03_One Y1) rfl ?_
  simp only [fa_agg, fa_one, fa_nil, List.cons_append, List.nil_append, List.append_nil]
  refine call_step (n_penumbraref03_Of (2) (1) (by decide) (by decide) (by decide) (by decide) (Y2.trans (by decide +kernel))) rfl ?_
  simp only [fa_agg, fa_one, fa_nil, List.cons_append, List.nil_append, List.append_nil]
  have m289 : Num 9000000002 (cr (Z1 + x0)) (Z1 + x0) := Num.of (Sm.add m287.sm m288.sm)
  refine call_step (n_penumbraref03_Mul (k0 := ((Z1 + x0) * (Z1 + x0))) (m289.mono (by decide)) (m289.mono (by decide)) rfl) rfl ?_
  simp only [fa_agg, fa_one, fa_nil, List.cons_append, List.nil_append, List.append_nil]
  have m290 : Num 1 (cr Z2) Z2 := Num.c Y2 (by decide +kernel) (by decide +kernel)
  have m291 : Num 18000000004 (cr ((Z1 + x0) * (Z1 + x0))) ((Z1 + x0) * (Z1 + x0)) := Num.of (Sm.mul m289.sm m289.sm)
  refine call_step (n_penumbraref03_Mul (k0 := (Z2 * ((Z1 + x0) * (Z1 + x0)))) (m290.mono (by decide)) (m291.mono (by decide)) rfl) rfl ?_
  simp only [fa_agg, fa_one, fa_nil, List.cons_append, List.nil_append, List.append_nil]
  have m292 : Num 18000000005 (cr (Z2 * ((Z1 + x0) * (Z1 + x0)))) (Z2 * ((Z1 + x0) * (Z1 + x0))) := Num.of (Sm.mul m290.sm m291.sm)
  refine call_step (n_penumbraref03_Over (k0 := (Z1 / (Z2 * ((Z1 + x0) * (Z1 + x0))))) (m287.mono (by decide)) (m292.mono (by decide)) rfl) rfl ?_
  simp only [fa_agg, fa_one, fa_nil, List.cons_append, List.nil_append, List.append_nil]
  exact ret_step rfl

end Go.Px.Na

/- XWarpPicks: the trees of functions and their contracts, as programs of mine printed them. -/
import Derived.Test.YtgnhhdgepnfnmaaLb
import Derived.Test.YtgnhhdgepnfnmaaPx24
import Derived.Test.YtgnhhdgepnfnmaaProg
import Derived.Tactics
set_option maxRecDepth 20000
set_option maxHeartbeats 40000000
set_option linter.unusedVariables false
set_option linter.unusedSimpArgs false
namespace Go.Px
open Go.RowKit
def ir_warp_one : IR :=
 .call F.rat_Of [.one (.int .i64 (1)), .one (.int .i64 (1))] [.agg 3] <|
 .ret [.agg [.var 0, .var 1, .var 2]]

def ir_warp_Pick : IR :=
 .prim .len [.var 0] <|
 .prim (.bin .gtr) [.var 4, .int .i64 (1000)] <|
 .ite (.var 5) (
  .ret [.one (.int .i64 (0)), .one (.bol false)]) (
  .call F.rat_Sign [.agg [.var 1, .var 2, .var 3]] [.one] <|
  .prim (.bin .lss) [.var 6, .int .i64 (0)] <|
  .ite (.var 7) (
   .ret [.one (.int .i64 (0)), .one (.bol false)]) (
   .call F.warp_one [] [.agg 3] <|
   .call F.rat_Cmp [.agg [.var 1, .var 2, .var 3], .agg [.var 8, .var 9, .var 10]] [.one] <|
   .prim (.bin .geq) [.var 11, .int .i64 (0)] <|
   .ite (.var 12) (
    .ret [.one (.int .i64 (0)), .one (.bol false)]) (
    .prim .len [.var 0] <|
    .loop [.var 0, .int .i64 (0), .var 13, .int .i64 (0), .var 1, .var 2, .var 3] (
     .prim (.bin .lss) [.var 3, .var 2] <|
     .ite (.var 7) (
      .prim (.inb 1) [.var 0, .var 3] <|
      .prim (.get 1 0) [.var 0, .var 3] <|
      .prim (.bin .lss) [.var 9, .int .i64 (0)] <|
      .ite (.var 10) (
       .ret [.one (.int .i64 (0)), .one (.bol false)]) (
       .prim (.bin .gtr) [.var 9, .int .i64 (1048576)] <|
       .ite (.var 11) (
        .ret [.one (.int .i64 (0)), .one (.bol false)]) (
        .prim (.bin .add) [.var 1, .var 9] <|
        .prim (.bin .add) [.var 3, .int .i64 (1)] <|
        .jump 0 [.var 0, .var 12, .var 2, .var 13, .var 4, .var 5, .var 6]))) (
      .call F.rat_Of [.one (.var 1), .one (.int .i64 (1))] [.agg 3] <|
      .prim (.mk 2) [.var 4, .var 5, .var 6, .var 8, .var 9, .var 10] <|
      .call F.rat_Product [.one (.var 11)] [.agg 3] <|
      .prim .len [.var 0] <|
      .loop [.int .i64 (0), .var 0, .var 15, .int .i64 (0), .var 12, .var 13, .var 14] (
       .prim (.bin .lss) [.var 3, .var 2] <|
       .ite (.var 7) (
        .prim (.inb 1) [.var 1, .var 3] <|
        .prim (.get 1 0) [.var 1, .var 3] <|
        .prim (.bin .add) [.var 0, .var 9] <|
        .call F.rat_Of [.one (.var 10), .one (.int .i64 (1))] [.agg 3] <|
        .call F.rat_Cmp [.agg [.var 4, .var 5, .var 6], .agg [.var 11, .var 12, .var 13]] [.one] <|
        .prim (.bin .lss) [.var 14, .int .i64 (0)] <|
        .ite (.var 15) (
         .ret [.one (.var 3), .one (.bol true)]) (
         .prim (.bin .add) [.var 3, .int .i64 (1)] <|
         .jump 1 [.var 10, .var 1, .var 2, .var 16, .var 4, .var 5, .var 6])) (
        .ret [.one (.int .i64 (0)), .one (.bol false)])))))))

def ir_penumbraref14_Pick : IR :=
 .prim .len [.var 0] <|
 .prim (.bin .gtr) [.var 4, .int .i64 (1000)] <|
 .ite (.var 5) (
  .ret [.one (.int .i64 (0)), .one (.bol false)]) (
  .call F.penumbraref03_Sign [.agg [.var 1, .var 2, .var 3]] [.one] <|
  .prim (.bin .lss) [.var 6, .int .i64 (0)] <|
  .ite (.var 7) (
   .ret [.one (.int .i64 (0)), .one (.bol false)]) (
   .call F.penumbraref03_One [] [.agg 3] <|
   .call F.penumbraref03_Cmp [.agg [.var 1, .var 2, .var 3], .agg [.var 8, .var 9, .var 10]] [.one] <|
   .prim (.bin .geq) [.var 11, .int .i64 (0)] <|
   .ite (.var 12) (
    .ret [.one (.int .i64 (0)), .one (.bol false)]) (
    .loop [.var 0, .int .i64 (0), .int .i64 (0), .var 1, .var 2, .var 3] (
     .prim .len [.var 0] <|
     .prim (.bin .lss) [.var 2, .var 6] <|
     .ite (.var 7) (
      .prim (.inb 1) [.var 0, .var 2] <|
      .prim (.get 1 0) [.var 0, .var 2] <|
      .prim (.bin .lss) [.var 9, .int .i64 (0)] <|
      .ite (.var 10) (
       .ret [.one (.int .i64 (0)), .one (.bol false)]) (
       .prim (.inb 1) [.var 0, .var 2] <|
       .prim (.get 1 0) [.var 0, .var 2] <|
       .prim (.bin .gtr) [.var 12, .int .i64 (1048576)] <|
       .ite (.var 13) (
        .ret [.one (.int .i64 (0)), .one (.bol false)]) (
        .prim (.inb 1) [.var 0, .var 2] <|
        .prim (.get 1 0) [.var 0, .var 2] <|
        .prim (.bin .add) [.var 1, .var 15] <|
        .prim (.bin .add) [.var 2, .int .i64 (1)] <|
        .jump 0 [.var 0, .var 16, .var 17, .var 3, .var 4, .var 5]))) (
      .call F.penumbraref03_Of [.one (.var 1), .one (.int .i64 (1))] [.agg 3] <|
      .call F.penumbraref03_Mul [.agg [.var 3, .var 4, .var 5], .agg [.var 8, .var 9, .var 10]] [.agg 3] <|
      .loop [.var 0, .int .i64 (0), .int .i64 (0), .var 11, .var 12, .var 13] (
       .prim .len [.var 0] <|
       .prim (.bin .lss) [.var 2, .var 6] <|
       .ite (.var 7) (
        .call F.penumbraref03_Of [.one (.var 1), .one (.int .i64 (1))] [.agg 3] <|
        .call F.penumbraref03_Cmp [.agg [.var 8, .var 9, .var 10], .agg [.var 3, .var 4, .var 5]] [.one] <|
        .prim (.bin .leq) [.var 11, .int .i64 (0)] <|
        .ite (.var 12) (
         .prim (.inb 1) [.var 0, .var 2] <|
         .prim (.get 1 0) [.var 0, .var 2] <|
         .prim (.bin .add) [.var 1, .var 14] <|
         .call F.penumbraref03_Of [.one (.var 15), .one (.int .i64 (1))] [.agg 3] <|
         .call F.penumbraref03_Cmp [.agg [.var 3, .var 4, .var 5], .agg [.var 16, .var 17, .var 18]] [.one] <|
         .prim (.bin .lss) [.var 19, .int .i64 (0)] <|
         .ite (.var 20) (
          .ret [.one (.var 2), .one (.bol true)]) (
          .prim (.inb 1) [.var 0, .var 2] <|
          .prim (.get 1 0) [.var 0, .var 2] <|
          .prim (.bin .add) [.var 1, .var 22] <|
          .prim (.bin .add) [.var 2, .int .i64 (1)] <|
          .jump 1 [.var 0, .var 23, .var 24, .var 3, .var 4, .var 5])) (
         .prim (.inb 1) [.var 0, .var 2] <|
         .prim (.get 1 0) [.var 0, .var 2] <|
         .prim (.bin .add) [.var 1, .var 14] <|
         .prim (.bin .add) [.var 2, .int .i64 (1)] <|
         .jump 1 [.var 0, .var 15, .var 16, .var 3, .var 4, .var 5])) (
        .ret [.one (.int .i64 (0)), .one (.bol false)])))))))

def ir_warp_Fold : IR :=
 .prim (.mk 2) [.var 0, .var 1, .var 2, .var 3, .var 4, .var 5] <|
 .call F.rat_Sum [.one (.var 6)] [.agg 3] <|
 .call F.warp_one [] [.agg 3] <|
 .call F.rat_Cmp [.agg [.var 7, .var 8, .var 9], .agg [.var 10, .var 11, .var 12]] [.one] <|
 .prim (.bin .gtr) [.var 13, .int .i64 (0)] <|
 .ite (.var 14) (
  .call F.warp_one [] [.agg 3] <|
  .call F.rat_Sub [.agg [.var 15, .var 16, .var 17], .agg [.var 0, .var 1, .var 2]] [.agg 3] <|
  .call F.warp_one [] [.agg 3] <|
  .call F.rat_Sub [.agg [.var 21, .var 22, .var 23], .agg [.var 3, .var 4, .var 5]] [.agg 3] <|
  .ret [.agg [.var 18, .var 19, .var 20], .agg [.var 24, .var 25, .var 26]]) (
  .call F.rat_Read [.agg [.var 0, .var 1, .var 2]] [.agg 3] <|
  .call F.rat_Read [.agg [.var 3, .var 4, .var 5]] [.agg 3] <|
  .ret [.agg [.var 15, .var 16, .var 17], .agg [.var 18, .var 19, .var 20]])

def ir_warp_over : IR :=
 .call F.rat_Div [.agg [.var 0, .var 1, .var 2], .agg [.var 3, .var 4, .var 5]] [.agg 3, .one] <|
 .ret [.agg [.var 6, .var 7, .var 8]]

def ir_warp_Line : IR :=
 .call F.rat_Sign [.agg [.var 0, .var 1, .var 2]] [.one] <|
 .prim (.bin .leq) [.var 3, .int .i64 (0)] <|
 .ite (.var 4) (
  .call F.rat_Of [.one (.int .i64 (0)), .one (.int .i64 (1))] [.agg 3] <|
  .ret [.agg [.var 5, .var 6, .var 7], .one (.bol false)]) (
  .call F.warp_one [] [.agg 3] <|
  .call F.rat_Cmp [.agg [.var 0, .var 1, .var 2], .agg [.var 5, .var 6, .var 7]] [.one] <|
  .prim (.bin .geq) [.var 8, .int .i64 (0)] <|
  .ite (.var 9) (
   .call F.rat_Of [.one (.int .i64 (0)), .one (.int .i64 (1))] [.agg 3] <|
   .ret [.agg [.var 10, .var 11, .var 12], .one (.bol false)]) (
   .prim (.mk 2) [.var 0, .var 1, .var 2, .var 0, .var 1, .var 2] <|
   .call F.rat_Sum [.one (.var 10)] [.agg 3] <|
   .call F.warp_one [] [.agg 3] <|
   .call F.rat_Sub [.agg [.var 11, .var 12, .var 13], .agg [.var 14, .var 15, .var 16]] [.agg 3] <|
   .call F.warp_one [] [.agg 3] <|
   .call F.rat_Abs [.agg [.var 17, .var 18, .var 19]] [.agg 3] <|
   .call F.rat_Sub [.agg [.var 20, .var 21, .var 22], .agg [.var 23, .var 24, .var 25]] [.agg 3] <|
   .call F.warp_over [.agg [.var 17, .var 18, .var 19], .agg [.var 26, .var 27, .var 28]] [.agg 3] <|
   .ret [.agg [.var 29, .var 30, .var 31], .one (.bol true)]))

def ir_warp_Back : IR :=
 .call F.warp_one [] [.agg 3] <|
 .call F.rat_Abs [.agg [.var 0, .var 1, .var 2]] [.agg 3] <|
 .prim (.mk 2) [.var 3, .var 4, .var 5, .var 6, .var 7, .var 8] <|
 .call F.rat_Sum [.one (.var 9)] [.agg 3] <|
 .call F.warp_over [.agg [.var 0, .var 1, .var 2], .agg [.var 10, .var 11, .var 12]] [.agg 3] <|
 .call F.rat_Of [.one (.int .i64 (1)), .one (.int .i64 (2))] [.agg 3] <|
 .call F.warp_one [] [.agg 3] <|
 .prim (.mk 2) [.var 19, .var 20, .var 21, .var 13, .var 14, .var 15] <|
 .call F.rat_Sum [.one (.var 22)] [.agg 3] <|
 .prim (.mk 2) [.var 16, .var 17, .var 18, .var 23, .var 24, .var 25] <|
 .call F.rat_Product [.one (.var 26)] [.agg 3] <|
 .ret [.agg [.var 27, .var 28, .var 29]]

def ir_warp_Density : IR :=
 .call F.warp_one [] [.agg 3] <|
 .call F.rat_Abs [.agg [.var 0, .var 1, .var 2]] [.agg 3] <|
 .prim (.mk 2) [.var 3, .var 4, .var 5, .var 6, .var 7, .var 8] <|
 .call F.rat_Sum [.one (.var 9)] [.agg 3] <|
 .call F.rat_Of [.one (.int .i64 (1)), .one (.int .i64 (2))] [.agg 3] <|
 .prim (.mk 2) [.var 10, .var 11, .var 12, .var 10, .var 11, .var 12] <|
 .call F.rat_Product [.one (.var 16)] [.agg 3] <|
 .call F.warp_over [.agg [.var 13, .var 14, .var 15], .agg [.var 17, .var 18, .var 19]] [.agg 3] <|
 .ret [.agg [.var 20, .var 21, .var 22]]

def ir_penumbralaw14_fixed : IR :=
 .call F.rat_Of [.one (.int .i64 (3)), .one (.int .i64 (4))] [.agg 3] <|
 .call F.rat_Of [.one (.int .i64 (1)), .one (.int .i64 (2))] [.agg 3] <|
 .call F.warp_Fold [.agg [.var 0, .var 1, .var 2], .agg [.var 3, .var 4, .var 5]] [.agg 3, .agg 3] <|
 .call F.rat_Of [.one (.int .i64 (1)), .one (.int .i64 (8))] [.agg 3] <|
 .call F.warp_Line [.agg [.var 12, .var 13, .var 14]] [.agg 3, .one] <|
 .call F.rat_Of [.one (.int .i64 (1)), .one (.int .i64 (1))] [.agg 3] <|
 .call F.warp_Line [.agg [.var 19, .var 20, .var 21]] [.agg 3, .one] <|
 .prim (.mk 3) [.int .i64 (1), .int .i64 (0), .int .i64 (3)] <|
 .call F.rat_Of [.one (.int .i64 (1)), .one (.int .i64 (4))] [.agg 3] <|
 .call F.warp_Pick [.one (.var 26), .agg [.var 27, .var 28, .var 29]] [.one, .one] <|
 .prim (.mk 3) [.int .i64 (1), .int .i64 (0), .int .i64 (3)] <|
 .call F.rat_Of [.one (.int .i64 (1)), .one (.int .i64 (8))] [.agg 3] <|
 .call F.warp_Pick [.one (.var 32), .agg [.var 33, .var 34, .var 35]] [.one, .one] <|
 .call F.penumbraref03_Of [.one (.int .i64 (1)), .one (.int .i64 (4))] [.agg 3] <|
 .call F.penumbraref03_Is [.agg [.var 6, .var 7, .var 8], .agg [.var 38, .var 39, .var 40]] [.one] <|
 .ite (.var 41) (
  .call F.penumbraref03_Of [.one (.int .i64 (1)), .one (.int .i64 (2))] [.agg 3] <|
  .call F.penumbraref03_Is [.agg [.var 9, .var 10, .var 11], .agg [.var 42, .var 43, .var 44]] [.one] <|
  .ite (.var 45) (
   .call F.penumbraref03_Of [.one (.int .i64 (-3)), .one (.int .i64 (1))] [.agg 3] <|
   .call F.penumbraref03_Is [.agg [.var 15, .var 16, .var 17], .agg [.var 46, .var 47, .var 48]] [.one] <|
   .ite (.var 49) (
    .ite (.var 18) (
     .prim .not [.var 25] <|
     .ite (.var 50) (
      .prim (.bin .eql) [.var 30, .int .i64 (2)] <|
      .ite (.var 51) (
       .ite (.var 31) (
        .prim (.bin .eql) [.var 36, .int .i64 (0)] <|
        .ite (.var 52) (
         .ite (.var 37) (
          .call F.rat_Of [.one (.int .i64 (1)), .one (.int .i64 (1))] [.agg 3] <|
          .call F.warp_Back [.agg [.var 53, .var 54, .var 55]] [.agg 3] <|
          .call F.penumbraref03_Of [.one (.int .i64 (3)), .one (.int .i64 (4))] [.agg 3] <|
          .call F.penumbraref03_Is [.agg [.var 56, .var 57, .var 58], .agg [.var 59, .var 60, .var 61]] [.one] <|
          .ite (.var 62) (
           .call F.rat_Of [.one (.int .i64 (-1)), .one (.int .i64 (1))] [.agg 3] <|
           .call F.warp_Density [.agg [.var 63, .var 64, .var 65]] [.agg 3] <|
           .call F.penumbraref03_Of [.one (.int .i64 (1)), .one (.int .i64 (8))] [.agg 3] <|
           .call F.penumbraref03_Is [.agg [.var 66, .var 67, .var 68], .agg [.var 69, .var 70, .var 71]] [.one] <|
           .ret [.one (.var 72)]) (
           .ret [.one (.bol false)])) (
          .ret [.one (.bol false)])) (
         .ret [.one (.bol false)])) (
        .ret [.one (.bol false)])) (
       .ret [.one (.bol false)])) (
      .ret [.one (.bol false)])) (
     .ret [.one (.bol false)])) (
    .ret [.one (.bol false)])) (
   .ret [.one (.bol false)])) (
  .ret [.one (.bol false)])

def ir_penumbralaw14_WarpPicks : IR :=
 .call F.warp_Pick [.one (.var 0), .agg [.var 1, .var 2, .var 3]] [.one, .one] <|
 .call F.penumbraref14_Pick [.one (.var 0), .agg [.var 1, .var 2, .var 3]] [.one, .one] <|
 .call F.penumbralaw14_fixed [] [.one] <|
 .ite (.var 8) (
  .prim (.bin .eql) [.var 4, .var 6] <|
  .ite (.var 9) (
   .prim (.beq false) [.var 5, .var 7] <|
   .ite (.var 10) (
    .prim .not [.var 5] <|
    .ite (.var 11) (
     .ret [.one (.bol true)]) (
     .prim (.bin .geq) [.var 4, .int .i64 (0)] <|
     .ite (.var 12) (
      .prim .len [.var 0] <|
      .prim (.bin .lss) [.var 4, .var 13] <|
      .ite (.var 14) (
       .prim (.inb 1) [.var 0, .var 4] <|
       .prim (.get 1 0) [.var 0, .var 4] <|
       .prim (.bin .gtr) [.var 16, .int .i64 (0)] <|
       .ret [.one (.var 17)]) (
       .ret [.one (.bol false)])) (
      .ret [.one (.bol false)]))) (
    .ret [.one (.bol false)])) (
   .ret [.one (.bol false)])) (
  .ret [.one (.bol false)])

theorem tree_warp_one : symFunc Go.Proofs.Try.prog H0 400 F.warp_one [] = some ir_warp_one := by kernel_rfl
theorem tree_warp_Pick : symFunc Go.Proofs.Try.prog ⟨fun f => [].contains f, fun f i => if f = 29 ∧ i = 5 then [⟨[(0, .s (.one (.at (.var 0)))), (3, .s (.one (.lp 0 0))), (6, .s (.one (.at (.var 1)))), (27, .s (.one (.at (.var 0)))), (28, .s (.one (.at (.var 2)))), (29, .s (.one (.at (.var 3))))], [], [(0, .box [.at (.var 4), .at (.var 5), .at (.var 6)] 24 false)], 1, 7⟩] else if f = 29 ∧ i = 14 then [⟨[(9, .s (.one (.lp 0 0))), (10, .s (.one (.at (.var 0)))), (48, .s (.one (.at (.var 1)))), (49, .s (.one (.at (.var 2)))), (50, .s (.one (.at (.var 3))))], [], [(0, .box [.at (.var 4), .at (.var 5), .at (.var 6)] 24 false)], 1, 7⟩] else [], fun f i => [], fun f => [].contains f⟩ 400 F.warp_Pick [.one, .agg 3] = some ir_warp_Pick := by kernel_rfl
theorem tree_penumbraref14_Pick : symFunc Go.Proofs.Try.prog ⟨fun f => [].contains f, fun f i => if f = 30 ∧ i = 5 then [⟨[(0, .s (.one (.at (.var 0)))), (3, .s (.one (.lp 0 0))), (6, .s (.one (.at (.var 1)))), (7, .s (.one (.at (.var 2))))], [], [(0, .box [.at (.var 3), .at (.var 4), .at (.var 5)] 24 false)], 1, 6⟩] else if f = 30 ∧ i = 13 then [⟨[(0, .s (.one (.at (.var 0)))), (8, .s (.one (.lp 0 0))), (9, .s (.one (.at (.var 1)))), (10, .s (.one (.at (.var 2))))], [], [(0, .box [.at (.var 3), .at (.var 4), .at (.var 5)] 24 false)], 1, 6⟩] else [], fun f i => [], fun f => [].contains f⟩ 400 F.penumbraref14_Pick [.one, .agg 3] = some ir_penumbraref14_Pick := by kernel_rfl
theorem tree_warp_Fold : symFunc Go.Proofs.Try.prog H0 400 F.warp_Fold [.agg 3, .agg 3] = some ir_warp_Fold := by kernel_rfl
theorem tree_warp_over : symFunc Go.Proofs.Try.prog H0 400 F.warp_over [.agg 3, .agg 3] = some ir_warp_over := by kernel_rfl
theorem tree_warp_Line : symFunc Go.Proofs.Try.prog H0 400 F.warp_Line [.agg 3] = some ir_warp_Line := by kernel_rfl
theorem tree_warp_Back : symFunc Go.Proofs.Try.prog H0 400 F.warp_Back [.agg 3] = some ir_warp_Back := by kernel_rfl
theorem tree_warp_Density : symFunc Go.Proofs.Try.prog H0 400 F.warp_Density [.agg 3] = some ir_warp_Density := by kernel_rfl
theorem tree_penumbralaw14_fixed : symFunc Go.Proofs.Try.prog H0 400 F.penumbralaw14_fixed [] = some ir_penumbralaw14_fixed := by kernel_rfl
theorem tree_penumbralaw14_WarpPicks : symFunc Go.Proofs.Try.prog H0 400 F.penumbralaw14_WarpPicks [.one, .agg 3] = some ir_penumbralaw14_WarpPicks := by kernel_rfl
end Go.Px
namespace Go.Px.Na
open Go.RowKit
open Go.Proofs.Try (prog)

theorem n_warp_one_0 {Z1 : Rat} (Y1 : Z1 = (1 : Rat))    : PureCalls prog F.warp_one [] [.agg (gD [Z1])] := by
  refine symFunc_sound hmix tree_warp_one (by kernel_rfl) rfl ?_
  unfold ir_warp_one
  simp only [HH, gW, gD]
  refine call_step (n_rat_Of (1) (1) (by decide) (by decide) (by decide) (by decide) (Y1.trans (by decide +kernel))) rfl ?_
  simp only [HH, gW, gD]
  exact ret_step rfl

theorem n_warp_Fold_0 {Z1 : Rat} (Y1 : Z1 = (1 : Rat)) {r0 r1 : RR} {x0 x1 : Rat} {k0 k1 k2 : Rat} (h0 : Num 9000000000 r0 x0) (h1 : Num 9000000000 r1 x1) (e0 : k0 = (x0 + x1)) (e1 : k1 = (Z1 - x0)) (e2 : k2 = (Z1 - x1)) (c0 : Z1 < k0) : PureCalls prog F.warp_Fold [.agg (gW [r0]), .agg (gW [r1])] [.agg (gD [k1]), .agg (gD [k2])] := by
  subst e0 e1 e2
  refine symFunc_sound hmix tree_warp_Fold (by kernel_rfl) rfl ?_
  unfold ir_warp_Fold
  simp only [HH, gW, gD]
  refine primS (rl [r0, r1]) rfl ?_
  refine call_step (n_rat_Sum_2 (k0 := (x0 + x1)) (h0.mono (by decide)) (h1.mono (by decide)) rfl) rfl ?_
  simp only [HH, gW, gD]
  refine call_step (n_warp_one_0 Y1) rfl ?_
  simp only [HH, gW, gD]
  have m8 : Num 18000000001 (cr (x0 + x1)) (x0 + x1) := Num.of (Sm.add h0.sm h1.sm)
  have m9 : Num 1 (cr Z1) Z1 := Num.c Y1 (by decide +kernel) (by decide +kernel)
  refine call_step (n_rat_Cmp (m8.mono (by decide)) (m9.mono (by decide))) rfl ?_
  simp only [HH, gW, gD]
  refine primS (.bool true) (cs_gtr_t (cq_gt.2 c0)) ?_
  refine itT rfl ?_
  refine call_step (n_warp_one_0 Y1) rfl ?_
  simp only [HH, gW, gD]
  refine call_step (n_rat_Sub (k0 := (Z1 - x0)) (m9.mono (by decide)) (h0.mono (by decide)) rfl) rfl ?_
  simp only [HH, gW, gD]
  refine call_step (n_warp_one_0 Y1) rfl ?_
  simp only [HH, gW, gD]
  refine call_step (n_rat_Sub (k0 := (Z1 - x1)) (m9.mono (by decide)) (h1.mono (by decide)) rfl) rfl ?_
  simp only [HH, gW, gD]
  exact ret_step rfl

theorem n_warp_over_1 {Z0 : Rat} (Y0 : Z0 = (0 : Rat)) {r0 r1 : RR} {x0 x1 : Rat} {k0 : Rat} (h0 : Num 9000000000 r0 x0) (h1 : Num 9000000000 r1 x1) (e0 : k0 = (x0 / x1)) (c0 : ¬x1 = Z0) : PureCalls prog F.warp_over [.agg (gW [r0]), .agg (gW [r1])] [.agg (gD [k0])] := by
  subst e0
  refine symFunc_sound hmix tree_warp_over (by kernel_rfl) rfl ?_
  unfold ir_warp_over
  simp only [HH, gW, gD]
  refine call_step (n_rat_Div_f (k0 := (x0 / x1)) Y0 (h0.mono (by decide)) (h1.mono (by decide)) rfl c0) rfl ?_
  simp only [HH, gW, gD]
  exact ret_step rfl

theorem n_warp_Line_1 {Z0 Z1 : Rat} (Y0 : Z0 = (0 : Rat)) (Y1 : Z1 = (1 : Rat)) {r0 : RR} {x0 : Rat} {k0 k1 k2 : Rat} (h0 : Num 900000000 r0 x0) (e0 : k0 = ((x0 + x0) - Z1)) (e1 : k1 = (Z1 - (-k0))) (e2 : k2 = (k0 / k1)) (c0 : Z0 < x0) (c1 : x0 < Z1) (c2 : k0 < Z0) (c3 : ¬k1 = Z0) : PureCalls prog F.warp_Line [.agg (gW [r0])] [.agg (gD [k2]), .one (.bool true)] := by
  subst e0 e1 e2
  refine symFunc_sound hmix tree_warp_Line (by kernel_rfl) rfl ?_
  unfold ir_warp_Line
  simp only [HH, gW, gD]
  refine call_step (n_rat_Sign (h0.mono (by decide))) rfl ?_
  simp only [HH, gW, gD]
  refine primS (.bool false) (cs_leq_f ((sg_gt Y0).2 c0)) ?_
  refine itF rfl ?_
  refine call_step (n_warp_one_0 Y1) rfl ?_
  simp only [HH, gW, gD]
  have m47 : Num 1 (cr Z1) Z1 := Num.c Y1 (by decide +kernel) (by decide +kernel)
  refine call_step (n_rat_Cmp (h0.mono (by decide)) (m47.mono (by decide))) rfl ?_
  simp only [HH, gW, gD]
  refine primS (.bool false) (cs_geq_f (cq_lt.2 c1)) ?_
  refine itF rfl ?_
  refine primS (rl [r0, r0]) rfl ?_
  refine call_step (n_rat_Sum_2 (k0 := (x0 + x0)) (h0.mono (by decide)) (h0.mono (by decide)) rfl) rfl ?_
  simp only [HH, gW, gD]
  refine call_step (n_warp_one_0 Y1) rfl ?_
  simp only [HH, gW, gD]
  have m49 : Num 1800000001 (cr (x0 + x0)) (x0 + x0) := Num.of (Sm.add h0.sm h0.sm)
  refine call_step (n_rat_Sub (k0 := ((x0 + x0) - Z1)) (m49.mono (by decide)) (m47.mono (by decide)) rfl) rfl ?_
  simp only [HH, gW, gD]
  refine call_step (n_warp_one_0 Y1) rfl ?_
  simp only [HH, gW, gD]
  have m50 : Num 1800000003 (cr ((x0 + x0) - Z1)) ((x0 + x0) - Z1) := Num.of (Sm.sub m49.sm m47.sm)
  refine call_step (n_rat_Abs_t (k0 := (-((x0 + x0) - Z1))) Y0 (m50.mono (by decide)) rfl c2) rfl ?_
  simp only [HH, gW, gD]
  have m51 : Num 1800000003 (cr (-((x0 + x0) - Z1))) (-((x0 + x0) - Z1)) := Num.of (Sm.neg m50.sm)
  refine call_step (n_rat_Sub (k0 := (Z1 - (-((x0 + x0) - Z1)))) (m47.mono (by decide)) (m51.mono (by decide)) rfl) rfl ?_
  simp only [HH, gW, gD]
  have m52 : Num 1800000005 (cr (Z1 - (-((x0 + x0) - Z1)))) (Z1 - (-((x0 + x0) - Z1))) := Num.of (Sm.sub m47.sm m51.sm)
  refine call_step (n_warp_over_1 (k0 := (((x0 + x0) - Z1) / (Z1 - (-((x0 + x0) - Z1))))) Y0 (m50.mono (by decide)) (m52.mono (by decide)) rfl c3) rfl ?_
  simp only [HH, gW, gD]
  exact ret_step rfl

theorem n_warp_Line_4 {Z0 Z1 : Rat} (Y0 : Z0 = (0 : Rat)) (Y1 : Z1 = (1 : Rat)) {r0 : RR} {x0 : Rat} (h0 : Num 900000000 r0 x0)  (c0 : Z0 < x0) (c1 : ¬x0 < Z1) : PureCalls prog F.warp_Line [.agg (gW [r0])] [.agg (gD [Z0]), .one (.bool false)] := by
  refine symFunc_sound hmix tree_warp_Line (by kernel_rfl) rfl ?_
  unfold ir_warp_Line
  simp only [HH, gW, gD]
  refine call_step (n_rat_Sign (h0.mono (by decide))) rfl ?_
  simp only [HH, gW, gD]
  refine primS (.bool false) (cs_leq_f ((sg_gt Y0).2 c0)) ?_
  refine itF rfl ?_
  refine call_step (n_warp_one_0 Y1) rfl ?_
  simp only [HH, gW, gD]
  have m63 : Num 1 (cr Z1) Z1 := Num.c Y1 (by decide +kernel) (by decide +kernel)
  refine call_step (n_rat_Cmp (h0.mono (by decide)) (m63.mono (by decide))) rfl ?_
  simp only [HH, gW, gD]
  refine primS (.bool true) (cs_geq_t (fun z => c1 (cq_lt.1 z))) ?_
  refine itT rfl ?_
  refine call_step (n_rat_Of (0) (1) (by decide) (by decide) (by decide) (by decide) (Y0.trans (by decide +kernel))) rfl ?_
  simp only [HH, gW, gD]
  exact ret_step rfl

theorem n_warp_Back_3 {Z0 Z1_2 Z1 : Rat} (Y0 : Z0 = (0 : Rat)) (Y1_2 : Z1_2 = (1/2 : Rat)) (Y1 : Z1 = (1 : Rat)) {r0 : RR} {x0 : Rat} {k0 k1 k2 : Rat} (h0 : Num 900000000 r0 x0) (e0 : k0 = (Z1 + x0)) (e1 : k1 = (x0 / k0)) (e2 : k2 = (Z1_2 * (Z1 + k1))) (c0 : ¬x0 < Z0) (c1 : ¬k0 = Z0) : PureCalls prog F.warp_Back [.agg (gW [r0])] [.agg (gD [k2])] := by
  subst e0 e1 e2
  refine symFunc_sound hmix tree_warp_Back (by kernel_rfl) rfl ?_
  unfold ir_warp_Back
  simp only [HH, gW, gD]
  refine call_step (n_warp_one_0 Y1) rfl ?_
  simp only [HH, gW, gD]
  refine call_step (n_rat_Abs_f Y0 (h0.mono (by decide)) c0) rfl ?_
  simp only [HH, gW, gD]
  refine primS (rl [(cr Z1), (cr x0)]) rfl ?_
  have m127 : Num 1 (cr Z1) Z1 := Num.c Y1 (by decide +kernel) (by decide +kernel)
  have m128 : Num 900000000 (cr x0) x0 := Num.of h0.sm
  refine call_step (n_rat_Sum_2 (k0 := (Z1 + x0)) (m127.mono (by decide)) (m128.mono (by decide)) rfl) rfl ?_
  simp only [HH, gW, gD]
  have m129 : Num 900000002 (cr (Z1 + x0)) (Z1 + x0) := Num.of (Sm.add m127.sm m128.sm)
  refine call_step (n_warp_over_1 (k0 := (x0 / (Z1 + x0))) Y0 (h0.mono (by decide)) (m129.mono (by decide)) rfl c1) rfl ?_
  simp only [HH, gW, gD]
  refine call_step (n_rat_Of (1) (2) (by decide) (by decide) (by decide) (by decide) (Y1_2.trans (by decide +kernel))) rfl ?_
  simp only [HH, gW, gD]
  refine call_step (n_warp_one_0 Y1) rfl ?_
  simp only [HH, gW, gD]
  refine primS (rl [(cr Z1), (cr (x0 / (Z1 + x0)))]) rfl ?_
  have m131 : Num 1800000002 (cr (x0 / (Z1 + x0))) (x0 / (Z1 + x0)) := Num.of (Sm.div h0.sm m129.sm)
  refine call_step (n_rat_Sum_2 (k0 := (Z1 + (x0 / (Z1 + x0)))) (m127.mono (by decide)) (m131.mono (by decide)) rfl) rfl ?_
  simp only [HH, gW, gD]
  refine primS (rl [(cr Z1_2), (cr (Z1 + (x0 / (Z1 + x0))))]) rfl ?_
  have m133 : Num 1 (cr Z1_2) Z1_2 := Num.c Y1_2 (by decide +kernel) (by decide +kernel)
  have m134 : Num 1800000004 (cr (Z1 + (x0 / (Z1 + x0)))) (Z1 + (x0 / (Z1 + x0))) := Num.of (Sm.add m127.sm m131.sm)
  refine call_step (n_rat_Product_2 (k0 := (Z1_2 * (Z1 + (x0 / (Z1 + x0))))) (m133.mono (by decide)) (m134.mono (by decide)) rfl) rfl ?_
  simp only [HH, gW, gD]
  exact ret_step rfl

theorem n_warp_Density_1 {Z0 Z1_2 Z1 : Rat} (Y0 : Z0 = (0 : Rat)) (Y1_2 : Z1_2 = (1/2 : Rat)) (Y1 : Z1 = (1 : Rat)) {r0 : RR} {x0 : Rat} {k0 k1 : Rat} (h0 : Num 900000000 r0 x0) (e0 : k0 = ((Z1 + (-x0)) * (Z1 + (-x0)))) (e1 : k1 = (Z1_2 / k0)) (c0 : x0 < Z0) (c1 : ¬k0 = Z0) : PureCalls prog F.warp_Density [.agg (gW [r0])] [.agg (gD [k1])] := by
  subst e0 e1
  refine symFunc_sound hmix tree_warp_Density (by kernel_rfl) rfl ?_
  unfold ir_warp_Density
  simp only [HH, gW, gD]
  refine call_step (n_warp_one_0 Y1) rfl ?_
  simp only [HH, gW, gD]
  refine call_step (n_rat_Abs_t (k0 := (-x0)) Y0 (h0.mono (by decide)) rfl c0) rfl ?_
  simp only [HH, gW, gD]
  refine primS (rl [(cr Z1), (cr (-x0))]) rfl ?_
  have m177 : Num 1 (cr Z1) Z1 := Num.c Y1 (by decide +kernel) (by decide +kernel)
  have m178 : Num 900000000 (cr (-x0)) (-x0) := Num.of (Sm.neg h0.sm)
  refine call_step (n_rat_Sum_2 (k0 := (Z1 + (-x0))) (m177.mono (by decide)) (m178.mono (by decide)) rfl) rfl ?_
  simp only [HH, gW, gD]
  refine call_step (n_rat_Of (1) (2) (by decide) (by decide) (by decide) (by decide) (Y1_2.trans (by decide +kernel))) rfl ?_
  simp only [HH, gW, gD]
  refine primS (rl [(cr (Z1 + (-x0))), (cr (Z1 + (-x0)))]) rfl ?_
  have m180 : Num 900000002 (cr (Z1 + (-x0))) (Z1 + (-x0)) := Num.of (Sm.add m177.sm m178.sm)
  refine call_step (n_rat_Product_2 (k0 := ((Z1 + (-x0)) * (Z1 + (-x0)))) (m180.mono (by decide)) (m180.mono (by decide)) rfl) rfl ?_
  simp only [HH, gW, gD]
  have m181 : Num 1 (cr Z1_2) Z1_2 := Num.c Y1_2 (by decide +kernel) (by decide +kernel)
  have m182 : Num 1800000004 (cr ((Z1 + (-x0)) * (Z1 + (-x0)))) ((Z1 + (-x0)) * (Z1 + (-x0))) := Num.of (Sm.mul m180.sm m180.sm)
  refine call_step (n_warp_over_1 (k0 := (Z1_2 / ((Z1 + (-x0)) * (Z1 + (-x0))))) Y0 (m181.mono (by decide)) (m182.mono (by decide)) rfl c1) rfl ?_
  simp only [HH, gW, gD]
  exact ret_step rfl

theorem n_warp_Pick_at0 {Z0 Z1_4 Z1 Z4 : Rat} (Y0 : Z0 = (0 : Rat)) (Y1_4 : Z1_4 = (1/4 : Rat)) (Y1 : Z1 = (1 : Rat)) (Y4 : Z4 = (4 : Rat)) : PureCalls prog F.warp_Pick [.one (.list 3 [.int .i64 (1), .int .i64 (0), .int .i64 (3)]), .agg (gD [Z1_4])] [.one (.int .i64 (2)), .one (.bool true)] := by
  refine symFunc_sound hmix tree_warp_Pick (by kernel_rfl) rfl ?_
  unfold ir_warp_Pick
  simp only [HH, gW, gD]
  refine primS (.int .i64 (3)) rfl ?_
  refine primS (.bool false) rfl ?_
  refine itF rfl ?_
  have m201 : Num 1 (cr Z1_4) Z1_4 := Num.c Y1_4 (by decide +kernel) (by decide +kernel)
  refine call_step (n_rat_Sign (m201.mono (by decide))) rfl ?_
  simp only [HH, gW, gD]
  refine primS (.bool false) (cs_lss_f (fun z => (show ¬(Z1_4 < Z0) by rw [Y1_4, Y0] <;> decide +kernel) ((sg_lt Y0).1 z))) ?_
  refine itF rfl ?_
  refine call_step (n_warp_one_0 Y1) rfl ?_
  simp only [HH, gW, gD]
  have m202 : Num 1 (cr Z1) Z1 := Num.c Y1 (by decide +kernel) (by decide +kernel)
  refine call_step (n_rat_Cmp (m201.mono (by decide)) (m202.mono (by decide))) rfl ?_
  simp only [HH, gW, gD]
  refine primS (.bool false) (cs_geq_f (cq_lt.2 (show (Z1_4 < Z1) by rw [Y1_4, Y1] <;> decide +kernel))) ?_
  refine itF rfl ?_
  refine primS (.int .i64 (3)) rfl ?_
  refine loop_step (fun ds => ds = [.list 3 [.int .i64 (1), .int .i64 (0), .int .i64 (3)], .int .i64 (0), .int .i64 (3), .int .i64 (0), .bool (decide (Z1_4.num < 0)), nn (Z1_4).num.natAbs, nn (Z1_4).den] ∨ ds = [.list 3 [.int .i64 (1), .int .i64 (0), .int .i64 (3)], .int .i64 (1), .int .i64 (3), .int .i64 (1), .bool (decide (Z1_4.num < 0)), nn (Z1_4).num.natAbs, nn (Z1_4).den] ∨ ds = [.list 3 [.int .i64 (1), .int .i64 (0), .int .i64 (3)], .int .i64 (1), .int .i64 (3), .int .i64 (2), .bool (decide (Z1_4.num < 0)), nn (Z1_4).num.natAbs, nn (Z1_4).den] ∨ ds = [.list 3 [.int .i64 (1), .int .i64 (0), .int .i64 (3)], .int .i64 (4), .int .i64 (3), .int .i64 (3), .bool (decide (Z1_4.num < 0)), nn (Z1_4).num.natAbs, nn (Z1_4).den]) (fun ds => 3 - num 3 ds) ?_ ?_ ?_
  · exact (.inl rfl)
  · rintro ds (rfl | rfl | rfl | rfl) <;> rfl
  · rintro ds (rfl | rfl | rfl | rfl)
    · skip
      refine primS (.bool true) rfl ?_
      refine itT rfl ?_
      refine primS (.bool true) rfl ?_
      refine primS (.int .i64 (1)) rfl ?_
      refine primS (.bool false) rfl ?_
      refine itF rfl ?_
      refine primS (.bool false) rfl ?_
      refine itF rfl ?_
      refine primS (.int .i64 (1)) rfl ?_
      refine primS (.int .i64 (1)) rfl ?_
      exact jump_step rfl ⟨(.inr (.inl rfl)), show (3 - 1 : Nat) < 3 - 0 from by decide⟩
    · skip
      refine primS (.bool true) rfl ?_
      refine itT rfl ?_
      refine primS (.bool true) rfl ?_
      refine primS (.int .i64 (0)) rfl ?_
      refine primS (.bool false) rfl ?_
      refine itF rfl ?_
      refine primS (.bool false) rfl ?_
      refine itF rfl ?_
      refine primS (.int .i64 (1)) rfl ?_
      refine primS (.int .i64 (2)) rfl ?_
      exact jump_step rfl ⟨(.inr (.inr (.inl rfl))), show (3 - 2 : Nat) < 3 - 1 from by decide⟩
    · skip
      refine primS (.bool true) rfl ?_
      refine itT rfl ?_
      refine primS (.bool true) rfl ?_
      refine primS (.int .i64 (3)) rfl ?_
      refine primS (.bool false) rfl ?_
      refine itF rfl ?_
      refine primS (.bool false) rfl ?_
      refine itF rfl ?_
      refine primS (.int .i64 (4)) rfl ?_
      refine primS (.int .i64 (3)) rfl ?_
      exact jump_step rfl ⟨(.inr (.inr (.inr (rfl)))), show (3 - 3 : Nat) < 3 - 2 from by decide⟩
    · skip
      refine primS (.bool false) rfl ?_
      refine itF rfl ?_
      refine call_step (n_rat_Of (4) (1) (by decide) (by decide) (by decide) (by decide) (Y4.trans (by decide +kernel))) rfl ?_
      simp only [HH, gW, gD]
      refine primS (rl [(cr Z1_4), (cr Z4)]) rfl ?_
      have m204 : Num 1 (cr Z4) Z4 := Num.c Y4 (by decide +kernel) (by decide +kernel)
      refine call_step (n_rat_Product_2 (k0 := Z1) (m201.mono (by decide)) (m204.mono (by decide)) (by rw [Y1, Y1_4, Y4] <;> decide +kernel)) rfl ?_
      simp only [HH, gW, gD]
      refine primS (.int .i64 (3)) rfl ?_
      refine loop_step (fun ds => ds = [.int .i64 (0), .list 3 [.int .i64 (1), .int .i64 (0), .int .i64 (3)], .int .i64 (3), .int .i64 (0), .bool (decide (Z1.num < 0)), nn (Z1).num.natAbs, nn (Z1).den] ∨ ds = [.int .i64 (1), .list 3 [.int .i64 (1), .int .i64 (0), .int .i64 (3)], .int .i64 (3), .int .i64 (1), .bool (decide (Z1.num < 0)), nn (Z1).num.natAbs, nn (Z1).den] ∨ ds = [.int .i64 (1), .list 3 [.int .i64 (1), .int .i64 (0), .int .i64 (3)], .int .i64 (3), .int .i64 (2), .bool (decide (Z1.num < 0)), nn (Z1).num.natAbs, nn (Z1).den]) (fun ds => 2 - num 3 ds) ?_ ?_ ?_
      · exact (.inl rfl)
      · rintro ds (rfl | rfl | rfl) <;> rfl
      · rintro ds (rfl | rfl | rfl)
        · skip
          refine primS (.bool true) rfl ?_
          refine itT rfl ?_
          refine primS (.bool true) rfl ?_
          refine primS (.int .i64 (1)) rfl ?_
          refine primS (.int .i64 (1)) rfl ?_
          refine call_step (n_rat_Of (1) (1) (by decide) (by decide) (by decide) (by decide) (Y1.trans (by decide +kernel))) rfl ?_
          simp only [HH, gW, gD]
          refine call_step (n_rat_Cmp (m202.mono (by decide)) (m202.mono (by decide))) rfl ?_
          simp only [HH, gW, gD]
          refine primS (.bool false) (cs_lss_f (fun z => (Rat.lt_irrefl) (cq_lt.1 z))) ?_
          refine itF rfl ?_
          refine primS (.int .i64 (1)) rfl ?_
          exact jump_step rfl ⟨(.inr (.inl rfl)), show (2 - 1 : Nat) < 2 - 0 from by decide⟩
        · skip
          refine primS (.bool true) rfl ?_
          refine itT rfl ?_
          refine primS (.bool true) rfl ?_
          refine primS (.int .i64 (0)) rfl ?_
          refine primS (.int .i64 (1)) rfl ?_
          refine call_step (n_rat_Of (1) (1) (by decide) (by decide) (by decide) (by decide) (Y1.trans (by decide +kernel))) rfl ?_
          simp only [HH, gW, gD]
          refine call_step (n_rat_Cmp (m202.mono (by decide)) (m202.mono (by decide))) rfl ?_
          simp only [HH, gW, gD]
          refine primS (.bool false) (cs_lss_f (fun z => (Rat.lt_irrefl) (cq_lt.1 z))) ?_
          refine itF rfl ?_
          refine primS (.int .i64 (2)) rfl ?_
          exact jump_step rfl ⟨(.inr (.inr (rfl))), show (2 - 2 : Nat) < 2 - 1 from by decide⟩
        · skip
          refine primS (.bool true) rfl ?_
          refine itT rfl ?_
          refine primS (.bool true) rfl ?_
          refine primS (.int .i64 (3)) rfl ?_
          refine primS (.int .i64 (4)) rfl ?_
          refine call_step (n_rat_Of (4) (1) (by decide) (by decide) (by decide) (by decide) (Y4.trans (by decide +kernel))) rfl ?_
          simp only [HH, gW, gD]
          refine call_step (n_rat_Cmp (m202.mono (by decide)) (m204.mono (by decide))) rfl ?_
          simp only [HH, gW, gD]
          refine primS (.bool true) (cs_lss_t (cq_lt.2 (show (Z1 < Z4) by rw [Y1, Y4] <;> decide +kernel))) ?_
          refine itT rfl ?_
          exact ret_step rfl

theorem n_warp_Pick_at1 {Z0 Z1_8 Z1_2 Z1 Z4 : Rat} (Y0 : Z0 = (0 : Rat)) (Y1_8 : Z1_8 = (1/8 : Rat)) (Y1_2 : Z1_2 = (1/2 : Rat)) (Y1 : Z1 = (1 : Rat)) (Y4 : Z4 = (4 : Rat)) : PureCalls prog F.warp_Pick [.one (.list 3 [.int .i64 (1), .int .i64 (0), .int .i64 (3)]), .agg (gD [Z1_8])] [.one (.int .i64 (0)), .one (.bool true)] := by
  refine symFunc_sound hmix tree_warp_Pick (by kernel_rfl) rfl ?_
  unfold ir_warp_Pick
  simp only [HH, gW, gD]
  refine primS (.int .i64 (3)) rfl ?_
  refine primS (.bool false) rfl ?_
  refine itF rfl ?_
  have m205 : Num 1 (cr Z1_8) Z1_8 := Num.c Y1_8 (by decide +kernel) (by decide +kernel)
  refine call_step (n_rat_Sign (m205.mono (by decide))) rfl ?_
  simp only [HH, gW, gD]
  refine primS (.bool false) (cs_lss_f (fun z => (show ¬(Z1_8 < Z0) by rw [Y1_8, Y0] <;> decide +kernel) ((sg_lt Y0).1 z))) ?_
  refine itF rfl ?_
  refine call_step (n_warp_one_0 Y1) rfl ?_
  simp only [HH, gW, gD]
  have m206 : Num 1 (cr Z1) Z1 := Num.c Y1 (by decide +kernel) (by decide +kernel)
  refine call_step (n_rat_Cmp (m205.mono (by decide)) (m206.mono (by decide))) rfl ?_
  simp only [HH, gW, gD]
  refine primS (.bool false) (cs_geq_f (cq_lt.2 (show (Z1_8 < Z1) by rw [Y1_8, Y1] <;> decide +kernel))) ?_
  refine itF rfl ?_
  refine primS (.int .i64 (3)) rfl ?_
  refine loop_step (fun ds => ds = [.list 3 [.int .i64 (1), .int .i64 (0), .int .i64 (3)], .int .i64 (0), .int .i64 (3), .int .i64 (0), .bool (decide (Z1_8.num < 0)), nn (Z1_8).num.natAbs, nn (Z1_8).den] ∨ ds = [.list 3 [.int .i64 (1), .int .i64 (0), .int .i64 (3)], .int .i64 (1), .int .i64 (3), .int .i64 (1), .bool (decide (Z1_8.num < 0)), nn (Z1_8).num.natAbs, nn (Z1_8).den] ∨ ds = [.list 3 [.int .i64 (1), .int .i64 (0), .int .i64 (3)], .int .i64 (1), .int .i64 (3), .int .i64 (2), .bool (decide (Z1_8.num < 0)), nn (Z1_8).num.natAbs, nn (Z1_8).den] ∨ ds = [.list 3 [.int .i64 (1), .int .i64 (0), .int .i64 (3)], .int .i64 (4), .int .i64 (3), .int .i64 (3), .bool (decide (Z1_8.num < 0)), nn (Z1_8).num.natAbs, nn (Z1_8).den]) (fun ds => 3 - num 3 ds) ?_ ?_ ?_
  · exact (.inl rfl)
  · rintro ds (rfl | rfl | rfl | rfl) <;> rfl
  · rintro ds (rfl | rfl | rfl | rfl)
    · skip
      refine primS (.bool true) rfl ?_
      refine itT rfl ?_
      refine primS (.bool true) rfl ?_
      refine primS (.int .i64 (1)) rfl ?_
      refine primS (.bool false) rfl ?_
      refine itF rfl ?_
      refine primS (.bool false) rfl ?_
      refine itF rfl ?_
      refine primS (.int .i64 (1)) rfl ?_
      refine primS (.int .i64 (1)) rfl ?_
      exact jump_step rfl ⟨(.inr (.inl rfl)), show (3 - 1 : Nat) < 3 - 0 from by decide⟩
    · skip
      refine primS (.bool true) rfl ?_
      refine itT rfl ?_
      refine primS (.bool true) rfl ?_
      refine primS (.int .i64 (0)) rfl ?_
      refine primS (.bool false) rfl ?_
      refine itF rfl ?_
      refine primS (.bool false) rfl ?_
      refine itF rfl ?_
      refine primS (.int .i64 (1)) rfl ?_
      refine primS (.int .i64 (2)) rfl ?_
      exact jump_step rfl ⟨(.inr (.inr (.inl rfl))), show (3 - 2 : Nat) < 3 - 1 from by decide⟩
    · skip
      refine primS (.bool true) rfl ?_
      refine itT rfl ?_
      refine primS (.bool true) rfl ?_
      refine primS (.int .i64 (3)) rfl ?_
      refine primS (.bool false) rfl ?_
      refine itF rfl ?_
      refine primS (.bool false) rfl ?_
      refine itF rfl ?_
      refine primS (.int .i64 (4)) rfl ?_
      refine primS (.int .i64 (3)) rfl ?_
      exact jump_step rfl ⟨(.inr (.inr (.inr (rfl)))), show (3 - 3 : Nat) < 3 - 2 from by decide⟩
    · skip
      refine primS (.bool false) rfl ?_
      refine itF rfl ?_
      refine call_step (n_rat_Of (4) (1) (by decide) (by decide) (by decide) (by decide) (Y4.trans (by decide +kernel))) rfl ?_
      simp only [HH, gW, gD]
      refine primS (rl [(cr Z1_8), (cr Z4)]) rfl ?_
      have m208 : Num 1 (cr Z4) Z4 := Num.c Y4 (by decide +kernel) (by decide +kernel)
      refine call_step (n_rat_Product_2 (k0 := Z1_2) (m205.mono (by decide)) (m208.mono (by decide)) (by rw [Y1_2, Y1_8, Y4] <;> decide +kernel)) rfl ?_
      simp only [HH, gW, gD]
      refine primS (.int .i64 (3)) rfl ?_
      refine loop_step (fun ds => ds = [.int .i64 (0), .list 3 [.int .i64 (1), .int .i64 (0), .int .i64 (3)], .int .i64 (3), .int .i64 (0), .bool (decide (Z1_2.num < 0)), nn (Z1_2).num.natAbs, nn (Z1_2).den]) (fun ds => 0 - num 0 ds) ?_ ?_ ?_
      · exact (rfl)
      · rintro ds (rfl) <;> rfl
      · rintro ds (rfl)
        · skip
          refine primS (.bool true) rfl ?_
          refine itT rfl ?_
          refine primS (.bool true) rfl ?_
          refine primS (.int .i64 (1)) rfl ?_
          refine primS (.int .i64 (1)) rfl ?_
          refine call_step (n_rat_Of (1) (1) (by decide) (by decide) (by decide) (by decide) (Y1.trans (by decide +kernel))) rfl ?_
          simp only [HH, gW, gD]
          have m209 : Num 1 (cr Z1_2) Z1_2 := Num.c Y1_2 (by decide +kernel) (by decide +kernel)
          refine call_step (n_rat_Cmp (m209.mono (by decide)) (m206.mono (by decide))) rfl ?_
          simp only [HH, gW, gD]
          refine primS (.bool true) (cs_lss_t (cq_lt.2 (show (Z1_2 < Z1) by rw [Y1_2, Y1] <;> decide +kernel))) ?_
          refine itT rfl ?_
          exact ret_step rfl

theorem n_penumbralaw14_fixed : PureCalls prog F.penumbralaw14_fixed [] [.one (.bool true)] := by
  obtain ⟨Zm3, Ym3⟩ := ex_eq (-3 : Rat)
  obtain ⟨Zm1, Ym1⟩ := ex_eq (-1 : Rat)
  obtain ⟨Zm3_4, Ym3_4⟩ := ex_eq (-3/4 : Rat)
  obtain ⟨Z0, Y0⟩ := ex_eq (0 : Rat)
  obtain ⟨Z1_8, Y1_8⟩ := ex_eq (1/8 : Rat)
  obtain ⟨Z1_4, Y1_4⟩ := ex_eq (1/4 : Rat)
  obtain ⟨Z1_2, Y1_2⟩ := ex_eq (1/2 : Rat)
  obtain ⟨Z3_4, Y3_4⟩ := ex_eq (3/4 : Rat)
  obtain ⟨Z1, Y1⟩ := ex_eq (1 : Rat)
  obtain ⟨Z5_4, Y5_4⟩ := ex_eq (5/4 : Rat)
  obtain ⟨Z2, Y2⟩ := ex_eq (2 : Rat)
  obtain ⟨Z4, Y4⟩ := ex_eq (4 : Rat)
  refine symFunc_sound hmix tree_penumbralaw14_fixed (by kernel_rfl) rfl ?_
  unfold ir_penumbralaw14_fixed
  simp only [HH, gW, gD]
  refine call_step (n_rat_Of (3) (4) (by decide) (by decide) (by decide) (by decide) (Y3_4.trans (by decide +kernel))) rfl ?_
  simp only [HH, gW, gD]
  refine call_step (n_rat_Of (1) (2) (by decide) (by decide) (by decide) (by decide) (Y1_2.trans (by decide +kernel))) rfl ?_
  simp only [HH, gW, gD]
  have m197 : Num 1 (cr Z3_4) Z3_4 := Num.c Y3_4 (by decide +kernel) (by decide +kernel)
  have m198 : Num 1 (cr Z1_2) Z1_2 := Num.c Y1_2 (by decide +kernel) (by decide +kernel)
  refine call_step (n_warp_Fold_0 (k0 := Z5_4) (k1 := Z1_4) (k2 := Z1_2) Y1 (m197.mono (by decide)) (m198.mono (by decide)) (by rw [Y5_4, Y3_4, Y1_2] <;> decide +kernel) (by rw [Y1_4, Y1, Y3_4] <;> decide +kernel) (by rw [Y1_2, Y1] <;> decide +kernel) (show (Z1 < Z5_4) by rw [Y1, Y5_4] <;> decide +kernel)) rfl ?_
  simp only [HH, gW, gD]
  refine call_step (n_rat_Of (1) (8) (by decide) (by decide) (by decide) (by decide) (Y1_8.trans (by decide +kernel))) rfl ?_
  simp only [HH, gW, gD]
  have m199 : Num 1 (cr Z1_8) Z1_8 := Num.c Y1_8 (by decide +kernel) (by decide +kernel)
  refine call_step (n_warp_Line_1 (k0 := Zm3_4) (k1 := Z1_4) (k2 := Zm3) Y0 Y1 (m199.mono (by decide)) (by rw [Ym3_4, Y1_8, Y1] <;> decide +kernel) (by rw [Y1_4, Y1, Ym3_4] <;> decide +kernel) (by rw [Ym3, Ym3_4, Y1_4] <;> decide +kernel) (show (Z0 < Z1_8) by rw [Y0, Y1_8] <;> decide +kernel) (show (Z1_8 < Z1) by rw [Y1_8, Y1] <;> decide +kernel) (show (Zm3_4 < Z0) by rw [Ym3_4, Y0] <;> decide +kernel) (show ¬(Z1_4 = Z0) by rw [Y1_4, Y0] <;> decide +kernel)) rfl ?_
  simp only [HH, gW, gD]
  refine call_step (n_rat_Of (1) (1) (by decide) (by decide) (by decide) (by decide) (Y1.trans (by decide +kernel))) rfl ?_
  simp only [HH, gW, gD]
  have m200 : Num 1 (cr Z1) Z1 := Num.c Y1 (by decide +kernel) (by decide +kernel)
  refine call_step (n_warp_Line_4 Y0 Y1 (m200.mono (by decide)) (show (Z0 < Z1) by rw [Y0, Y1] <;> decide +kernel) (Rat.lt_irrefl)) rfl ?_
  simp only [HH, gW, gD]
  refine primS (.list 3 [.int .i64 (1), .int .i64 (0), .int .i64 (3)]) rfl ?_
  refine call_step (n_rat_Of (1) (4) (by decide) (by decide) (by decide) (by decide) (Y1_4.trans (by decide +kernel))) rfl ?_
  simp only [HH, gW, gD]
  refine call_step (n_warp_Pick_at0 Y0 Y1_4 Y1 Y4) rfl ?_
  simp only [HH, gW, gD]
  refine primS (.list 3 [.int .i64 (1), .int .i64 (0), .int .i64 (3)]) rfl ?_
  refine call_step (n_rat_Of (1) (8) (by decide) (by decide) (by decide) (by decide) (Y1_8.trans (by decide +kernel))) rfl ?_
  simp only [HH, gW, gD]
  refine call_step (n_warp_Pick_at1 Y0 Y1_8 Y1_2 Y1 Y4) rfl ?_
  simp only [HH, gW, gD]
  refine call_step (n_penumbraref03_Of (1) (4) (by decide) (by decide) (by decide) (by decide) (Y1_4.trans (by decide +kernel))) rfl ?_
  simp only [HH, gW, gD]
  have m210 : Num 1 (cr Z1_4) Z1_4 := Num.c Y1_4 (by decide +kernel) (by decide +kernel)
  refine call_step (n_penumbraref03_Is_t (m210.mono (by decide)) (m210.mono (by decide)) rfl) rfl ?_
  simp only [HH, gW, gD]
  refine itT rfl ?_
  refine call_step (n_penumbraref03_Of (1) (2) (by decide) (by decide) (by decide) (by decide) (Y1_2.trans (by decide +kernel))) rfl ?_
  simp only [HH, gW, gD]
  refine call_step (n_penumbraref03_Is_t (m198.mono (by decide)) (m198.mono (by decide)) rfl) rfl ?_
  simp only [HH, gW, gD]
  refine itT rfl ?_
  refine call_step (n_penumbraref03_Of (-3) (1) (by decide) (by decide) (by decide) (by decide) (Ym3.trans (by decide +kernel))) rfl ?_
  simp only [HH, gW, gD]
  have m211 : Num 1 (cr Zm3) Zm3 := Num.c Ym3 (by decide +kernel) (by decide +kernel)
  refine call_step (n_penumbraref03_Is_t (m211.mono (by decide)) (m211.mono (by decide)) rfl) rfl ?_
  simp only [HH, gW, gD]
  refine itT rfl ?_
  refine itT rfl ?_
  refine primS (.bool true) rfl ?_
  refine itT rfl ?_
  refine primS (.bool true) rfl ?_
  refine itT rfl ?_
  refine itT rfl ?_
  refine primS (.bool true) rfl ?_
  refine itT rfl ?_
  refine itT rfl ?_
  refine call_step (n_rat_Of (1) (1) (by decide) (by decide) (by decide) (by decide) (Y1.trans (by decide +kernel))) rfl ?_
  simp only [HH, gW, gD]
  refine call_step (n_warp_Back_3 (k0 := Z2) (k1 := Z1_2) (k2 := Z3_4) Y0 Y1_2 Y1 (m200.mono (by decide)) (by rw [Y2, Y1] <;> decide +kernel) (by rw [Y1_2, Y1, Y2] <;> decide +kernel) (by rw [Y3_4, Y1_2, Y1] <;> decide +kernel) (show ¬(Z1 < Z0) by rw [Y1, Y0] <;> decide +kernel) (show ¬(Z2 = Z0) by rw [Y2, Y0] <;> decide +kernel)) rfl ?_
  simp only [HH, gW, gD]
  refine call_step (n_penumbraref03_Of (3) (4) (by decide) (by decide) (by decide) (by decide) (Y3_4.trans (by decide +kernel))) rfl ?_
  simp only [HH, gW, gD]
  refine call_step (n_penumbraref03_Is_t (m197.mono (by decide)) (m197.mono (by decide)) rfl) rfl ?_
  simp only [HH, gW, gD]
  refine itT rfl ?_
  refine call_step (n_rat_Of (-1) (1) (by decide) (by decide) (by decide) (by decide) (Ym1.trans (by decide +kernel))) rfl ?_
  simp only [HH, gW, gD]
  have m212 : Num 1 (cr Zm1) Zm1 := Num.c Ym1 (by decide +kernel) (by decide +kernel)
  refine call_step (n_warp_Density_1 (k0 := Z4) (k1 := Z1_8) Y0 Y1_2 Y1 (m212.mono (by decide)) (by rw [Y4, Y1, Ym1] <;> decide +kernel) (by rw [Y1_8, Y1_2, Y4] <;> decide +kernel) (show (Zm1 < Z0) by rw [Ym1, Y0] <;> decide +kernel) (show ¬(Z4 = Z0) by rw [Y4, Y0] <;> decide +kernel)) rfl ?_
  simp only [HH, gW, gD]
  refine call_step (n_penumbraref03_Of (1) (8) (by decide) (by decide) (by decide) (by decide) (Y1_8.trans (by decide +kernel))) rfl ?_
  simp only [HH, gW, gD]
  refine call_step (n_penumbraref03_Is_t (m199.mono (by decide)) (m199.mono (by decide)) rfl) rfl ?_
  simp only [HH, gW, gD]
  exact ret_step rfl

end Go.Px.Na

/- Trees of functions, as a tool of mine printed them: what the symbolic compiler makes of the functions. -/
import Derived.Test.YtiachglkkfiidaaPx24
import Derived.Test.YtiachglkkfiidaaIr
import Derived.Test.YtiachglkkfiidaaProg
import Derived.Tactics
set_option maxRecDepth 20000
set_option maxHeartbeats 4000000
set_option linter.unusedVariables false
namespace Go.Px
open Go.RowKit
def ir_penumbralaw03_fixed : IR :=
 .call F.rat_Of [.one (.int .i64 (6)), .one (.int .i64 (-4))] [.agg 3] <|
 .call F.rat_Of [.one (.int .i64 (1)), .one (.int .i64 (2))] [.agg 3] <|
 .call F.rat_Of [.one (.int .i64 (0)), .one (.int .i64 (5))] [.agg 3] <|
 .call F.rat_Div [.agg [.var 3, .var 4, .var 5], .agg [.var 6, .var 7, .var 8]] [.agg 3, .one] <|
 .call F.rat_Of [.one (.int .i64 (4)), .one (.int .i64 (9))] [.agg 3] <|
 .call F.rat_Sqrt [.agg [.var 13, .var 14, .var 15]] [.agg 3, .one] <|
 .call F.rat_Of [.one (.int .i64 (2)), .one (.int .i64 (1))] [.agg 3] <|
 .call F.rat_Sqrt [.agg [.var 20, .var 21, .var 22]] [.agg 3, .one] <|
 .ite (.var 0) (
  .prim (.mk 1) [.int .u32 (3)] <|
  .call F.penumbraref01_Same [.one (.var 1), .one (.var 27)] [.one] <|
  .ite (.var 28) (
   .prim (.mk 1) [.int .u32 (2)] <|
   .call F.penumbraref01_Same [.one (.var 2), .one (.var 29)] [.one] <|
   .ite (.var 30) (
    .call F.rat_Of [.one (.int .i64 (1)), .one (.int .i64 (2))] [.agg 3] <|
    .call F.rat_Of [.one (.int .i64 (1)), .one (.int .i64 (3))] [.agg 3] <|
    .prim (.mk 2) [.var 31, .var 32, .var 33, .var 34, .var 35, .var 36] <|
    .call F.rat_Sum [.one (.var 37)] [.agg 3] <|
    .call F.penumbraref03_Of [.one (.int .i64 (5)), .one (.int .i64 (6))] [.agg 3] <|
    .call F.penumbraref03_Is [.agg [.var 38, .var 39, .var 40], .agg [.var 41, .var 42, .var 43]] [.one] <|
    .ite (.var 44) (
     .call F.rat_Product [.one (.nil)] [.agg 3] <|
     .call F.penumbraref03_One [] [.agg 3] <|
     .call F.penumbraref03_Is [.agg [.var 45, .var 46, .var 47], .agg [.var 48, .var 49, .var 50]] [.one] <|
     .ite (.var 51) (
      .prim .not [.var 12] <|
      .ite (.var 52) (
       .call F.penumbraref03_Of [.one (.int .i64 (2)), .one (.int .i64 (3))] [.agg 3] <|
       .call F.penumbraref03_Is [.agg [.var 16, .var 17, .var 18], .agg [.var 53, .var 54, .var 55]] [.one] <|
       .ite (.var 56) (
        .ite (.var 19) (
         .prim .not [.var 26] <|
         .ite (.var 57) (
          .call F.rat_Of [.one (.int .i64 (-1)), .one (.int .i64 (2))] [.agg 3] <|
          .call F.rat_Floor [.agg [.var 58, .var 59, .var 60]] [.agg 3] <|
          .call F.penumbraref03_Of [.one (.int .i64 (-1)), .one (.int .i64 (1))] [.agg 3] <|
          .call F.penumbraref03_Is [.agg [.var 61, .var 62, .var 63], .agg [.var 64, .var 65, .var 66]] [.one] <|
          .ret [.one (.var 67)]) (
          .ret [.one (.bol false)])) (
         .ret [.one (.bol false)])) (
        .ret [.one (.bol false)])) (
       .ret [.one (.bol false)])) (
      .ret [.one (.bol false)])) (
     .ret [.one (.bol false)])) (
    .ret [.one (.bol false)])) (
   .ret [.one (.bol false)])) (
  .ret [.one (.bol false)])

def ir_penumbralaw03_RatCanon : IR :=
 .prim (.mk 0) [] <|
 .prim (.app 1 4) [.var 6, .var 1] <|
 .prim (.mk 0) [] <|
 .prim (.app 1 4) [.var 8, .var 2] <|
 .fcall F.rat_Div [.agg [.var 0, .var 7, .var 9], .agg [.var 3, .var 4, .var 5]] [.agg 3, .one] [] <|
 .fcall F.rat_Read [.agg [.var 0, .var 7, .var 9]] [.agg 3] [] <|
 .prim (.mk 1) [.var 0, .var 7, .var 9] <|
 .fcall F.rat_Sum [.one (.var 17)] [.agg 3] [] <|
 .prim (.mk 2) [.var 0, .var 7, .var 9, .var 3, .var 4, .var 5] <|
 .fcall F.rat_Sum [.one (.var 21)] [.agg 3] [] <|
 .prim (.mk 1) [.var 0, .var 7, .var 9] <|
 .fcall F.rat_Product [.one (.var 25)] [.agg 3] [] <|
 .prim (.mk 2) [.var 0, .var 7, .var 9, .var 3, .var 4, .var 5] <|
 .fcall F.rat_Product [.one (.var 29)] [.agg 3] [] <|
 .fcall F.rat_Sub [.agg [.var 0, .var 7, .var 9], .agg [.var 3, .var 4, .var 5]] [.agg 3] [] <|
 .fcall F.rat_Neg [.agg [.var 0, .var 7, .var 9]] [.agg 3] [] <|
 .fcall F.rat_Abs [.agg [.var 0, .var 7, .var 9]] [.agg 3] [] <|
 .fcall F.rat_Floor [.agg [.var 0, .var 7, .var 9]] [.agg 3] [] <|
 .prim (.mk 10) [.var 14, .var 15, .var 16, .var 18, .var 19, .var 20, .var 22, .var 23, .var 24, .var 26, .var 27, .var 28, .var 30, .var 31, .var 32, .var 33, .var 34, .var 35, .var 36, .var 37, .var 38, .var 39, .var 40, .var 41, .var 42, .var 43, .var 44, .var 10, .var 11, .var 12] <|
 .prim (.mk 0) [] <|
 .loop [.int .i64 (0), .var 0, .var 45, .var 46, .var 7, .var 9] (
  .prim .len [.var 2] <|
  .prim (.bin .lss) [.var 0, .var 6] <|
  .ite (.var 7) (
   .prim (.inb 3) [.var 2, .var 0] <|
   .prim (.get 3 0) [.var 2, .var 0] <|
   .prim (.mk 0) [] <|
   .prim (.inb 3) [.var 2, .var 0] <|
   .prim (.get 3 1) [.var 2, .var 0] <|
   .prim (.app 1 4) [.var 10, .var 12] <|
   .prim (.mk 0) [] <|
   .prim (.inb 3) [.var 2, .var 0] <|
   .prim (.get 3 2) [.var 2, .var 0] <|
   .prim (.app 1 4) [.var 14, .var 16] <|
   .prim (.mk 1) [.var 9, .var 13, .var 17] <|
   .prim (.app 3 56) [.var 3, .var 18] <|
   .prim (.bin .add) [.var 0, .int .i64 (1)] <|
   .jump 0 [.var 20, .var 1, .var 2, .var 19, .var 4, .var 5]) (
   .loop [.int .i64 (0), .var 1, .var 2, .var 3, .var 4, .var 5] (
    .prim .len [.var 4] <|
    .prim (.bin .lss) [.var 0, .var 6] <|
    .ite (.var 7) (
     .prim (.inb 1) [.var 4, .var 0] <|
     .prim (.setl 1 0) [.var 4, .var 0, .int .u32 (77)] <|
     .prim (.bin .add) [.var 0, .int .i64 (1)] <|
     .jump 1 [.var 10, .var 1, .var 2, .var 3, .var 9, .var 5]) (
     .loop [.int .i64 (0), .var 1, .var 2, .var 3, .var 4, .var 5] (
      .prim .len [.var 5] <|
      .prim (.bin .lss) [.var 0, .var 6] <|
      .ite (.var 7) (
       .prim (.inb 1) [.var 5, .var 0] <|
       .prim (.setl 1 0) [.var 5, .var 0, .int .u32 (78)] <|
       .prim (.bin .add) [.var 0, .int .i64 (1)] <|
       .jump 2 [.var 10, .var 1, .var 2, .var 3, .var 4, .var 9]) (
       .loop [.int .i64 (0), .var 2, .var 3] (
        .prim .len [.var 1] <|
        .prim (.bin .lss) [.var 0, .var 3] <|
        .ite (.var 4) (
         .prim (.inb 3) [.var 1, .var 0] <|
         .prim (.get 3 0) [.var 1, .var 0] <|
         .prim (.get 3 1) [.var 1, .var 0] <|
         .prim (.get 3 2) [.var 1, .var 0] <|
         .prim (.inb 3) [.var 2, .var 0] <|
         .prim (.get 3 0) [.var 2, .var 0] <|
         .prim (.get 3 1) [.var 2, .var 0] <|
         .prim (.get 3 2) [.var 2, .var 0] <|
         .call F.penumbraref03_Is [.agg [.var 6, .var 7, .var 8], .agg [.var 10, .var 11, .var 12]] [.one] <|
         .prim .not [.var 13] <|
         .ite (.var 14) (
          .ret [.one (.bol false)]) (
          .prim (.inb 3) [.var 1, .var 0] <|
          .prim (.get 3 0) [.var 1, .var 0] <|
          .prim (.get 3 1) [.var 1, .var 0] <|
          .prim (.get 3 2) [.var 1, .var 0] <|
          .call F.rat_Check [.agg [.var 16, .var 17, .var 18]] [.one] <|
          .prim .not [.var 19] <|
          .ite (.var 20) (
           .ret [.one (.bol false)]) (
           .prim (.bin .add) [.var 0, .int .i64 (1)] <|
           .jump 3 [.var 21, .var 1, .var 2]))) (
         .call F.penumbralaw03_fixed [] [.one] <|
         .ret [.one (.var 5)]))))))))

theorem tree_penumbralaw03_fixed : symFunc Go.Proofs.Try.prog H0 400 F.penumbralaw03_fixed [] = some ir_penumbralaw03_fixed := by kernel_rfl
theorem tree_penumbralaw03_RatCanon : symFunc Go.Proofs.Try.prog ⟨fun f => [].contains f, fun f i => if f = 3 ∧ i = 6 then [⟨[(5, .s (.one (.lp 0 0))), (8, .s (.one (.own 1))), (9, .s (.one (.own 2))), (10, .s (.one (.at (.var 0))))], [], [(0, .box [.at (.var 1), .own 3, .own 4] 24 false), (1, .own (.var 2) 3 24), (2, .own (.var 3) 3 24), (3, .own (.var 4) 1 31), (4, .own (.var 5) 1 31)], 5, 6⟩] else if f = 3 ∧ i = 10 then [⟨[(5, .s (.one (.lp 0 0))), (8, .s (.one (.own 1))), (9, .s (.one (.own 2))), (11, .s (.one (.at (.var 0))))], [], [(0, .box [.at (.var 1), .own 3, .own 4] 24 false), (1, .own (.var 2) 3 24), (2, .own (.var 3) 3 24), (3, .own (.var 4) 1 31), (4, .own (.var 5) 1 31)], 5, 6⟩] else if f = 3 ∧ i = 14 then [⟨[(5, .s (.one (.lp 0 0))), (8, .s (.one (.own 1))), (9, .s (.one (.own 2))), (12, .s (.one (.at (.var 0))))], [], [(0, .box [.at (.var 1), .own 3, .own 4] 24 false), (1, .own (.var 2) 3 24), (2, .own (.var 3) 3 24), (3, .own (.var 4) 1 31), (4, .own (.var 5) 1 31)], 5, 6⟩] else if f = 3 ∧ i = 18 then [⟨[(8, .s (.one (.own 0))), (9, .s (.one (.own 1))), (13, .s (.one (.at (.var 0))))], [], [(0, .own (.var 1) 3 24), (1, .own (.var 2) 3 24)], 2, 3⟩] else [], fun f i => [], fun f => [].contains f, fun f => none, fun f => [4, 5, 6, 7, 8, 9, 10, 11].contains f, fun f => none, fun f => [].contains f⟩ 400 F.penumbralaw03_RatCanon [.agg 3, .agg 3] = some ir_penumbralaw03_RatCanon := by kernel_rfl
end Go.Px

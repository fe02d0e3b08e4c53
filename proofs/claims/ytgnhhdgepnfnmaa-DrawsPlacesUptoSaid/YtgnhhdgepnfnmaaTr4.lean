/- Trees of functions, as a tool of mine printed them: what the symbolic compiler makes of the functions. -/
import Derived.Test.YtgnhhdgepnfnmaaPx24
import Derived.Test.YtgnhhdgepnfnmaaIr
import Derived.Test.YtgnhhdgepnfnmaaProg
import Derived.Tactics
set_option maxRecDepth 20000
set_option maxHeartbeats 4000000
set_option linter.unusedVariables false
namespace Go.Px
open Go.RowKit
def ir_penumbralaw13_DrawsPlaces : IR :=
 .call F.draws_Index [.agg [.var 0, .var 1, .var 2, .var 3, .var 4, .var 5, .var 6, .var 7, .var 8, .var 9, .var 10, .var 11], .one (.var 12), .one (.var 13), .agg [.var 14, .var 15, .var 16, .var 17]] [.one, .one] <|
 .call F.penumbraref13_Index [.agg [.var 0, .var 1, .var 2, .var 3, .var 4, .var 5, .var 6, .var 7, .var 8, .var 9, .var 10, .var 11], .one (.var 12), .one (.var 13), .agg [.var 14, .var 15, .var 16, .var 17]] [.one, .one] <|
 .call F.draws_Where [.agg [.var 0, .var 1, .var 2, .var 3, .var 4, .var 5, .var 6, .var 7, .var 8, .var 9, .var 10, .var 11], .one (.var 12), .one (.var 13), .one (.var 18)] [.agg 4, .one] <|
 .call F.penumbraref13_Where [.agg [.var 0, .var 1, .var 2, .var 3, .var 4, .var 5, .var 6, .var 7, .var 8, .var 9, .var 10, .var 11], .one (.var 12), .one (.var 13), .one (.var 18)] [.agg 4, .one] <|
 .call F.penumbralaw13_fixed [] [.one] <|
 .ite (.var 33) (
  .prim (.bin .eql) [.var 19, .var 21] <|
  .ite (.var 34) (
   .prim (.beq false) [.var 20, .var 22] <|
   .ite (.var 35) (
    .prim (.eqs [true, false, false, false]) [.var 23, .var 24, .var 25, .var 26, .var 28, .var 29, .var 30, .var 31] <|
    .ite (.var 36) (
     .prim (.beq false) [.var 27, .var 32] <|
     .ret [.one (.var 37)]) (
     .ret [.one (.bol false)])) (
    .ret [.one (.bol false)])) (
   .ret [.one (.bol false)])) (
  .ret [.one (.bol false)])

def ir_penumbraref13_Index : IR :=
 .call F.penumbraref13_Need [.agg [.var 0, .var 1, .var 2, .var 3, .var 4, .var 5, .var 6, .var 7, .var 8, .var 9, .var 10, .var 11], .one (.var 12), .one (.var 13)] [.one, .one] <|
 .prim .not [.var 19] <|
 .ite (.var 20) (
  .ret [.one (.int .i64 (0)), .one (.bol false)]) (
  .call F.penumbraref13_Slots [.agg [.var 0, .var 1, .var 2, .var 3, .var 4, .var 5, .var 6, .var 7, .var 8, .var 9, .var 10, .var 11], .one (.var 12), .one (.var 13)] [.one] <|
  .loop [.var 21, .int .i64 (0), .var 14, .var 15, .var 16, .var 17] (
   .prim .len [.var 0] <|
   .prim (.bin .lss) [.var 1, .var 6] <|
   .ite (.var 7) (
    .prim (.inb 4) [.var 0, .var 1] <|
    .prim (.get 4 0) [.var 0, .var 1] <|
    .prim (.get 4 1) [.var 0, .var 1] <|
    .prim (.get 4 2) [.var 0, .var 1] <|
    .prim (.get 4 3) [.var 0, .var 1] <|
    .prim (.eqs [true, false, false, false]) [.var 9, .var 10, .var 11, .var 12, .var 2, .var 3, .var 4, .var 5] <|
    .ite (.var 13) (
     .ret [.one (.var 1), .one (.bol true)]) (
     .prim (.bin .add) [.var 1, .int .i64 (1)] <|
     .jump 0 [.var 0, .var 14, .var 2, .var 3, .var 4, .var 5])) (
    .ret [.one (.int .i64 (0)), .one (.bol false)])))

def ir_penumbraref13_Where : IR :=
 .call F.penumbraref13_Need [.agg [.var 0, .var 1, .var 2, .var 3, .var 4, .var 5, .var 6, .var 7, .var 8, .var 9, .var 10, .var 11], .one (.var 12), .one (.var 13)] [.one, .one] <|
 .prim .not [.var 16] <|
 .ite (.var 17) (
  .ret [.agg [.bol false, .int .i64 (0), .int .i64 (0), .int .i64 (0)], .one (.bol false)]) (
  .prim (.bin .lss) [.var 14, .int .i64 (0)] <|
  .ite (.var 18) (
   .ret [.agg [.bol false, .int .i64 (0), .int .i64 (0), .int .i64 (0)], .one (.bol false)]) (
   .prim (.bin .geq) [.var 14, .var 15] <|
   .ite (.var 19) (
    .ret [.agg [.bol false, .int .i64 (0), .int .i64 (0), .int .i64 (0)], .one (.bol false)]) (
    .call F.penumbraref13_Slots [.agg [.var 0, .var 1, .var 2, .var 3, .var 4, .var 5, .var 6, .var 7, .var 8, .var 9, .var 10, .var 11], .one (.var 12), .one (.var 13)] [.one] <|
    .prim (.inb 4) [.var 20, .var 14] <|
    .prim (.get 4 0) [.var 20, .var 14] <|
    .prim (.get 4 1) [.var 20, .var 14] <|
    .prim (.get 4 2) [.var 20, .var 14] <|
    .prim (.get 4 3) [.var 20, .var 14] <|
    .ret [.agg [.var 22, .var 23, .var 24, .var 25], .one (.bol true)])))

def ir_penumbraref13_Slots : IR :=
 .prim (.mk 0) [] <|
 .loop [.var 12, .var 13, .int .i64 (0), .var 0, .var 1, .var 2, .var 3, .var 4, .var 5, .var 6, .var 7, .var 8, .var 9, .var 10, .var 11, .var 14] (
  .prim (.bin .lss) [.var 2, .var 4] <|
  .ite (.var 16) (
   .loop [.var 0, .var 1, .var 2, .int .i64 (0), .var 3, .var 4, .var 5, .var 6, .var 7, .var 8, .var 9, .var 10, .var 11, .var 12, .var 13, .var 14, .var 15] (
    .prim (.bin .mul) [.var 0, .var 1] <|
    .prim (.bin .lss) [.var 3, .var 17] <|
    .ite (.var 18) (
     .loop [.var 0, .var 1, .var 2, .var 3, .int .i64 (0), .var 4, .var 5, .var 6, .var 7, .var 8, .var 9, .var 10, .var 11, .var 12, .var 13, .var 14, .var 15, .var 16] (
      .prim (.bin .mul) [.int .i64 (4), .var 8] <|
      .prim (.bin .add) [.var 18, .int .i64 (1)] <|
      .prim (.bin .lss) [.var 4, .var 19] <|
      .ite (.var 20) (
       .prim (.mk 1) [.bol false, .var 2, .var 3, .var 4] <|
       .prim (.app 4 32) [.var 17, .var 21] <|
       .prim (.bin .add) [.var 4, .int .i64 (1)] <|
       .jump 2 [.var 0, .var 1, .var 2, .var 3, .var 23, .var 5, .var 6, .var 7, .var 8, .var 9, .var 10, .var 11, .var 12, .var 13, .var 14, .var 15, .var 16, .var 22]) (
       .prim (.bin .add) [.var 3, .int .i64 (1)] <|
       .jump 1 [.var 0, .var 1, .var 2, .var 21, .var 5, .var 6, .var 7, .var 8, .var 9, .var 10, .var 11, .var 12, .var 13, .var 14, .var 15, .var 16, .var 17]))) (
     .loop [.var 0, .var 1, .var 2, .int .i64 (0), .var 4, .var 5, .var 6, .var 7, .var 8, .var 9, .var 10, .var 11, .var 12, .var 13, .var 14, .var 15, .var 16] (
      .prim (.bin .lss) [.var 3, .var 6] <|
      .ite (.var 17) (
       .loop [.var 0, .var 1, .var 2, .var 3, .int .i64 (0), .var 4, .var 5, .var 6, .var 7, .var 8, .var 9, .var 10, .var 11, .var 12, .var 13, .var 14, .var 15, .var 16] (
        .prim (.bin .mul) [.int .i64 (2), .var 8] <|
        .prim (.bin .add) [.var 18, .int .i64 (1)] <|
        .prim (.bin .lss) [.var 4, .var 19] <|
        .ite (.var 20) (
         .prim (.mk 1) [.bol true, .var 2, .var 3, .var 4] <|
         .prim (.app 4 32) [.var 17, .var 21] <|
         .prim (.bin .add) [.var 4, .int .i64 (1)] <|
         .jump 3 [.var 0, .var 1, .var 2, .var 3, .var 23, .var 5, .var 6, .var 7, .var 8, .var 9, .var 10, .var 11, .var 12, .var 13, .var 14, .var 15, .var 16, .var 22]) (
         .prim (.bin .add) [.var 3, .int .i64 (1)] <|
         .jump 2 [.var 0, .var 1, .var 2, .var 21, .var 5, .var 6, .var 7, .var 8, .var 9, .var 10, .var 11, .var 12, .var 13, .var 14, .var 15, .var 16, .var 17]))) (
       .prim (.bin .add) [.var 2, .int .i64 (1)] <|
       .jump 0 [.var 0, .var 1, .var 18, .var 4, .var 5, .var 6, .var 7, .var 8, .var 9, .var 10, .var 11, .var 12, .var 13, .var 14, .var 15, .var 16]))))) (
   .ret [.one (.var 15)]))

theorem tree_penumbralaw13_DrawsPlaces : symFunc Go.Proofs.Try.prog H0 400 F.penumbralaw13_DrawsPlaces [.agg 19] = some ir_penumbralaw13_DrawsPlaces := by kernel_rfl
theorem tree_penumbraref13_Index : symFunc Go.Proofs.Try.prog ⟨fun f => [].contains f, fun f i => if f = 27 ∧ i = 6 then [⟨[(7, .s (.one (.lp 0 0))), (12, .s (.one (.at (.var 0)))), (13, .s (.one (.at (.var 1))))], [], [(0, .box [.at (.var 2), .at (.var 3), .at (.var 4), .at (.var 5)] 40 false)], 1, 6⟩] else [], fun f i => [], fun f => [].contains f⟩ 400 F.penumbraref13_Index [.agg 12, .one, .one, .agg 4] = some ir_penumbraref13_Index := by kernel_rfl
theorem tree_penumbraref13_Where : symFunc Go.Proofs.Try.prog H0 400 F.penumbraref13_Where [.agg 12, .one, .one, .one] = some ir_penumbraref13_Where := by kernel_rfl
theorem tree_penumbraref13_Slots : symFunc Go.Proofs.Try.prog ⟨fun f => [].contains f, fun f i => if f = 78 ∧ i = 3 then [⟨[(1, .s (.one (.at (.var 0)))), (2, .s (.one (.at (.var 1)))), (3, .s (.one (.lp 0 0))), (7, .s (.one (.own 1))), (8, .s (.one (.at (.var 2))))], [], [(0, .box [.at (.var 3), .at (.var 4), .at (.var 5), .at (.var 6), .at (.var 7), .at (.var 8), .at (.var 9), .at (.var 10), .at (.var 11), .at (.var 12), .at (.var 13), .at (.var 14)] 38 false), (1, .own (.var 15) 4 40)], 2, 16⟩] else if f = 78 ∧ i = 6 then [⟨[(1, .s (.one (.at (.var 0)))), (2, .s (.one (.at (.var 1)))), (3, .s (.one (.lp 0 0))), (7, .s (.one (.own 1))), (8, .s (.one (.at (.var 2)))), (9, .s (.one (.at (.var 3))))], [], [(0, .box [.at (.var 4), .at (.var 5), .at (.var 6), .at (.var 7), .at (.var 8), .at (.var 9), .at (.var 10), .at (.var 11), .at (.var 12), .at (.var 13), .at (.var 14), .at (.var 15)] 38 false), (1, .own (.var 16) 4 40)], 2, 17⟩] else if f = 78 ∧ i = 9 then [⟨[(1, .s (.one (.at (.var 0)))), (2, .s (.one (.at (.var 1)))), (3, .s (.one (.lp 0 0))), (7, .s (.one (.own 1))), (8, .s (.one (.at (.var 2)))), (9, .s (.one (.at (.var 3)))), (10, .s (.one (.at (.var 4))))], [], [(0, .box [.at (.var 5), .at (.var 6), .at (.var 7), .at (.var 8), .at (.var 9), .at (.var 10), .at (.var 11), .at (.var 12), .at (.var 13), .at (.var 14), .at (.var 15), .at (.var 16)] 38 false), (1, .own (.var 17) 4 40)], 2, 18⟩] else if f = 78 ∧ i = 13 then [⟨[(1, .s (.one (.at (.var 0)))), (2, .s (.one (.at (.var 1)))), (3, .s (.one (.lp 0 0))), (7, .s (.one (.own 1))), (8, .s (.one (.at (.var 2)))), (11, .s (.one (.at (.var 3))))], [], [(0, .box [.at (.var 4), .at (.var 5), .at (.var 6), .at (.var 7), .at (.var 8), .at (.var 9), .at (.var 10), .at (.var 11), .at (.var 12), .at (.var 13), .at (.var 14), .at (.var 15)] 38 false), (1, .own (.var 16) 4 40)], 2, 17⟩] else if f = 78 ∧ i = 16 then [⟨[(1, .s (.one (.at (.var 0)))), (2, .s (.one (.at (.var 1)))), (3, .s (.one (.lp 0 0))), (7, .s (.one (.own 1))), (8, .s (.one (.at (.var 2)))), (11, .s (.one (.at (.var 3)))), (12, .s (.one (.at (.var 4))))], [], [(0, .box [.at (.var 5), .at (.var 6), .at (.var 7), .at (.var 8), .at (.var 9), .at (.var 10), .at (.var 11), .at (.var 12), .at (.var 13), .at (.var 14), .at (.var 15), .at (.var 16)] 38 false), (1, .own (.var 17) 4 40)], 2, 18⟩] else [], fun f i => [], fun f => [].contains f⟩ 400 F.penumbraref13_Slots [.agg 12, .one, .one] = some ir_penumbraref13_Slots := by kernel_rfl
end Go.Px

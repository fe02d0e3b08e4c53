/- Kr: the document's nearest points, and its tree. -/
import Derived.Test.YtejnnginkadecaaGreatKt
import Derived.Test.YtejnnginkadecaaGreatKq
set_option maxRecDepth 40000
set_option maxHeartbeats 40000000
set_option linter.unusedVariables false
set_option linter.unusedSimpArgs false
namespace Go.Px
open Go.RowKit
def ir_penumbraref05_Sub : IR :=
 .call F.penumbraref03_Sub [.agg [.var 0, .var 1, .var 2], .agg [.var 9, .var 10, .var 11]] [.agg 3] <|
 .call F.penumbraref03_Sub [.agg [.var 3, .var 4, .var 5], .agg [.var 12, .var 13, .var 14]] [.agg 3] <|
 .call F.penumbraref03_Sub [.agg [.var 6, .var 7, .var 8], .agg [.var 15, .var 16, .var 17]] [.agg 3] <|
 .ret [.agg [.var 18, .var 19, .var 20, .var 21, .var 22, .var 23, .var 24, .var 25, .var 26]]

def ir_penumbraref05_Dot : IR :=
 .call F.penumbraref03_Mul [.agg [.var 0, .var 1, .var 2], .agg [.var 9, .var 10, .var 11]] [.agg 3] <|
 .call F.penumbraref03_Mul [.agg [.var 3, .var 4, .var 5], .agg [.var 12, .var 13, .var 14]] [.agg 3] <|
 .call F.penumbraref03_Add [.agg [.var 18, .var 19, .var 20], .agg [.var 21, .var 22, .var 23]] [.agg 3] <|
 .call F.penumbraref03_Mul [.agg [.var 6, .var 7, .var 8], .agg [.var 15, .var 16, .var 17]] [.agg 3] <|
 .call F.penumbraref03_Add [.agg [.var 24, .var 25, .var 26], .agg [.var 27, .var 28, .var 29]] [.agg 3] <|
 .ret [.agg [.var 30, .var 31, .var 32]]

def ir_penumbraref22_Far : IR :=
 .call F.penumbraref05_Sub [.agg [.var 9, .var 10, .var 11, .var 12, .var 13, .var 14, .var 15, .var 16, .var 17], .agg [.var 0, .var 1, .var 2, .var 3, .var 4, .var 5, .var 6, .var 7, .var 8]] [.agg 9] <|
 .call F.penumbraref05_Dot [.agg [.var 18, .var 19, .var 20, .var 21, .var 22, .var 23, .var 24, .var 25, .var 26], .agg [.var 18, .var 19, .var 20, .var 21, .var 22, .var 23, .var 24, .var 25, .var 26]] [.agg 3] <|
 .ret [.agg [.var 27, .var 28, .var 29]]

def ir_penumbraref23_Nearest : IR :=
 .prim (.mk 0) [] <|
 .prim (.mk 0) [] <|
 .loop [.var 0, .var 10, .var 11, .var 12, .int .i64 (0), .var 1, .var 2, .var 3, .var 4, .var 5, .var 6, .var 7, .var 8, .var 9] (
  .prim .len [.var 0] <|
  .prim (.bin .lss) [.var 4, .var 14] <|
  .ite (.var 15) (
   .prim (.inb 9) [.var 0, .var 4] <|
   .prim (.get 9 0) [.var 0, .var 4] <|
   .prim (.get 9 1) [.var 0, .var 4] <|
   .prim (.get 9 2) [.var 0, .var 4] <|
   .prim (.get 9 3) [.var 0, .var 4] <|
   .prim (.get 9 4) [.var 0, .var 4] <|
   .prim (.get 9 5) [.var 0, .var 4] <|
   .prim (.get 9 6) [.var 0, .var 4] <|
   .prim (.get 9 7) [.var 0, .var 4] <|
   .prim (.get 9 8) [.var 0, .var 4] <|
   .call F.penumbraref22_Far [.agg [.var 17, .var 18, .var 19, .var 20, .var 21, .var 22, .var 23, .var 24, .var 25], .agg [.var 5, .var 6, .var 7, .var 8, .var 9, .var 10, .var 11, .var 12, .var 13]] [.agg 3] <|
   .loop [.var 0, .var 1, .var 2, .var 3, .var 4, .int .i64 (0), .var 5, .var 6, .var 7, .var 8, .var 9, .var 10, .var 11, .var 12, .var 13, .var 26, .var 27, .var 28] (
    .prim .len [.var 2] <|
    .prim (.bin .lss) [.var 5, .var 18] <|
    .ite (.var 19) (
     .prim (.inb 3) [.var 3, .var 5] <|
     .prim (.get 3 0) [.var 3, .var 5] <|
     .prim (.get 3 1) [.var 3, .var 5] <|
     .prim (.get 3 2) [.var 3, .var 5] <|
     .call F.penumbraref03_Cmp [.agg [.var 21, .var 22, .var 23], .agg [.var 15, .var 16, .var 17]] [.one] <|
     .prim (.bin .leq) [.var 24, .int .i64 (0)] <|
     .ite (.var 25) (
      .prim (.bin .add) [.var 5, .int .i64 (1)] <|
      .jump 1 [.var 0, .var 1, .var 2, .var 3, .var 4, .var 26, .var 6, .var 7, .var 8, .var 9, .var 10, .var 11, .var 12, .var 13, .var 14, .var 15, .var 16, .var 17]) (
      .prim (.mk 0) [] <|
      .prim (.slc 1) [.var 2, .int .i64 (0), .var 5] <|
      .prim (.app 1 8) [.var 26, .var 27] <|
      .prim (.mk 1) [.var 4] <|
      .prim (.app 1 8) [.var 28, .var 29] <|
      .prim .len [.var 2] <|
      .prim (.slc 1) [.var 2, .var 5, .var 31] <|
      .prim (.app 1 8) [.var 30, .var 32] <|
      .prim (.mk 0) [] <|
      .prim (.slc 3) [.var 3, .int .i64 (0), .var 5] <|
      .prim (.app 3 56) [.var 34, .var 35] <|
      .prim (.mk 1) [.var 15, .var 16, .var 17] <|
      .prim (.app 3 56) [.var 36, .var 37] <|
      .prim .len [.var 3] <|
      .prim (.slc 3) [.var 3, .var 5, .var 39] <|
      .prim (.app 3 56) [.var 38, .var 40] <|
      .prim (.bin .add) [.var 4, .int .i64 (1)] <|
      .jump 0 [.var 0, .var 1, .var 33, .var 41, .var 42, .var 6, .var 7, .var 8, .var 9, .var 10, .var 11, .var 12, .var 13, .var 14])) (
     .prim (.mk 0) [] <|
     .prim (.slc 1) [.var 2, .int .i64 (0), .var 5] <|
     .prim (.app 1 8) [.var 20, .var 21] <|
     .prim (.mk 1) [.var 4] <|
     .prim (.app 1 8) [.var 22, .var 23] <|
     .prim .len [.var 2] <|
     .prim (.slc 1) [.var 2, .var 5, .var 25] <|
     .prim (.app 1 8) [.var 24, .var 26] <|
     .prim (.mk 0) [] <|
     .prim (.slc 3) [.var 3, .int .i64 (0), .var 5] <|
     .prim (.app 3 56) [.var 28, .var 29] <|
     .prim (.mk 1) [.var 15, .var 16, .var 17] <|
     .prim (.app 3 56) [.var 30, .var 31] <|
     .prim .len [.var 3] <|
     .prim (.slc 3) [.var 3, .var 5, .var 33] <|
     .prim (.app 3 56) [.var 32, .var 34] <|
     .prim (.bin .add) [.var 4, .int .i64 (1)] <|
     .jump 0 [.var 0, .var 1, .var 27, .var 35, .var 36, .var 6, .var 7, .var 8, .var 9, .var 10, .var 11, .var 12, .var 13, .var 14]))) (
   .prim (.bin .lss) [.var 1, .int .i64 (0)] <|
   .ite (.var 16) (
    .prim .len [.var 2] <|
    .prim .min2 [.int .i64 (0), .var 17] <|
    .prim (.slc 1) [.var 2, .int .i64 (0), .var 18] <|
    .ret [.one (.var 19)]) (
    .prim .len [.var 2] <|
    .prim .min2 [.var 1, .var 17] <|
    .prim (.slc 1) [.var 2, .int .i64 (0), .var 18] <|
    .ret [.one (.var 19)])))

def ir_penumbraref23_Tree : IR :=
 .prim (.mk 0) [] <|
 .loop [.var 0, .var 1, .int .i64 (0)] (
  .prim .len [.var 0] <|
  .prim (.bin .lss) [.var 2, .var 3] <|
  .ite (.var 4) (
   .loop [.var 0, .var 1, .var 2, .int .i64 (0)] (
    .prim .len [.var 1] <|
    .prim (.bin .lss) [.var 3, .var 4] <|
    .ite (.var 5) (
     .prim (.inb 1) [.var 1, .var 3] <|
     .prim (.get 1 0) [.var 1, .var 3] <|
     .prim (.inb 9) [.var 0, .var 7] <|
     .prim (.get 9 0) [.var 0, .var 7] <|
     .prim (.get 9 1) [.var 0, .var 7] <|
     .prim (.get 9 2) [.var 0, .var 7] <|
     .prim (.inb 9) [.var 0, .var 2] <|
     .prim (.get 9 0) [.var 0, .var 2] <|
     .prim (.get 9 1) [.var 0, .var 2] <|
     .prim (.get 9 2) [.var 0, .var 2] <|
     .call F.penumbraref03_Cmp [.agg [.var 9, .var 10, .var 11], .agg [.var 13, .var 14, .var 15]] [.one] <|
     .prim (.bin .leq) [.var 16, .int .i64 (0)] <|
     .ite (.var 17) (
      .prim (.bin .add) [.var 3, .int .i64 (1)] <|
      .jump 1 [.var 0, .var 1, .var 2, .var 18]) (
      .prim (.mk 0) [] <|
      .prim (.slc 1) [.var 1, .int .i64 (0), .var 3] <|
      .prim (.app 1 8) [.var 18, .var 19] <|
      .prim (.mk 1) [.var 2] <|
      .prim (.app 1 8) [.var 20, .var 21] <|
      .prim .len [.var 1] <|
      .prim (.slc 1) [.var 1, .var 3, .var 23] <|
      .prim (.app 1 8) [.var 22, .var 24] <|
      .prim (.bin .add) [.var 2, .int .i64 (1)] <|
      .jump 0 [.var 0, .var 25, .var 26])) (
     .prim (.mk 0) [] <|
     .prim (.slc 1) [.var 1, .int .i64 (0), .var 3] <|
     .prim (.app 1 8) [.var 6, .var 7] <|
     .prim (.mk 1) [.var 2] <|
     .prim (.app 1 8) [.var 8, .var 9] <|
     .prim .len [.var 1] <|
     .prim (.slc 1) [.var 1, .var 3, .var 11] <|
     .prim (.app 1 8) [.var 10, .var 12] <|
     .prim (.bin .add) [.var 2, .int .i64 (1)] <|
     .jump 0 [.var 0, .var 13, .var 14]))) (
   .loop [.var 1, .int .i64 (0), .nil] (
    .prim .len [.var 0] <|
    .prim (.bin .lss) [.var 1, .var 3] <|
    .ite (.var 4) (
     .prim (.inb 1) [.var 0, .var 1] <|
     .prim (.get 1 0) [.var 0, .var 1] <|
     .prim (.bin .add) [.var 1, .int .i64 (1)] <|
     .prim (.bin .add) [.var 1, .int .i64 (1)] <|
     .prim .len [.var 0] <|
     .prim (.bin .eql) [.var 8, .var 9] <|
     .ite (.var 10) (
      .prim (.mk 1) [.var 6, .int .i64 (0), .int .i64 (-1), .int .i64 (-1)] <|
      .prim (.app 4 32) [.var 2, .var 11] <|
      .prim (.bin .add) [.var 1, .int .i64 (1)] <|
      .jump 1 [.var 0, .var 13, .var 12]) (
      .prim (.mk 1) [.var 6, .int .i64 (0), .int .i64 (-1), .var 7] <|
      .prim (.app 4 32) [.var 2, .var 11] <|
      .prim (.bin .add) [.var 1, .int .i64 (1)] <|
      .jump 1 [.var 0, .var 13, .var 12])) (
     .ret [.agg [.var 2]]))))

theorem tree_penumbraref05_Sub : symFunc Go.Proofs.Tryz.prog ⟨fun f => [28].contains f, fun f i => [], fun f i => [], fun f => [33].contains f, fun f => if f = 14 then some ([.row 4 63, .pl], [.row 1 3, .pl], 1) else if f = 17 then some ([.pl, .pl, .pl, .pl, .pl, .pl, .pl, .pl, .pl, .pl, .pl, .pl, .row 4 59, .row 1 4, .row 1 4], [.pl], 0) else if f = 49 then some ([.pl, .pl, .pl, .pl, .pl, .pl, .pl, .pl, .pl, .pl, .pl, .pl, .row 4 59, .row 1 4, .row 1 4], [], 0) else if f = 50 then some ([.pl, .pl, .pl, .pl, .pl, .pl, .pl, .pl, .pl, .pl, .pl, .pl, .row 4 59, .row 1 4, .row 1 4], [], 0) else none⟩ 400 F.penumbraref05_Sub [.agg 9, .agg 9] = some ir_penumbraref05_Sub := by kernel_rfl
theorem tree_penumbraref05_Dot : symFunc Go.Proofs.Tryz.prog ⟨fun f => [28].contains f, fun f i => [], fun f i => [], fun f => [33].contains f, fun f => if f = 14 then some ([.row 4 63, .pl], [.row 1 3, .pl], 1) else if f = 17 then some ([.pl, .pl, .pl, .pl, .pl, .pl, .pl, .pl, .pl, .pl, .pl, .pl, .row 4 59, .row 1 4, .row 1 4], [.pl], 0) else if f = 49 then some ([.pl, .pl, .pl, .pl, .pl, .pl, .pl, .pl, .pl, .pl, .pl, .pl, .row 4 59, .row 1 4, .row 1 4], [], 0) else if f = 50 then some ([.pl, .pl, .pl, .pl, .pl, .pl, .pl, .pl, .pl, .pl, .pl, .pl, .row 4 59, .row 1 4, .row 1 4], [], 0) else none⟩ 400 F.penumbraref05_Dot [.agg 9, .agg 9] = some ir_penumbraref05_Dot := by kernel_rfl
theorem tree_penumbraref22_Far : symFunc Go.Proofs.Tryz.prog ⟨fun f => [28].contains f, fun f i => [], fun f i => [], fun f => [33].contains f, fun f => if f = 14 then some ([.row 4 63, .pl], [.row 1 3, .pl], 1) else if f = 17 then some ([.pl, .pl, .pl, .pl, .pl, .pl, .pl, .pl, .pl, .pl, .pl, .pl, .row 4 59, .row 1 4, .row 1 4], [.pl], 0) else if f = 49 then some ([.pl, .pl, .pl, .pl, .pl, .pl, .pl, .pl, .pl, .pl, .pl, .pl, .row 4 59, .row 1 4, .row 1 4], [], 0) else if f = 50 then some ([.pl, .pl, .pl, .pl, .pl, .pl, .pl, .pl, .pl, .pl, .pl, .pl, .row 4 59, .row 1 4, .row 1 4], [], 0) else none⟩ 400 F.penumbraref22_Far [.agg 9, .agg 9] = some ir_penumbraref22_Far := by kernel_rfl
theorem tree_penumbraref23_Nearest : symFunc Go.Proofs.Tryz.prog ⟨fun f => [28].contains f, fun f i => if f = 6 ∧ i = 4 then [⟨[(0, .s (.one (.at (.var 0)))), (2, .s (.one (.at (.var 1)))), (4, .s (.one (.lp 0 0))), (7, .s (.one (.at (.var 2)))), (8, .s (.one (.at (.var 3)))), (9, .s (.one (.at (.var 4))))], [], [(0, .box [.at (.var 5), .at (.var 6), .at (.var 7), .at (.var 8), .at (.var 9), .at (.var 10), .at (.var 11), .at (.var 12), .at (.var 13)] 27 false)], 1, 14⟩] else if f = 6 ∧ i = 8 then [⟨[(0, .s (.one (.at (.var 0)))), (2, .s (.one (.at (.var 1)))), (4, .s (.one (.lp 0 0))), (7, .s (.one (.at (.var 2)))), (8, .s (.one (.at (.var 3)))), (9, .s (.one (.at (.var 4)))), (10, .s (.one (.lp 1 0))), (11, .s (.one (.at (.var 5))))], [], [(0, .box [.at (.var 6), .at (.var 7), .at (.var 8), .at (.var 9), .at (.var 10), .at (.var 11), .at (.var 12), .at (.var 13), .at (.var 14)] 27 false), (1, .box [.at (.var 15), .at (.var 16), .at (.var 17)] 25 false)], 2, 18⟩] else [], fun f i => [], fun f => [33].contains f, fun f => if f = 14 then some ([.row 4 63, .pl], [.row 1 3, .pl], 1) else if f = 17 then some ([.pl, .pl, .pl, .pl, .pl, .pl, .pl, .pl, .pl, .pl, .pl, .pl, .row 4 59, .row 1 4, .row 1 4], [.pl], 0) else if f = 49 then some ([.pl, .pl, .pl, .pl, .pl, .pl, .pl, .pl, .pl, .pl, .pl, .pl, .row 4 59, .row 1 4, .row 1 4], [], 0) else if f = 50 then some ([.pl, .pl, .pl, .pl, .pl, .pl, .pl, .pl, .pl, .pl, .pl, .pl, .row 4 59, .row 1 4, .row 1 4], [], 0) else none⟩ 400 F.penumbraref23_Nearest [.one, .agg 9, .one] = some ir_penumbraref23_Nearest := by kernel_rfl
theorem tree_penumbraref23_Tree : symFunc Go.Proofs.Tryz.prog ⟨fun f => [28].contains f, fun f i => if f = 9 ∧ i = 3 then [⟨[(0, .s (.one (.at (.var 0)))), (2, .s (.one (.lp 0 0))), (3, .s (.one (.at (.var 1)))), (4, .s (.one (.at (.var 2))))], [], [(0, .box [.nils] 31 false)], 1, 3⟩] else if f = 9 ∧ i = 6 then [⟨[(0, .s (.one (.at (.var 0)))), (2, .s (.one (.lp 0 0))), (3, .s (.one (.at (.var 1)))), (4, .s (.one (.at (.var 2)))), (5, .s (.one (.at (.var 3))))], [], [(0, .box [.nils] 31 false)], 1, 4⟩] else if f = 9 ∧ i = 11 then [⟨[(2, .s (.one (.lp 0 0))), (3, .s (.one (.at (.var 0)))), (6, .s (.one (.lp 1 0))), (7, .s (.one (.at (.var 1))))], [], [(0, .box [.nils] 31 false), (1, .box [.own 2] 31 false), (2, .own (.var 2) 4 63)], 3, 3⟩] else [], fun f i => [], fun f => [33].contains f, fun f => if f = 14 then some ([.row 4 63, .pl], [.row 1 3, .pl], 1) else if f = 17 then some ([.pl, .pl, .pl, .pl, .pl, .pl, .pl, .pl, .pl, .pl, .pl, .pl, .row 4 59, .row 1 4, .row 1 4], [.pl], 0) else if f = 49 then some ([.pl, .pl, .pl, .pl, .pl, .pl, .pl, .pl, .pl, .pl, .pl, .pl, .row 4 59, .row 1 4, .row 1 4], [], 0) else if f = 50 then some ([.pl, .pl, .pl, .pl, .pl, .pl, .pl, .pl, .pl, .pl, .pl, .pl, .row 4 59, .row 1 4, .row 1 4], [], 0) else none⟩ 400 F.penumbraref23_Tree [.one] = some ir_penumbraref23_Tree := by kernel_rfl
end Go.Px
namespace Go.Px.Na
open Go.RowKit
open Go.Proofs.Tryz (prog)
theorem fr_Sub {L M : Nat} {a b : RV} {u v : V3} (h : NV L a u) (g : NV M b v) (hl : L ≤ 60000000000 ∧ M ≤ 60000000000) : PureCalls prog F.penumbraref05_Sub [.agg (gW a.l), .agg (gW b.l)] [.agg (gD [(u.sub v).x, (u.sub v).y, (u.sub v).z])] := by
  replace h := h.mono hl.1
  replace g := g.mono hl.2
  refine symFunc_sound hmix tree_penumbraref05_Sub (by kernel_rfl) rfl ?_
  unfold ir_penumbraref05_Sub
  simp only [HH, gW, gD, V3.l, M4.l, Fr.l, Sp.l, RV.l, RM.l, RF.l, RS.l]
  refine cs1 (n_penumbraref03_Sub (h.x.mono (by decide)) (g.x.mono (by decide)) rfl) ?_
  simp only [HH, gW, gD, V3.l, M4.l, Fr.l, Sp.l, RV.l, RM.l, RF.l, RS.l]
  refine cs1 (n_penumbraref03_Sub (h.y.mono (by decide)) (g.y.mono (by decide)) rfl) ?_
  simp only [HH, gW, gD, V3.l, M4.l, Fr.l, Sp.l, RV.l, RM.l, RF.l, RS.l]
  refine cs1 (n_penumbraref03_Sub (h.z.mono (by decide)) (g.z.mono (by decide)) rfl) ?_
  simp only [HH, gW, gD, V3.l, M4.l, Fr.l, Sp.l, RV.l, RM.l, RF.l, RS.l]
  exact ret_step rfl
theorem fr_Dot {L M : Nat} {a b : RV} {u v : V3} (h : NV L a u) (g : NV M b v) (hl : L ≤ 30000000000 ∧ M ≤ 30000000000) : PureCalls prog F.penumbraref05_Dot [.agg (gW a.l), .agg (gW b.l)] [.agg (gD [u.dot v])] := by
  replace h := h.mono hl.1
  replace g := g.mono hl.2
  refine symFunc_sound hmix tree_penumbraref05_Dot (by kernel_rfl) rfl ?_
  unfold ir_penumbraref05_Dot
  simp only [HH, gW, gD, V3.l, M4.l, Fr.l, Sp.l, RV.l, RM.l, RF.l, RS.l]
  refine cs1 (n_penumbraref03_Mul (h.x.mono (by decide)) (g.x.mono (by decide)) rfl) ?_
  simp only [HH, gW, gD, V3.l, M4.l, Fr.l, Sp.l, RV.l, RM.l, RF.l, RS.l]
  have m1 := Num.of (h.x.sm.mul g.x.sm)
  refine cs1 (n_penumbraref03_Mul (h.y.mono (by decide)) (g.y.mono (by decide)) rfl) ?_
  simp only [HH, gW, gD, V3.l, M4.l, Fr.l, Sp.l, RV.l, RM.l, RF.l, RS.l]
  have m2 := Num.of (h.y.sm.mul g.y.sm)
  refine cs1 (n_penumbraref03_Add (m1.mono (by decide)) (m2.mono (by decide)) rfl) ?_
  simp only [HH, gW, gD, V3.l, M4.l, Fr.l, Sp.l, RV.l, RM.l, RF.l, RS.l]
  have m3 := Num.of (m1.sm.add m2.sm)
  refine cs1 (n_penumbraref03_Mul (h.z.mono (by decide)) (g.z.mono (by decide)) rfl) ?_
  simp only [HH, gW, gD, V3.l, M4.l, Fr.l, Sp.l, RV.l, RM.l, RF.l, RS.l]
  have m4 := Num.of (h.z.sm.mul g.z.sm)
  refine cs1 (n_penumbraref03_Add (m3.mono (by decide)) (m4.mono (by decide)) rfl) ?_
  simp only [HH, gW, gD, V3.l, M4.l, Fr.l, Sp.l, RV.l, RM.l, RF.l, RS.l]
  exact ret_step rfl
theorem f_R22_Far {L M : Nat} {a b : RV} {u v : V3} (h : NV L a u) (g : NV M b v) (hl : L ≤ 10000000000 ∧ M ≤ 10000000000) : PureCalls prog F.penumbraref22_Far [.agg (gW a.l), .agg (gW b.l)] [.agg (gD [far u v])] := by
  replace h := h.mono hl.1
  replace g := g.mono hl.2
  refine symFunc_sound hmix tree_penumbraref22_Far (by kernel_rfl) rfl ?_
  unfold ir_penumbraref22_Far
  simp only [HH, gW, gD, V3.l, M4.l, Fr.l, Sp.l, RV.l, RM.l, RF.l, RS.l]
  refine cs3 (fr_Sub g h (by decide)) ?_
  simp only [HH, gW, gD, V3.l, M4.l, Fr.l, Sp.l, RV.l, RM.l, RF.l, RS.l]
  have m1 := NV.of (g.sm.sub h.sm)
  refine cs1 (fr_Dot m1 m1 (by decide)) ?_
  simp only [HH, gW, gD, V3.l, M4.l, Fr.l, Sp.l, RV.l, RM.l, RF.l, RS.l]
  exact ret_step rfl
/-- How far they are, each by itself. -/
def qfl (h : List FD) : DV := .list h.length (h.flatMap fun f => gD [f.far])
theorem qf_len (f : FD) : (gD [f.far]).length = 3 := rfl
theorem fm_take {α : Type} {f : α → List DV} {s : Nat} (hf : ∀ a, (f a).length = s) : ∀ (l : List α) (i : Nat), (l.flatMap f).take (i * s) = (l.take i).flatMap f
  | [], i => by simp
  | a :: l, 0 => by simp
  | a :: l, i + 1 => by
    rw [List.flatMap_cons, List.take_succ_cons, List.flatMap_cons, Nat.succ_mul, List.take_append, List.take_of_length_le (by rw [hf]; omega), hf, Nat.add_sub_cancel, fm_take hf l i]
theorem fm_drop {α : Type} {f : α → List DV} {s : Nat} (hf : ∀ a, (f a).length = s) : ∀ (l : List α) (i : Nat), (l.flatMap f).drop (i * s) = (l.drop i).flatMap f
  | [], i => by simp
  | a :: l, 0 => by simp
  | a :: l, i + 1 => by
    rw [List.flatMap_cons, List.drop_succ_cons, Nat.succ_mul, List.drop_append, List.drop_of_length_le (by rw [hf]; omega), hf, Nat.add_sub_cancel, fm_drop hf l i, List.nil_append]
theorem qf_slc {h : List FD} {k k' : IntKind} {lo hi : Int} (h0 : 0 ≤ lo) (h1 : lo ≤ hi) (h2 : hi ≤ h.length) : Prim.den (.slc 3) [qfl h, .int k lo, .int k' hi] = some (qfl ((h.drop lo.toNat).take (hi - lo).toNat)) := by
  simp only [qfl, Prim.den]
  rw [if_pos ⟨h0, h1, h2, fm_len qf_len h⟩, fm_drop qf_len, fm_take qf_len]
  simp only [Option.some.injEq, DV.list.injEq, List.length_take, List.length_drop, and_true]
  omega
theorem qf_app {a b : List FD} (h : a.length + b.length ≤ 1000000) : Prim.den (.app 3 56) [qfl a, qfl b] = some (qfl (a ++ b)) := by
  simp only [qfl, Prim.den]
  rw [if_pos ⟨fm_len qf_len a, fm_len qf_len b, by omega⟩]
  simp
section
variable {P : Program} {As : List (List DV → Prop)} {ρ : List DV} {Q : List AV → Prop}
theorem get_qf {x i : Px.A} {h : List FD} {ki : IntKind} {j : Int} {k : IR} {f : FD} (h0 : 0 ≤ j) (hr : h[j.toNat]? = some f) (hx : ∀ l, Px.A.ev (ρ ++ l) x = qfl h) (hi : ∀ l, Px.A.ev (ρ ++ l) i = .int ki j) (hk : IRwp P As (ρ ++ gD [f.far]) k Q) : IRwp P As ρ (getsI x i 3 3 0 k) Q :=
  gets_ok h0 (by have := (List.getElem?_eq_some_iff.1 hr).1; omega) 3 0 ρ (gD [f.far]) hx hi rfl (fun t ht => by rw [Nat.zero_add]; exact fm_get qf_len t hr ht) hk
theorem get_ptx {x i : Px.A} {rs : List RV} {ki : IntKind} {j : Int} {k : IR} {r : RV} (h0 : 0 ≤ j) (hr : rs[j.toNat]? = some r) (hx : ∀ l, Px.A.ev (ρ ++ l) x = vl rs) (hi : ∀ l, Px.A.ev (ρ ++ l) i = .int ki j) (hk : IRwp P As (ρ ++ gW [r.x]) k Q) : IRwp P As ρ (getsI x i 9 3 0 k) Q :=
  gets_ok h0 (by have := (List.getElem?_eq_some_iff.1 hr).1; omega) 3 0 ρ (gW [r.x]) hx hi rfl (fun t ht => by
    rw [Nat.zero_add, fm_get gV_len t hr (by omega)]
    match t, ht with
    | 0, _ => rfl
    | 1, _ => rfl
    | 2, _ => rfl) hk
end
theorem d_min2 {k : IntKind} {a b : Int} : Prim.den .min2 [.int k a, .int k b] = some (.int k (if b < a then b else a)) := by simp [Prim.den]
theorem fd_get {F : List FD} {a : Nat} (h : a < F.length) : F[a]? = some (F.getD a default) := by
  rw [List.getD_eq_getElem?_getD, List.getElem?_eq_getElem h]; rfl
theorem f_RNearest {L M : Nat} {rs : List RV} {ps : List V3} {rc : RV} {c : V3} {k : Int} (H : NVs L rs ps) (hc : NV M rc c) (hl : L ≤ 10000000000) (hM : M ≤ 10000000000) (hr1 : rs.length ≤ 1000) :
    PureCalls prog F.penumbraref23_Nearest [.one (vl rs), .agg (gW rc.l), .one (.int .i64 k)] [.one (il (((srtF (allF ps c)).take k.toNat).map FD.pt))] := by
  have hlen := H.len
  rw [allF_num]
  obtain ⟨q, hq⟩ : ∃ q : Nat → Rat, q = fun i => far (ps.getD i o3) c := ⟨_, rfl⟩
  have hqs : ∀ i, i < rs.length → Sm (6 * (M + L + 1) + 2) (q i) := fun i hi => by rw [hq]; exact Sm_far (nvs_at H hi).sm hc.sm
  rw [← hq]
  refine symFunc_sound hmix tree_penumbraref23_Nearest (by kernel_rfl) rfl ?_
  unfold ir_penumbraref23_Nearest
  try simp only [HH, gW, gD, V3.l, M4.l, Fr.l, Sp.l, RV.l, RM.l, RF.l, RS.l]
  refine primS (il []) rfl ?_
  refine primS (il []) rfl ?_
  try simp only [List.cons_append, List.nil_append]
  refine loop_st (fun n : Nat => [vl rs, .int .i64 k, il ((srtF (numF n q)).map FD.pt), qfl (srtF (numF n q)), .int .i64 (n : Int)] ++ gW rc.l) (fun n => n ≤ rs.length) (fun n => rs.length - n) 0 (Nat.zero_le _) rfl (fun _ => rfl) fun n hn X hX => ?_
  generalize hF : srtF (numF n q) = F
  have hFl : F.length = n := by rw [← hF]; exact srtN_len n q
  have hln : Prim.den .len [il (F.map FD.pt)] = some (.int .i64 (n : Int)) := by rw [show Prim.den .len [il (F.map FD.pt)] = some (.int .i64 ((F.map FD.pt).length : Int)) from rfl, List.length_map, hFl]
  have hlq : Prim.den .len [qfl F] = some (.int .i64 (n : Int)) := by rw [show Prim.den .len [qfl F] = some (.int .i64 (F.length : Int)) from rfl, hFl]
  have hFs : ∀ a, a < n → Sm (6 * (M + L + 1) + 2) (F.getD a default).far := fun a ha => by
    obtain ⟨i, hi, e⟩ := srtN_mem (q := q) (n := n) (by rw [hF]; exact List.mem_of_getElem? (fd_get (by omega : a < F.length)))
    rw [e]; exact hqs i (by omega)
  try simp only [HH, gW, gD, V3.l, M4.l, Fr.l, Sp.l, RV.l, RM.l, RF.l, RS.l]
  refine primS (.int .i64 (rs.length : Int)) rfl ?_
  refine primS (.bool (decide ((n : Int) < (rs.length : Int)))) d_lss ?_
  refine itD rfl (fun hlt => ?_) (fun hlt => ?_)
  · have hnr : n < rs.length := by omega
    refine primS (.bool true) (vl_inb (by omega) (by omega)) ?_
    try simp only [List.cons_append, List.nil_append]
    refine get_pt (List.getElem?_eq_getElem hnr) (fun _ => rfl) (fun _ => rfl) ?_
    try simp only [HH, gW, gD, V3.l, M4.l, Fr.l, Sp.l, RV.l, RM.l, RF.l, RS.l]
    refine call_step (f_R22_Far (nvs_at H hnr) hc ⟨hl, hM⟩) rfl ?_
    rw [show far (ps.getD n o3) c = q n by rw [hq]]
    try simp only [HH, gW, gD, V3.l, M4.l, Fr.l, Sp.l, RV.l, RM.l, RF.l, RS.l]
    refine loop_st (fun a : Nat => [vl rs, .int .i64 k, il (F.map FD.pt), qfl F, .int .i64 (n : Int), .int .i64 (a : Int)] ++ gW rc.l ++ gD [q n]) (fun a => a ≤ n ∧ ∀ j, j < a → (F.getD j default).far ≤ q n) (fun a => n - a) 0 ⟨Nat.zero_le _, fun j hj => absurd hj (Nat.not_lt_zero _)⟩ rfl (fun _ => rfl) fun a ha X2 hX2 => ?_
    obtain ⟨ha, hal⟩ := ha
    try simp only [HH, gW, gD, V3.l, M4.l, Fr.l, Sp.l, RV.l, RM.l, RF.l, RS.l]
    refine primS (.int .i64 (n : Int)) hln ?_
    refine primS (.bool (decide ((a : Int) < (n : Int)))) d_lss ?_
    refine itD rfl (fun hat => ?_) (fun hat => ?_)
    · refine primS (.bool true) (fm_inb qf_len (by omega) (by omega)) ?_
      try simp only [List.cons_append, List.nil_append]
      refine get_qf (j := (a : Int)) (by omega) (by rw [Int.toNat_natCast]; exact fd_get (by omega)) (fun _ => rfl) (fun _ => rfl) ?_
      try simp only [HH, gW, gD, V3.l, M4.l, Fr.l, Sp.l, RV.l, RM.l, RF.l, RS.l]
      refine call_step (n_penumbraref03_Cmp ((Num.of (hFs a (by omega))).mono (by unfold LL; omega)) ((Num.of (hqs n hnr)).mono (by unfold LL; omega))) rfl ?_
      try simp only [HH, gW, gD, V3.l, M4.l, Fr.l, Sp.l, RV.l, RM.l, RF.l, RS.l]
      refine primS (.bool (decide ((F.getD a default).far ≤ q n))) d_cq_le ?_
      refine itD rfl (fun hle => ?_) (fun hle => ?_)
      · refine primS (.int .i64 ((a + 1 : Nat) : Int)) ((d_add64 (by omega) (by omega)).trans (by simp)) ?_
        exact jump_step rfl (hX2 (a + 1) ⟨by omega, fun j hj => by
          rcases Nat.lt_or_ge j a with h1 | h1
          · exact hal j h1
          · obtain rfl : j = a := by omega
            exact hle⟩ (by omega))
      · refine ?_
        try simp only [List.cons_append, List.nil_append]
        refine primS (il []) rfl ?_
        refine primS (il ((F.take a).map FD.pt)) ((il_slc (by omega) (by omega) (by rw [List.length_map]; omega)).trans (by simp [List.map_take])) ?_
        refine primS (il ((F.take a).map FD.pt)) ((il_app (by simp; omega)).trans (by simp)) ?_
        try simp only [List.cons_append, List.nil_append]
        refine primS (il [(n : Int)]) rfl ?_
        refine primS (il ((F.take a).map FD.pt ++ [(n : Int)])) (il_app (by simp; omega)) ?_
        refine primS (.int .i64 (n : Int)) hln ?_
        try simp only [List.cons_append, List.nil_append]
        refine primS (il ((F.drop a).map FD.pt)) ((il_slc (by omega) (by omega) (by rw [List.length_map]; omega)).trans (by rw [Int.toNat_natCast, List.take_of_length_le (by rw [List.length_drop, List.length_map]; omega), List.map_drop])) ?_
        refine primS (il ((F.take a).map FD.pt ++ [(n : Int)] ++ (F.drop a).map FD.pt)) (il_app (by simp; omega)) ?_
        refine primS (qfl []) rfl ?_
        try simp only [List.cons_append, List.nil_append]
        refine primS (qfl (F.take a)) ((qf_slc (by omega) (by omega) (by omega)).trans (by simp)) ?_
        refine primS (qfl (F.take a)) ((qf_app (by simp; omega)).trans (by simp)) ?_
        refine primS (qfl [(⟨(n : Int), q n⟩ : FD)]) rfl ?_
        try simp only [List.cons_append, List.nil_append]
        refine primS (qfl (F.take a ++ [(⟨(n : Int), q n⟩ : FD)])) (qf_app (by simp; omega)) ?_
        refine primS (.int .i64 (n : Int)) hlq ?_
        refine primS (qfl (F.drop a)) ((qf_slc (by omega) (by omega) (by omega)).trans (by rw [Int.toNat_natCast, List.take_of_length_le (by rw [List.length_drop]; omega)])) ?_
        try simp only [List.cons_append, List.nil_append]
        refine primS (qfl (F.take a ++ [(⟨(n : Int), q n⟩ : FD)] ++ F.drop a)) (qf_app (by simp; omega)) ?_
        refine primS (.int .i64 ((n + 1 : Nat) : Int)) ((d_add64 (by omega) (by omega)).trans (by simp)) ?_
        have hj := hX (n + 1) (by omega) (by omega)
        rw [srtN_cut ha (by rw [hF]; exact hal) (by rw [hF]; exact fun _ => hle), hF] at hj
        simp only [List.map_append, List.map_cons, List.append_assoc, List.singleton_append] at hj ⊢
        exact jump_step rfl hj
    · refine ?_
      try simp only [List.cons_append, List.nil_append]
      refine primS (il []) rfl ?_
      refine primS (il ((F.take a).map FD.pt)) ((il_slc (by omega) (by omega) (by rw [List.length_map]; omega)).trans (by simp [List.map_take])) ?_
      refine primS (il ((F.take a).map FD.pt)) ((il_app (by simp; omega)).trans (by simp)) ?_
      try simp only [List.cons_append, List.nil_append]
      refine primS (il [(n : Int)]) rfl ?_
      refine primS (il ((F.take a).map FD.pt ++ [(n : Int)])) (il_app (by simp; omega)) ?_
      refine primS (.int .i64 (n : Int)) hln ?_
      try simp only [List.cons_append, List.nil_append]
      refine primS (il ((F.drop a).map FD.pt)) ((il_slc (by omega) (by omega) (by rw [List.length_map]; omega)).trans (by rw [Int.toNat_natCast, List.take_of_length_le (by rw [List.length_drop, List.length_map]; omega), List.map_drop])) ?_
      refine primS (il ((F.take a).map FD.pt ++ [(n : Int)] ++ (F.drop a).map FD.pt)) (il_app (by simp; omega)) ?_
      refine primS (qfl []) rfl ?_
      try simp only [List.cons_append, List.nil_append]
      refine primS (qfl (F.take a)) ((qf_slc (by omega) (by omega) (by omega)).trans (by simp)) ?_
      refine primS (qfl (F.take a)) ((qf_app (by simp; omega)).trans (by simp)) ?_
      refine primS (qfl [(⟨(n : Int), q n⟩ : FD)]) rfl ?_
      try simp only [List.cons_append, List.nil_append]
      refine primS (qfl (F.take a ++ [(⟨(n : Int), q n⟩ : FD)])) (qf_app (by simp; omega)) ?_
      refine primS (.int .i64 (n : Int)) hlq ?_
      refine primS (qfl (F.drop a)) ((qf_slc (by omega) (by omega) (by omega)).trans (by rw [Int.toNat_natCast, List.take_of_length_le (by rw [List.length_drop]; omega)])) ?_
      try simp only [List.cons_append, List.nil_append]
      refine primS (qfl (F.take a ++ [(⟨(n : Int), q n⟩ : FD)] ++ F.drop a)) (qf_app (by simp; omega)) ?_
      refine primS (.int .i64 ((n + 1 : Nat) : Int)) ((d_add64 (by omega) (by omega)).trans (by simp)) ?_
      have hj := hX (n + 1) (by omega) (by omega)
      rw [srtN_cut ha (by rw [hF]; exact hal) (by rw [hF]; exact fun h => absurd h (by omega)), hF] at hj
      simp only [List.map_append, List.map_cons, List.append_assoc, List.singleton_append] at hj ⊢
      exact jump_step rfl hj
  · obtain rfl : n = rs.length := by omega
    rw [← hlen, hF]
    refine primS (.bool (decide (k < 0))) d_lss ?_
    refine itD rfl (fun hk => ?_) (fun hk => ?_)
    · refine primS (.int .i64 (rs.length : Int)) hln ?_
      refine primS (.int .i64 0) (d_min2.trans (by rw [if_neg (by omega)])) ?_
      refine primS (il []) ((il_slc (by omega) (by omega) (by omega)).trans (by simp)) ?_
      try simp only [List.cons_append, List.nil_append]
      refine ret_step ?_
      rw [show k.toNat = 0 by omega]
      rfl
    · refine primS (.int .i64 (rs.length : Int)) hln ?_
      refine primS (.int .i64 (if (rs.length : Int) < k then (rs.length : Int) else k)) d_min2 ?_
      refine primS (il ((F.take k.toNat).map FD.pt)) ((il_slc (by omega) (by split <;> omega) (by rw [List.length_map]; split <;> omega)).trans (by
        rw [Int.toNat_zero, List.drop_zero, List.map_take]
        split
        · rw [List.take_of_length_le (by rw [List.length_map]; omega), List.take_of_length_le (by rw [List.length_map]; omega)]
        · rw [show (k - 0).toNat = k.toNat by omega])) ?_
      exact ret_step rfl
theorem f_RTree {L : Nat} {rs : List RV} {ps : List V3} (H : NVs L rs ps) (hl : L ≤ 10000000000) (hr1 : rs.length ≤ 1000) : PureCalls prog F.penumbraref23_Tree [.one (vl rs)] [.agg [kl (linT ps)]] := by
  have hlen := H.len
  unfold linT
  obtain ⟨q, hq⟩ : ∃ q : Nat → Rat, q = fun i => (ps.getD i o3).x := ⟨_, rfl⟩
  rw [← hq, ← hlen]
  refine symFunc_sound hmix tree_penumbraref23_Tree (by kernel_rfl) rfl ?_
  unfold ir_penumbraref23_Tree
  try simp only [HH, gW, gD, V3.l, M4.l, Fr.l, Sp.l, RV.l, RM.l, RF.l, RS.l]
  refine primS (il []) rfl ?_
  try simp only [List.cons_append, List.nil_append]
  refine loop_st (fun n : Nat => [vl rs, il ((srtF (numF n q)).map FD.pt), .int .i64 (n : Int)]) (fun n => n ≤ rs.length) (fun n => rs.length - n) 0 (Nat.zero_le _) rfl (fun _ => rfl) fun n hn X hX => ?_
  generalize hF : srtF (numF n q) = F
  have hFl : F.length = n := by rw [← hF]; exact srtN_len n q
  have hln : Prim.den .len [il (F.map FD.pt)] = some (.int .i64 (n : Int)) := by rw [show Prim.den .len [il (F.map FD.pt)] = some (.int .i64 ((F.map FD.pt).length : Int)) from rfl, List.length_map, hFl]
  have hFm : ∀ a, a < n → ∃ i, i < n ∧ F.getD a default = ⟨(i : Int), q i⟩ := fun a ha => srtN_mem (q := q) (n := n) (by rw [hF]; exact List.mem_of_getElem? (fd_get (by omega : a < F.length)))
  refine primS (.int .i64 (rs.length : Int)) rfl ?_
  refine primS (.bool (decide ((n : Int) < (rs.length : Int)))) d_lss ?_
  refine itD rfl (fun hlt => ?_) (fun hlt => ?_)
  · have hnr : n < rs.length := by omega
    try simp only [List.cons_append, List.nil_append]
    refine loop_st (fun a : Nat => [vl rs, il (F.map FD.pt), .int .i64 (n : Int), .int .i64 (a : Int)]) (fun a => a ≤ n ∧ ∀ j, j < a → (F.getD j default).far ≤ q n) (fun a => n - a) 0 ⟨Nat.zero_le _, fun j hj => absurd hj (Nat.not_lt_zero _)⟩ rfl (fun _ => rfl) fun a ha X2 hX2 => ?_
    obtain ⟨ha, hal⟩ := ha
    refine primS (.int .i64 (n : Int)) hln ?_
    refine primS (.bool (decide ((a : Int) < (n : Int)))) d_lss ?_
    refine itD rfl (fun hat => ?_) (fun hat => ?_)
    · obtain ⟨i, hi, he⟩ := hFm a (by omega)
      have hir : i < rs.length := by omega
      refine primS (.bool true) (il_inb (by omega) (by rw [List.length_map]; omega)) ?_
      refine primS (.int .i64 (i : Int)) ((il_get (by omega) (by rw [List.length_map]; omega)).trans (by rw [Int.toNat_natCast, List.getD_eq_getElem?_getD, List.getElem?_map, fd_get (by omega : a < F.length), he]; rfl)) ?_
      refine primS (.bool true) (vl_inb (by omega) (by omega)) ?_
      try simp only [List.cons_append, List.nil_append]
      try simp only [List.cons_append, List.nil_append]
      refine get_ptx (j := (i : Int)) (by omega) (by rw [Int.toNat_natCast]; exact List.getElem?_eq_getElem hir) (fun _ => rfl) (fun _ => rfl) ?_
      try simp only [HH, gW, gD, V3.l, M4.l, Fr.l, Sp.l, RV.l, RM.l, RF.l, RS.l]
      refine primS (.bool true) (vl_inb (by omega) (by omega)) ?_
      try simp only [List.cons_append, List.nil_append]
      refine get_ptx (j := (n : Int)) (by omega) (by rw [Int.toNat_natCast]; exact List.getElem?_eq_getElem hnr) (fun _ => rfl) (fun _ => rfl) ?_
      try simp only [HH, gW, gD, V3.l, M4.l, Fr.l, Sp.l, RV.l, RM.l, RF.l, RS.l]
      refine call_step (n_penumbraref03_Cmp ((nvs_at H hir).x.mono (by unfold LL; omega)) ((nvs_at H hnr).x.mono (by unfold LL; omega))) rfl ?_
      try simp only [HH, gW, gD, V3.l, M4.l, Fr.l, Sp.l, RV.l, RM.l, RF.l, RS.l]
      refine primS (.bool (decide ((F.getD a default).far ≤ q n))) (d_cq_le.trans (by rw [he, hq])) ?_
      refine itD rfl (fun hle => ?_) (fun hle => ?_)
      · refine primS (.int .i64 ((a + 1 : Nat) : Int)) ((d_add64 (by omega) (by omega)).trans (by simp)) ?_
        exact jump_step rfl (hX2 (a + 1) ⟨by omega, fun j hj => by
          rcases Nat.lt_or_ge j a with h1 | h1
          · exact hal j h1
          · obtain rfl : j = a := by omega
            exact hle⟩ (by omega))
      · refine ?_
        try simp only [List.cons_append, List.nil_append]
        refine primS (il []) rfl ?_
        refine primS (il ((F.take a).map FD.pt)) ((il_slc (by omega) (by omega) (by rw [List.length_map]; omega)).trans (by simp [List.map_take])) ?_
        refine primS (il ((F.take a).map FD.pt)) ((il_app (by simp; omega)).trans (by simp)) ?_
        try simp only [List.cons_append, List.nil_append]
        refine primS (il [(n : Int)]) rfl ?_
        refine primS (il ((F.take a).map FD.pt ++ [(n : Int)])) (il_app (by simp; omega)) ?_
        refine primS (.int .i64 (n : Int)) hln ?_
        try simp only [List.cons_append, List.nil_append]
        refine primS (il ((F.drop a).map FD.pt)) ((il_slc (by omega) (by omega) (by rw [List.length_map]; omega)).trans (by rw [Int.toNat_natCast, List.take_of_length_le (by rw [List.length_drop, List.length_map]; omega), List.map_drop])) ?_
        refine primS (il ((F.take a).map FD.pt ++ [(n : Int)] ++ (F.drop a).map FD.pt)) (il_app (by simp; omega)) ?_
        refine primS (.int .i64 ((n + 1 : Nat) : Int)) ((d_add64 (by omega) (by omega)).trans (by simp)) ?_
        try simp only [List.cons_append, List.nil_append]
        have hj := hX (n + 1) (by omega) (by omega)
        rw [srtN_cut ha (by rw [hF]; exact hal) (by rw [hF]; exact fun _ => hle), hF] at hj
        simp only [List.map_append, List.map_cons, List.append_assoc, List.singleton_append] at hj ⊢
        exact jump_step rfl hj
    · refine ?_
      try simp only [List.cons_append, List.nil_append]
      refine primS (il []) rfl ?_
      refine primS (il ((F.take a).map FD.pt)) ((il_slc (by omega) (by omega) (by rw [List.length_map]; omega)).trans (by simp [List.map_take])) ?_
      refine primS (il ((F.take a).map FD.pt)) ((il_app (by simp; omega)).trans (by simp)) ?_
      try simp only [List.cons_append, List.nil_append]
      refine primS (il [(n : Int)]) rfl ?_
      refine primS (il ((F.take a).map FD.pt ++ [(n : Int)])) (il_app (by simp; omega)) ?_
      refine primS (.int .i64 (n : Int)) hln ?_
      try simp only [List.cons_append, List.nil_append]
      refine primS (il ((F.drop a).map FD.pt)) ((il_slc (by omega) (by omega) (by rw [List.length_map]; omega)).trans (by rw [Int.toNat_natCast, List.take_of_length_le (by rw [List.length_drop, List.length_map]; omega), List.map_drop])) ?_
      refine primS (il ((F.take a).map FD.pt ++ [(n : Int)] ++ (F.drop a).map FD.pt)) (il_app (by simp; omega)) ?_
      refine primS (.int .i64 ((n + 1 : Nat) : Int)) ((d_add64 (by omega) (by omega)).trans (by simp)) ?_
      try simp only [List.cons_append, List.nil_append]
      have hj := hX (n + 1) (by omega) (by omega)
      rw [srtN_cut ha (by rw [hF]; exact hal) (by rw [hF]; exact fun h => absurd h (by omega)), hF] at hj
      simp only [List.map_append, List.map_cons, List.append_assoc, List.singleton_append] at hj ⊢
      exact jump_step rfl hj
  · obtain rfl : n = rs.length := by omega
    rw [hF]
    have hll := lin_len 0 (F.map FD.pt)
    have hl2 : (F.map FD.pt).length = rs.length := by rw [List.length_map, hFl]
    rw [hl2] at hll
    try simp only [List.cons_append, List.nil_append]
    refine loop_st (fun i : Nat => [il (F.map FD.pt), .int .i64 (i : Int), kl ((lin 0 (F.map FD.pt)).take i)]) (fun i => i ≤ rs.length) (fun i => rs.length - i) 0 (Nat.zero_le _) rfl (fun _ => rfl) fun i hi X2 hX2 => ?_
    refine primS (.int .i64 (rs.length : Int)) hln ?_
    refine primS (.bool (decide ((i : Int) < (rs.length : Int)))) d_lss ?_
    refine itD rfl (fun hlt => ?_) (fun hlt => ?_)
    · obtain ⟨p, hp⟩ : ∃ p, (F.map FD.pt)[i]? = some p := ⟨_, List.getElem?_eq_getElem (by omega)⟩
      have hn := lin_at 0 (F.map FD.pt) i p hp
      rw [hl2, Nat.zero_add] at hn
      refine primS (.bool true) (il_inb (by omega) (by omega)) ?_
      refine primS (.int .i64 p) ((il_get (by omega) (by omega)).trans (by rw [Int.toNat_natCast, List.getD_eq_getElem?_getD, hp]; rfl)) ?_
      refine primS (.int .i64 ((i + 1 : Nat) : Int)) ((d_add64 (by omega) (by omega)).trans (by simp)) ?_
      try simp only [List.cons_append, List.nil_append]
      refine primS (.int .i64 ((i + 1 : Nat) : Int)) ((d_add64 (by omega) (by omega)).trans (by simp)) ?_
      refine primS (.int .i64 (rs.length : Int)) hln ?_
      refine primS (.bool (decide (((i + 1 : Nat) : Int) = (rs.length : Int)))) d_eql ?_
      try simp only [List.cons_append, List.nil_append]
      have hj := hX2 (i + 1) (by omega) (by omega)
      rw [tk1 hn] at hj
      refine itD rfl (fun he => ?_) (fun he => ?_)
      · rw [if_pos (by omega)] at hj
        refine primS (kl [⟨p, 0, -1, -1⟩]) rfl ?_
        refine primS (kl ((lin 0 (F.map FD.pt)).take i ++ [(⟨p, 0, -1, -1⟩ : KN)])) (fm_app (by simp; omega)) ?_
        refine primS (.int .i64 ((i + 1 : Nat) : Int)) ((d_add64 (by omega) (by omega)).trans (by simp)) ?_
        try simp only [List.cons_append, List.nil_append]
        exact jump_step rfl hj
      · rw [if_neg (by omega)] at hj
        refine primS (kl [⟨p, 0, -1, ((i + 1 : Nat) : Int)⟩]) rfl ?_
        refine primS (kl ((lin 0 (F.map FD.pt)).take i ++ [(⟨p, 0, -1, ((i + 1 : Nat) : Int)⟩ : KN)])) (fm_app (by simp; omega)) ?_
        refine primS (.int .i64 ((i + 1 : Nat) : Int)) ((d_add64 (by omega) (by omega)).trans (by simp)) ?_
        try simp only [List.cons_append, List.nil_append]
        exact jump_step rfl hj
    · refine ret_step ?_
      rw [List.take_of_length_le (by omega)]
      rfl
end Go.Px.Na

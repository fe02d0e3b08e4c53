/- Kb: which trees fit: the program's functions and the document's. -/
import Derived.Test.YtejnnginkadecaaGreatKp
set_option maxRecDepth 40000
set_option maxHeartbeats 40000000
set_option linter.unusedVariables false
set_option linter.unusedSimpArgs false
namespace Go.Px
open Go.RowKit
def ir_kd_shape : IR :=
 .prim (.make 1) [.var 1, .var 1, .bol false] <|
 .prim (.make 8) [.var 1, .var 1, .int .i64 (0)] <|
 .prim .len [.var 0] <|
 .loop [.var 1, .var 0, .var 4, .int .i64 (0), .var 2, .var 3] (
  .prim (.bin .lss) [.var 3, .var 2] <|
  .ite (.var 6) (
   .prim (.inb 4) [.var 1, .var 3] <|
   .prim (.get 4 0) [.var 1, .var 3] <|
   .prim (.get 4 1) [.var 1, .var 3] <|
   .prim (.get 4 2) [.var 1, .var 3] <|
   .prim (.get 4 3) [.var 1, .var 3] <|
   .prim (.bin .lss) [.var 8, .int .i64 (0)] <|
   .ite (.var 12) (
    .ret [.one (.bol false)]) (
    .prim (.bin .geq) [.var 8, .var 0] <|
    .ite (.var 13) (
     .ret [.one (.bol false)]) (
     .prim (.inb 1) [.var 4, .var 8] <|
     .prim (.get 1 0) [.var 4, .var 8] <|
     .ite (.var 15) (
      .ret [.one (.bol false)]) (
      .prim (.bin .lss) [.var 9, .int .i64 (0)] <|
      .ite (.var 16) (
       .ret [.one (.bol false)]) (
       .prim (.bin .gtr) [.var 9, .int .i64 (2)] <|
       .ite (.var 17) (
        .ret [.one (.bol false)]) (
        .prim (.inb 1) [.var 4, .var 8] <|
        .prim (.setl 1 0) [.var 4, .var 8, .bol true] <|
        .prim (.bin .eql) [.var 10, .int .i64 (-1)] <|
        .ite (.var 20) (
         .prim (.bin .eql) [.var 11, .int .i64 (-1)] <|
         .ite (.var 21) (
          .prim (.bin .add) [.var 3, .int .i64 (1)] <|
          .jump 0 [.var 0, .var 1, .var 2, .var 22, .var 19, .var 5]) (
          .prim (.bin .leq) [.var 11, .var 3] <|
          .ite (.var 22) (
           .ret [.one (.bol false)]) (
           .prim (.bin .geq) [.var 11, .var 0] <|
           .ite (.var 23) (
            .ret [.one (.bol false)]) (
            .prim (.inb 1) [.var 5, .var 11] <|
            .prim (.get 1 0) [.var 5, .var 11] <|
            .prim (.bin .add) [.var 25, .int .i64 (1)] <|
            .prim (.inb 1) [.var 5, .var 11] <|
            .prim (.setl 1 0) [.var 5, .var 11, .var 26] <|
            .prim (.bin .add) [.var 3, .int .i64 (1)] <|
            .jump 0 [.var 0, .var 1, .var 2, .var 29, .var 19, .var 28])))) (
         .prim (.bin .leq) [.var 10, .var 3] <|
         .ite (.var 21) (
          .ret [.one (.bol false)]) (
          .prim (.bin .geq) [.var 10, .var 0] <|
          .ite (.var 22) (
           .ret [.one (.bol false)]) (
           .prim (.inb 1) [.var 5, .var 10] <|
           .prim (.get 1 0) [.var 5, .var 10] <|
           .prim (.bin .add) [.var 24, .int .i64 (1)] <|
           .prim (.inb 1) [.var 5, .var 10] <|
           .prim (.setl 1 0) [.var 5, .var 10, .var 25] <|
           .prim (.bin .eql) [.var 11, .int .i64 (-1)] <|
           .ite (.var 28) (
            .prim (.bin .add) [.var 3, .int .i64 (1)] <|
            .jump 0 [.var 0, .var 1, .var 2, .var 29, .var 19, .var 27]) (
            .prim (.bin .leq) [.var 11, .var 3] <|
            .ite (.var 29) (
             .ret [.one (.bol false)]) (
             .prim (.bin .geq) [.var 11, .var 0] <|
             .ite (.var 30) (
              .ret [.one (.bol false)]) (
              .prim (.inb 1) [.var 27, .var 11] <|
              .prim (.get 1 0) [.var 27, .var 11] <|
              .prim (.bin .add) [.var 32, .int .i64 (1)] <|
              .prim (.inb 1) [.var 27, .var 11] <|
              .prim (.setl 1 0) [.var 27, .var 11, .var 33] <|
              .prim (.bin .add) [.var 3, .int .i64 (1)] <|
              .jump 0 [.var 0, .var 1, .var 2, .var 36, .var 19, .var 35])))))))))))) (
   .prim .len [.var 5] <|
   .loop [.var 7, .int .i64 (0), .var 5] (
    .prim (.bin .lss) [.var 1, .var 0] <|
    .ite (.var 3) (
     .prim (.inb 1) [.var 2, .var 1] <|
     .prim (.get 1 0) [.var 2, .var 1] <|
     .prim (.bin .gtr) [.var 1, .int .i64 (0)] <|
     .ite (.var 6) (
      .prim (.bin .neq) [.var 5, .int .i64 (1)] <|
      .ite (.var 7) (
       .ret [.one (.bol false)]) (
       .prim (.bin .add) [.var 1, .int .i64 (1)] <|
       .jump 1 [.var 0, .var 8, .var 2])) (
      .prim (.bin .add) [.var 1, .int .i64 (1)] <|
      .jump 1 [.var 0, .var 7, .var 2])) (
     .ret [.one (.bol true)]))))

def ir_kd_parted : IR :=
 .prim (.bin .eql) [.var 2, .int .i64 (-1)] <|
 .ite (.var 8) (
  .ret [.one (.bol true)]) (
  .prim (.inb 4) [.var 0, .var 2] <|
  .prim (.get 4 0) [.var 0, .var 2] <|
  .prim (.get 4 1) [.var 0, .var 2] <|
  .prim (.get 4 2) [.var 0, .var 2] <|
  .prim (.get 4 3) [.var 0, .var 2] <|
  .prim (.inb 9) [.var 1, .var 10] <|
  .prim (.get 9 0) [.var 1, .var 10] <|
  .prim (.get 9 1) [.var 1, .var 10] <|
  .prim (.get 9 2) [.var 1, .var 10] <|
  .prim (.get 9 3) [.var 1, .var 10] <|
  .prim (.get 9 4) [.var 1, .var 10] <|
  .prim (.get 9 5) [.var 1, .var 10] <|
  .prim (.get 9 6) [.var 1, .var 10] <|
  .prim (.get 9 7) [.var 1, .var 10] <|
  .prim (.get 9 8) [.var 1, .var 10] <|
  .call F.kd_axis [.agg [.var 15, .var 16, .var 17, .var 18, .var 19, .var 20, .var 21, .var 22, .var 23], .one (.var 3)] [.agg 3] <|
  .call F.rat_Cmp [.agg [.var 24, .var 25, .var 26], .agg [.var 5, .var 6, .var 7]] [.one] <|
  .prim (.bin .mul) [.var 27, .var 4] <|
  .prim (.bin .geq) [.var 28, .int .i64 (0)] <|
  .ite (.var 29) (
   .call F.kd_parted [.agg [.var 0], .one (.var 1), .one (.var 12), .one (.var 3), .one (.var 4), .agg [.var 5, .var 6, .var 7]] [.one] <|
   .ite (.var 30) (
    .call F.kd_parted [.agg [.var 0], .one (.var 1), .one (.var 13), .one (.var 3), .one (.var 4), .agg [.var 5, .var 6, .var 7]] [.one] <|
    .ret [.one (.var 31)]) (
    .ret [.one (.bol false)])) (
   .ret [.one (.bol false)]))

def ir_kd_Check : IR :=
 .prim .len [.var 1] <|
 .prim (.bin .gtr) [.var 2, .int .i64 (1000)] <|
 .ite (.var 3) (
  .ret [.one (.bol false)]) (
  .prim .len [.var 0] <|
  .prim .len [.var 1] <|
  .prim (.bin .neq) [.var 4, .var 5] <|
  .ite (.var 6) (
   .ret [.one (.bol false)]) (
   .prim .len [.var 1] <|
   .call F.kd_shape [.agg [.var 0], .one (.var 7)] [.one] <|
   .prim .not [.var 8] <|
   .ite (.var 9) (
    .ret [.one (.bol false)]) (
    .prim .len [.var 0] <|
    .loop [.var 1, .var 0, .var 10, .int .i64 (0)] (
     .prim (.bin .lss) [.var 3, .var 2] <|
     .ite (.var 4) (
      .prim (.inb 4) [.var 1, .var 3] <|
      .prim (.get 4 0) [.var 1, .var 3] <|
      .prim (.get 4 1) [.var 1, .var 3] <|
      .prim (.get 4 2) [.var 1, .var 3] <|
      .prim (.get 4 3) [.var 1, .var 3] <|
      .prim (.inb 9) [.var 0, .var 6] <|
      .prim (.get 9 0) [.var 0, .var 6] <|
      .prim (.get 9 1) [.var 0, .var 6] <|
      .prim (.get 9 2) [.var 0, .var 6] <|
      .prim (.get 9 3) [.var 0, .var 6] <|
      .prim (.get 9 4) [.var 0, .var 6] <|
      .prim (.get 9 5) [.var 0, .var 6] <|
      .prim (.get 9 6) [.var 0, .var 6] <|
      .prim (.get 9 7) [.var 0, .var 6] <|
      .prim (.get 9 8) [.var 0, .var 6] <|
      .call F.kd_axis [.agg [.var 11, .var 12, .var 13, .var 14, .var 15, .var 16, .var 17, .var 18, .var 19], .one (.var 7)] [.agg 3] <|
      .call F.kd_parted [.agg [.var 1], .one (.var 0), .one (.var 8), .one (.var 7), .one (.int .i64 (-1)), .agg [.var 20, .var 21, .var 22]] [.one] <|
      .prim .not [.var 23] <|
      .ite (.var 24) (
       .ret [.one (.bol false)]) (
       .call F.kd_parted [.agg [.var 1], .one (.var 0), .one (.var 9), .one (.var 7), .one (.int .i64 (1)), .agg [.var 20, .var 21, .var 22]] [.one] <|
       .prim .not [.var 25] <|
       .ite (.var 26) (
        .ret [.one (.bol false)]) (
        .prim (.bin .add) [.var 3, .int .i64 (1)] <|
        .jump 0 [.var 0, .var 1, .var 2, .var 27]))) (
      .ret [.one (.bol true)])))))

def ir_kd_Depth : IR :=
 .prim .len [.var 0] <|
 .prim (.make 8) [.var 1, .var 1, .int .i64 (0)] <|
 .prim .len [.var 0] <|
 .loop [.int .i64 (0), .var 0, .var 3, .int .i64 (0), .var 2] (
  .prim (.bin .lss) [.var 3, .var 2] <|
  .ite (.var 5) (
   .prim (.inb 4) [.var 1, .var 3] <|
   .prim (.get 4 0) [.var 1, .var 3] <|
   .prim (.get 4 1) [.var 1, .var 3] <|
   .prim (.get 4 2) [.var 1, .var 3] <|
   .prim (.get 4 3) [.var 1, .var 3] <|
   .prim (.inb 1) [.var 4, .var 3] <|
   .prim (.get 1 0) [.var 4, .var 3] <|
   .prim (.bin .add) [.var 12, .int .i64 (1)] <|
   .prim (.inb 1) [.var 4, .var 3] <|
   .prim (.setl 1 0) [.var 4, .var 3, .var 13] <|
   .prim (.inb 1) [.var 15, .var 3] <|
   .prim (.get 1 0) [.var 15, .var 3] <|
   .prim .max2 [.var 0, .var 17] <|
   .prim (.bin .gtr) [.var 9, .var 3] <|
   .ite (.var 19) (
    .prim .len [.var 15] <|
    .prim (.bin .lss) [.var 9, .var 20] <|
    .ite (.var 21) (
     .prim (.inb 1) [.var 15, .var 3] <|
     .prim (.get 1 0) [.var 15, .var 3] <|
     .prim (.inb 1) [.var 15, .var 9] <|
     .prim (.setl 1 0) [.var 15, .var 9, .var 23] <|
     .prim (.bin .gtr) [.var 10, .var 3] <|
     .ite (.var 26) (
      .prim .len [.var 25] <|
      .prim (.bin .lss) [.var 10, .var 27] <|
      .ite (.var 28) (
       .prim (.inb 1) [.var 25, .var 3] <|
       .prim (.get 1 0) [.var 25, .var 3] <|
       .prim (.inb 1) [.var 25, .var 10] <|
       .prim (.setl 1 0) [.var 25, .var 10, .var 30] <|
       .prim (.bin .add) [.var 3, .int .i64 (1)] <|
       .jump 0 [.var 18, .var 1, .var 2, .var 33, .var 32]) (
       .prim (.bin .add) [.var 3, .int .i64 (1)] <|
       .jump 0 [.var 18, .var 1, .var 2, .var 29, .var 25])) (
      .prim (.bin .add) [.var 3, .int .i64 (1)] <|
      .jump 0 [.var 18, .var 1, .var 2, .var 27, .var 25])) (
     .prim (.bin .gtr) [.var 10, .var 3] <|
     .ite (.var 22) (
      .prim .len [.var 15] <|
      .prim (.bin .lss) [.var 10, .var 23] <|
      .ite (.var 24) (
       .prim (.inb 1) [.var 15, .var 3] <|
       .prim (.get 1 0) [.var 15, .var 3] <|
       .prim (.inb 1) [.var 15, .var 10] <|
       .prim (.setl 1 0) [.var 15, .var 10, .var 26] <|
       .prim (.bin .add) [.var 3, .int .i64 (1)] <|
       .jump 0 [.var 18, .var 1, .var 2, .var 29, .var 28]) (
       .prim (.bin .add) [.var 3, .int .i64 (1)] <|
       .jump 0 [.var 18, .var 1, .var 2, .var 25, .var 15])) (
      .prim (.bin .add) [.var 3, .int .i64 (1)] <|
      .jump 0 [.var 18, .var 1, .var 2, .var 23, .var 15]))) (
    .prim (.bin .gtr) [.var 10, .var 3] <|
    .ite (.var 20) (
     .prim .len [.var 15] <|
     .prim (.bin .lss) [.var 10, .var 21] <|
     .ite (.var 22) (
      .prim (.inb 1) [.var 15, .var 3] <|
      .prim (.get 1 0) [.var 15, .var 3] <|
      .prim (.inb 1) [.var 15, .var 10] <|
      .prim (.setl 1 0) [.var 15, .var 10, .var 24] <|
      .prim (.bin .add) [.var 3, .int .i64 (1)] <|
      .jump 0 [.var 18, .var 1, .var 2, .var 27, .var 26]) (
      .prim (.bin .add) [.var 3, .int .i64 (1)] <|
      .jump 0 [.var 18, .var 1, .var 2, .var 23, .var 15])) (
     .prim (.bin .add) [.var 3, .int .i64 (1)] <|
     .jump 0 [.var 18, .var 1, .var 2, .var 21, .var 15]))) (
   .ret [.one (.var 0)]))

theorem tree_kd_shape : symFunc Go.Proofs.Tryz.prog ⟨fun f => [28].contains f, fun f i => if f = 21 ∧ i = 3 then [⟨[(1, .s (.one (.at (.var 0)))), (5, .s (.one (.own 0))), (6, .s (.one (.own 1))), (18, .s (.one (.at (.var 1)))), (19, .s (.one (.at (.var 2)))), (20, .s (.one (.at (.var 3))))], [], [(0, .own (.var 4) 1 4), (1, .own (.var 5) 1 3)], 2, 6⟩] else if f = 21 ∧ i = 18 then [⟨[(81, .s (.one (.own 0))), (82, .s (.one (.at (.var 0)))), (83, .s (.one (.at (.var 1))))], [], [(0, .own (.var 2) 1 3)], 1, 3⟩] else [], fun f i => [], fun f => [33].contains f, fun f => if f = 14 then some ([.row 4 63, .pl], [.row 1 3, .pl], 1) else if f = 17 then some ([.pl, .pl, .pl, .pl, .pl, .pl, .pl, .pl, .pl, .pl, .pl, .pl, .row 4 59, .row 1 4, .row 1 4], [.pl], 0) else if f = 49 then some ([.pl, .pl, .pl, .pl, .pl, .pl, .pl, .pl, .pl, .pl, .pl, .pl, .row 4 59, .row 1 4, .row 1 4], [], 0) else if f = 50 then some ([.pl, .pl, .pl, .pl, .pl, .pl, .pl, .pl, .pl, .pl, .pl, .pl, .row 4 59, .row 1 4, .row 1 4], [], 0) else none⟩ 400 F.kd_shape [.agg 1, .one] = some ir_kd_shape := by kernel_rfl
theorem tree_kd_parted : symFunc Go.Proofs.Tryz.prog ⟨fun f => [28].contains f, fun f i => [], fun f i => [], fun f => [33].contains f, fun f => if f = 14 then some ([.row 4 63, .pl], [.row 1 3, .pl], 1) else if f = 17 then some ([.pl, .pl, .pl, .pl, .pl, .pl, .pl, .pl, .pl, .pl, .pl, .pl, .row 4 59, .row 1 4, .row 1 4], [.pl], 0) else if f = 49 then some ([.pl, .pl, .pl, .pl, .pl, .pl, .pl, .pl, .pl, .pl, .pl, .pl, .row 4 59, .row 1 4, .row 1 4], [], 0) else if f = 50 then some ([.pl, .pl, .pl, .pl, .pl, .pl, .pl, .pl, .pl, .pl, .pl, .pl, .row 4 59, .row 1 4, .row 1 4], [], 0) else none⟩ 400 F.kd_parted [.agg 1, .one, .one, .one, .one, .agg 3] = some ir_kd_parted := by kernel_rfl
theorem tree_kd_Check : symFunc Go.Proofs.Tryz.prog ⟨fun f => [28].contains f, fun f i => if f = 11 ∧ i = 4 then [⟨[(1, .s (.one (.at (.var 0)))), (2, .s (.one (.lp 0 0))), (27, .s (.one (.at (.var 1)))), (28, .s (.one (.at (.var 2)))), (29, .s (.one (.at (.var 3))))], [], [(0, .box [.at (.var 1)] 31 false)], 1, 4⟩] else [], fun f i => [], fun f => [33].contains f, fun f => if f = 14 then some ([.row 4 63, .pl], [.row 1 3, .pl], 1) else if f = 17 then some ([.pl, .pl, .pl, .pl, .pl, .pl, .pl, .pl, .pl, .pl, .pl, .pl, .row 4 59, .row 1 4, .row 1 4], [.pl], 0) else if f = 49 then some ([.pl, .pl, .pl, .pl, .pl, .pl, .pl, .pl, .pl, .pl, .pl, .pl, .row 4 59, .row 1 4, .row 1 4], [], 0) else if f = 50 then some ([.pl, .pl, .pl, .pl, .pl, .pl, .pl, .pl, .pl, .pl, .pl, .pl, .row 4 59, .row 1 4, .row 1 4], [], 0) else none⟩ 400 F.kd_Check [.agg 1, .one] = some ir_kd_Check := by kernel_rfl
theorem tree_kd_Depth : symFunc Go.Proofs.Tryz.prog ⟨fun f => [28].contains f, fun f i => if f = 13 ∧ i = 4 then [⟨[(3, .s (.one (.own 0))), (4, .s (.one (.at (.var 0)))), (14, .s (.one (.at (.var 1)))), (15, .s (.one (.at (.var 2)))), (16, .s (.one (.at (.var 3))))], [], [(0, .own (.var 4) 1 3)], 1, 5⟩] else [], fun f i => [], fun f => [33].contains f, fun f => if f = 14 then some ([.row 4 63, .pl], [.row 1 3, .pl], 1) else if f = 17 then some ([.pl, .pl, .pl, .pl, .pl, .pl, .pl, .pl, .pl, .pl, .pl, .pl, .row 4 59, .row 1 4, .row 1 4], [.pl], 0) else if f = 49 then some ([.pl, .pl, .pl, .pl, .pl, .pl, .pl, .pl, .pl, .pl, .pl, .pl, .row 4 59, .row 1 4, .row 1 4], [], 0) else if f = 50 then some ([.pl, .pl, .pl, .pl, .pl, .pl, .pl, .pl, .pl, .pl, .pl, .pl, .row 4 59, .row 1 4, .row 1 4], [], 0) else none⟩ 400 F.kd_Depth [.agg 1] = some ir_kd_Depth := by kernel_rfl
end Go.Px
namespace Go.Px.Na
open Go.RowKit
open Go.Proofs.Tryz (prog)
/-! ### Truths -/
/-- A truth. -/
noncomputable def tb (p : Prop) : Bool := @decide p (Classical.propDecidable p)
theorem tb_iff {p : Prop} : tb p = true ↔ p := by unfold tb; exact @decide_eq_true_iff p (Classical.propDecidable p)
theorem tbT {p : Prop} (h : p) : tb p = true := tb_iff.2 h
theorem tbF {p : Prop} (h : ¬p) : tb p = false := by
  cases hb : tb p with
  | false => rfl
  | true => exact absurd (tb_iff.1 hb) h
theorem tb_eq {p q : Prop} (h : p ↔ q) : tb p = tb q := by rw [propext h]

/-! ### Rows of truths -/
def bl (bs : List Bool) : DV := .list bs.length (bs.map DV.bool)
theorem bl_inb {bs : List Bool} {k : IntKind} {i : Int} (h0 : 0 ≤ i) (h : i < bs.length) : Prim.den (.inb 1) [bl bs, .int k i] = some (.bool true) := by
  simp only [bl, Prim.den]
  rw [if_pos ⟨h0, h, by simp; omega⟩]
theorem bl_get {bs : List Bool} {k : IntKind} {i : Int} (h0 : 0 ≤ i) (h : i < bs.length) : Prim.den (.get 1 0) [bl bs, .int k i] = some (.bool (bs.getD i.toNat false)) := by
  simp only [bl, Prim.den]
  rw [if_pos ⟨h0, h⟩]
  have : i.toNat < bs.length := by omega
  simp [List.getD_eq_getElem?_getD, List.getElem?_eq_getElem this]
theorem bl_set {bs : List Bool} {k : IntKind} {i : Int} {x : Bool} (h0 : 0 ≤ i) (h : i < bs.length) : Prim.den (.setl 1 0) [bl bs, .int k i, .bool x] = some (bl (bs.set i.toNat x)) := by
  have hc : 0 ≤ i ∧ i < (bs.length : Int) ∧ i.toNat * 1 + 0 + [DV.bool x].length ≤ (bs.map DV.bool).length := ⟨h0, h, by simp; omega⟩
  simp only [bl, Prim.den]
  rw [if_pos hc]
  simp [setAt, List.map_set]
theorem bl_make (m : Nat) (h : m ≤ 100000000) : Prim.den (.make 1) [.int .i64 (m : Int), .int .i64 (m : Int), .bool false] = some (bl (List.replicate m false)) := by
  simp only [Prim.den]
  rw [if_pos ⟨by omega, by omega, by omega⟩]
  simp only [bl, List.length_replicate, List.map_replicate, Int.toNat_natCast, List.length_cons, List.length_nil, Nat.zero_add, Nat.mul_one, Nat.mod_one, Option.some.injEq, DV.list.injEq, true_and]
  refine List.ext_getElem? fun j => ?_
  rw [List.getElem?_map, List.getElem?_replicate]
  by_cases hj : j < m <;> simp [hj]
theorem il_make (m : Nat) (h : m ≤ 100000000) : Prim.den (.make 8) [.int .i64 (m : Int), .int .i64 (m : Int), .int .i64 0] = some (il (List.replicate m 0)) := by
  simp only [Prim.den]
  rw [if_pos ⟨by omega, by omega, by omega⟩]
  simp only [il, List.length_replicate, List.map_replicate, Int.toNat_natCast, List.length_cons, List.length_nil, Nat.zero_add, Nat.mul_one, Nat.mod_one, Option.some.injEq, DV.list.injEq, true_and]
  refine List.ext_getElem? fun j => ?_
  rw [List.getElem?_map, List.getElem?_replicate]
  by_cases hj : j < m <;> simp [hj]

/-! ### Counts -/
/-- How often each number below m stands in a list. -/
def cts (l : List Int) (m : Nat) : List Int := (List.range m).map fun (c : Nat) => ((l.count (c : Int) : Nat) : Int)
theorem cts_len {l : List Int} {m : Nat} : (cts l m).length = m := by simp [cts]
theorem cts_get {l : List Int} {m i : Nat} (h : i < m) : (cts l m).getD i 0 = ((l.count (i : Int) : Nat) : Int) := by
  simp [cts, List.getD_eq_getElem?_getD, h]
theorem cts_nil {m : Nat} : cts [] m = List.replicate m 0 := by
  refine List.ext_getElem? fun j => ?_
  rw [cts, List.getElem?_map, List.getElem?_replicate]
  by_cases hj : j < m <;> simp [hj]
theorem cts_add {l : List Int} {m : Nat} {k : Int} (h0 : 0 ≤ k) (h1 : k < m) : (cts l m).set k.toNat ((cts l m).getD k.toNat 0 + 1) = cts (l ++ [k]) m := by
  refine List.ext_getElem? fun j => ?_
  rw [List.getElem?_set, cts_get (by omega)]
  by_cases hj : k.toNat = j
  · rw [if_pos hj, if_pos (by rw [cts_len]; omega)]
    have hjm : j < m := by omega
    simp only [cts, List.getElem?_map, List.getElem?_range hjm, Option.map_some, Option.some.injEq, List.count_append]
    rw [hj, show (k : Int) = (j : Int) by omega]
    simp
  · rw [if_neg hj]
    simp only [cts, List.getElem?_map]
    by_cases hjm : j < m
    · simp only [List.getElem?_range hjm, Option.map_some, Option.some.injEq, List.count_append]
      have : ¬ k = (j : Int) := by omega
      simp [List.count_cons, this]
    · rw [List.getElem?_eq_none (by simpa using hjm)]; rfl
theorem cts_out {l : List Int} {m : Nat} {k : Int} (h0 : k < 0) : cts (l ++ [k]) m = cts l m := by
  refine List.ext_getElem? fun j => ?_
  simp only [cts, List.getElem?_map]
  by_cases hjm : j < m
  · simp only [List.getElem?_range hjm, Option.map_some, Option.some.injEq, List.count_append]
    have : ¬ k = (j : Int) := by omega
    simp [List.count_cons, this]
  · rw [List.getElem?_eq_none (by simpa using hjm)]; rfl
/-- Which numbers below m stand in a list. -/
def mrk (l : List Int) (m : Nat) : List Bool := (List.range m).map fun (c : Nat) => decide ((c : Int) ∈ l)
theorem mrk_len {l : List Int} {m : Nat} : (mrk l m).length = m := by simp [mrk]
theorem mrk_get {l : List Int} {m i : Nat} (h : i < m) : (mrk l m).getD i false = decide ((i : Int) ∈ l) := by
  simp [mrk, List.getD_eq_getElem?_getD, h]
theorem mrk_nil {m : Nat} : mrk [] m = List.replicate m false := by
  refine List.ext_getElem? fun j => ?_
  rw [mrk, List.getElem?_map, List.getElem?_replicate]
  by_cases hj : j < m <;> simp [hj]
theorem mrk_add {l : List Int} {m : Nat} {k : Int} (h0 : 0 ≤ k) (h1 : k < m) : (mrk l m).set k.toNat true = mrk (l ++ [k]) m := by
  refine List.ext_getElem? fun j => ?_
  rw [List.getElem?_set]
  by_cases hj : k.toNat = j
  · rw [if_pos hj, if_pos (by rw [mrk_len]; omega)]
    have hjm : j < m := by omega
    simp only [mrk, List.getElem?_map, List.getElem?_range hjm, Option.map_some, Option.some.injEq]
    rw [decide_eq_true (by rw [show k = (j : Int) by omega]; simp)]
  · rw [if_neg hj]
    simp only [mrk, List.getElem?_map]
    by_cases hjm : j < m
    · simp only [List.getElem?_range hjm, Option.map_some, Option.some.injEq]
      have : ¬ (j : Int) = k := by omega
      simp [this]
    · rw [List.getElem?_eq_none (by simpa using hjm)]; rfl

/-! ### Which trees fit -/
def KOwn (n : KN) (i : Nat) (m : Nat) : Prop := (0 ≤ n.pt ∧ n.pt < m) ∧ (0 ≤ n.ax ∧ n.ax ≤ 2) ∧ (n.lf = -1 ∨ (i : Int) < n.lf ∧ n.lf < m) ∧ (n.rt = -1 ∨ (i : Int) < n.rt ∧ n.rt < m)
instance (n : KN) (i m : Nat) : Decidable (KOwn n i m) := inferInstanceAs (Decidable (_ ∧ _ ∧ _ ∧ _))
def kids (ns : List KN) : List Int := ns.flatMap fun n => [n.lf, n.rt]
def Shp (ns : List KN) (m : Nat) : Prop := (∀ i n, ns[i]? = some n → KOwn n i m) ∧ (ns.map KN.pt).Nodup ∧ ∀ c : Nat, 0 < c → c < m → (kids ns).count (c : Int) = 1

theorem tk1 {α : Type} {ns : List α} {i : Nat} {n : α} (h : ns[i]? = some n) : ns.take (i + 1) = ns.take i ++ [n] := by
  rw [List.take_add_one, h]; rfl
theorem kids_app (a : List KN) (n : KN) : kids (a ++ [n]) = kids a ++ [n.lf] ++ [n.rt] := by simp [kids]
theorem nd_take {ns : List KN} {i : Nat} {n : KN} (h : ns[i]? = some n) (hn : (ns.map KN.pt).Nodup) : n.pt ∉ (ns.take i).map KN.pt := by
  have h2 : ((ns.take (i + 1)).map KN.pt).Nodup := by
    rw [List.map_take]; exact List.Nodup.sublist (List.take_sublist _ _) hn
  rw [tk1 h, List.map_append, List.nodup_append] at h2
  intro hm
  exact h2.2.2 _ hm _ (by simp) rfl
theorem nd_app {l : List Int} {k : Int} (h : l.Nodup) (hk : k ∉ l) : (l ++ [k]).Nodup := by
  rw [List.nodup_append]
  refine ⟨h, by simp, fun a ha b hb e => ?_⟩
  simp at hb
  subst hb; subst e; exact hk ha

theorem f_shape {ns : List KN} {m : Nat} (hlen : ns.length = m) (hm : m ≤ 1000) : PureCalls prog F.kd_shape [.agg [kl ns], .one (.int .i64 (m : Int))] [.one (.bool (tb (Shp ns m)))] := by
  refine symFunc_sound hmix tree_kd_shape (by kernel_rfl) rfl ?_
  unfold ir_kd_shape
  try simp only [HH, gW, gD, V3.l, M4.l, Fr.l, Sp.l, RV.l, RM.l, RF.l, RS.l]
  refine primS (bl (mrk [] m)) (by rw [mrk_nil]; exact bl_make m (by omega)) ?_
  refine primS (il (cts [] m)) (by rw [cts_nil]; exact il_make m (by omega)) ?_
  refine primS (.int .i64 (ns.length : Int)) rfl ?_
  try simp only [List.cons_append, List.nil_append]
  refine loop_st (fun i : Nat => [.int .i64 (m : Int), kl ns, .int .i64 (ns.length : Int), .int .i64 (i : Int), bl (mrk ((ns.take i).map KN.pt) m), il (cts (kids (ns.take i)) m)])
    (fun i => i ≤ m ∧ (∀ j n, j < i → ns[j]? = some n → KOwn n j m) ∧ ((ns.take i).map KN.pt).Nodup) (fun i => m - i) 0 ⟨Nat.zero_le _, fun j n hj => absurd hj (Nat.not_lt_zero _), by simp⟩ rfl (fun _ => rfl) fun i hi X hX => ?_
  obtain ⟨hi, hown, hnd⟩ := hi
  by_cases hlt : i < m
  · refine primS (.bool true) (d_lss.trans (by rw [decide_eq_true (by omega)])) ?_
    refine itT rfl ?_
    obtain ⟨n, hn⟩ : ∃ n, ns[i]? = some n := ⟨_, List.getElem?_eq_getElem (by omega)⟩
    refine primS (.bool true) (kl_inb (by omega) (by omega)) ?_
    refine get_kn hn (fun _ => rfl) (fun _ => rfl) ?_
    simp only [KN.l, List.cons_append, List.nil_append]
    have hj : KOwn n i m → n.pt ∉ (ns.take i).map KN.pt → X [.int .i64 (m : Int), kl ns, .int .i64 (ns.length : Int), .int .i64 ((i + 1 : Nat) : Int), bl (mrk ((ns.take i).map KN.pt ++ [n.pt]) m), il (cts (kids (ns.take i) ++ [n.lf] ++ [n.rt]) m)] := fun ho hp => by
      have := hX (i + 1) ⟨by omega, fun j n' hj hn' => by
        rcases Nat.lt_or_ge j i with h1 | h1
        · exact hown j n' h1 hn'
        · obtain rfl : j = i := by omega
          rw [hn] at hn'; cases hn'; exact ho, by rw [tk1 hn, List.map_append]; exact nd_app hnd hp⟩ (by omega)
      rw [tk1 hn, List.map_append, kids_app] at this
      exact this
    have hbad : ∀ {P : Prop}, (KOwn n i m → n.pt ∉ (ns.take i).map KN.pt → P) → ¬P → tb (Shp ns m) = false := fun h1 h2 => tbF fun h => h2 (h1 (h.1 i n hn) (nd_take hn h.2.1))
    refine primS (.bool (decide _)) d_lss ?_
    refine itD rfl (fun c1 => ?_) (fun c1 => ?_)
    · exact ret_step (by rw [hbad (P := ¬n.pt < 0) (fun h _ => by have := h.1; omega) (fun h => h c1)]; rfl)
    refine primS (.bool (decide _)) d_geq ?_
    refine itD rfl (fun c2 => ?_) (fun c2 => ?_)
    · exact ret_step (by rw [hbad (P := ¬n.pt ≥ (m : Int)) (fun h _ => by have := h.1; omega) (fun h => h c2)]; rfl)
    refine primS (.bool true) (bl_inb (by omega) (by rw [mrk_len]; omega)) ?_
    refine primS (.bool (decide (n.pt ∈ (ns.take i).map KN.pt))) ((bl_get (by omega) (by rw [mrk_len]; omega)).trans (by rw [mrk_get (by omega), Int.toNat_of_nonneg (by omega)])) ?_
    refine itD rfl (fun c3 => ?_) (fun c3 => ?_)
    · exact ret_step (by rw [hbad (P := n.pt ∉ (ns.take i).map KN.pt) (fun _ h => h) (fun h => h c3)]; rfl)
    refine primS (.bool (decide _)) d_lss ?_
    refine itD rfl (fun c4 => ?_) (fun c4 => ?_)
    · exact ret_step (by rw [hbad (P := ¬n.ax < 0) (fun h _ => by have := h.2.1; omega) (fun h => h c4)]; rfl)
    refine primS (.bool (decide _)) d_gtr ?_
    refine itD rfl (fun c5 => ?_) (fun c5 => ?_)
    · exact ret_step (by rw [hbad (P := ¬n.ax > 2) (fun h _ => by have := h.2.1; omega) (fun h => h c5)]; rfl)
    refine primS (.bool true) (bl_inb (by omega) (by rw [mrk_len]; omega)) ?_
    refine primS (bl (mrk ((ns.take i).map KN.pt ++ [n.pt]) m)) ((bl_set (by omega) (by rw [mrk_len]; omega)).trans (by rw [mrk_add (by omega) (by omega)])) ?_
    have eo : ∀ {l : List Int} {k : Int}, k = -1 → cts (l ++ [k]) m = cts l m := fun h => cts_out (by omega)
    have bnd : ∀ (l : List Int) (k : Int), 0 ≤ k → k < m → l.length ≤ 4000 → Prim.den (.bin .add) [.int .i64 ((cts l m).getD k.toNat 0), .int .i64 1] = some (.int .i64 ((cts l m).getD k.toNat 0 + 1)) := fun l k h0 h1 hl => by
      have h2 : l.count ((k.toNat : Nat) : Int) ≤ l.length := List.count_le_length
      exact d_add64 (by rw [cts_get (by omega)]; omega) (by rw [cts_get (by omega)]; omega)
    have hkl : (kids (ns.take i)).length ≤ 2000 := by
      have : (kids (ns.take i)).length = (ns.take i).length * 2 := by
        unfold kids
        generalize ns.take i = q
        induction q with
        | nil => rfl
        | cons a r ih => simp only [List.flatMap_cons, List.length_append, List.length_cons, List.length_nil, ih]; omega
      rw [this, List.length_take]; omega
    refine primS (.bool (decide _)) d_eql ?_
    try simp only [List.cons_append, List.nil_append]
    refine itD rfl (fun e1 => ?_) (fun e1 => ?_)
    · refine primS (.bool (decide _)) d_eql ?_
      refine itD rfl (fun e2 => ?_) (fun e2 => ?_)
      · refine primS (.int .i64 ((i + 1 : Nat) : Int)) ((d_add64 (by omega) (by omega)).trans (by simp)) ?_
        have := hj ⟨by omega, by omega, .inl e1, .inl e2⟩ c3
        rw [eo e2, eo e1] at this
        exact jump_step rfl this
      · refine primS (.bool (decide _)) d_leq ?_
        refine itD rfl (fun e3 => ?_) (fun e3 => ?_)
        · exact ret_step (by rw [hbad (P := ¬n.rt ≤ (i : Int)) (fun h _ => by have := h.2.2.2; omega) (fun h => h e3)]; rfl)
        refine primS (.bool (decide _)) d_geq ?_
        refine itD rfl (fun e4 => ?_) (fun e4 => ?_)
        · exact ret_step (by rw [hbad (P := ¬n.rt ≥ (m : Int)) (fun h _ => by have := h.2.2.2; omega) (fun h => h e4)]; rfl)
        refine primS (.bool true) (il_inb (by omega) (by rw [cts_len]; omega)) ?_
        refine primS (.int .i64 ((cts (kids (ns.take i)) m).getD n.rt.toNat 0)) (il_get (by omega) (by rw [cts_len]; omega)) ?_
        refine primS (.int .i64 ((cts (kids (ns.take i)) m).getD n.rt.toNat 0 + 1)) (bnd (kids (ns.take i)) n.rt (by omega) (by omega) (by omega)) ?_
        try simp only [List.cons_append, List.nil_append]
        refine primS (.bool true) (il_inb (by omega) (by rw [cts_len]; omega)) ?_
        refine primS (il (cts (kids (ns.take i) ++ [n.rt]) m)) ((il_set (by omega) (by rw [cts_len]; omega)).trans (by rw [cts_add (by omega) (by omega)])) ?_
        refine primS (.int .i64 ((i + 1 : Nat) : Int)) ((d_add64 (by omega) (by omega)).trans (by simp)) ?_
        try simp only [List.cons_append, List.nil_append]
        have := hj ⟨by omega, by omega, .inl e1, .inr (by omega)⟩ c3
        rw [show cts (kids (ns.take i) ++ [n.lf] ++ [n.rt]) m = cts (kids (ns.take i) ++ [n.rt]) m by rw [← cts_add (l := kids (ns.take i) ++ [n.lf]) (by omega) (by omega), eo e1, cts_add (by omega) (by omega)]] at this
        exact jump_step rfl this
    · refine primS (.bool (decide _)) d_leq ?_
      refine itD rfl (fun e3 => ?_) (fun e3 => ?_)
      · exact ret_step (by rw [hbad (P := ¬n.lf ≤ (i : Int)) (fun h _ => by have := h.2.2.1; omega) (fun h => h e3)]; rfl)
      refine primS (.bool (decide _)) d_geq ?_
      refine itD rfl (fun e4 => ?_) (fun e4 => ?_)
      · exact ret_step (by rw [hbad (P := ¬n.lf ≥ (m : Int)) (fun h _ => by have := h.2.2.1; omega) (fun h => h e4)]; rfl)
      refine primS (.bool true) (il_inb (by omega) (by rw [cts_len]; omega)) ?_
      refine primS (.int .i64 ((cts (kids (ns.take i)) m).getD n.lf.toNat 0)) (il_get (by omega) (by rw [cts_len]; omega)) ?_
      refine primS (.int .i64 ((cts (kids (ns.take i)) m).getD n.lf.toNat 0 + 1)) (bnd (kids (ns.take i)) n.lf (by omega) (by omega) (by omega)) ?_
      try simp only [List.cons_append, List.nil_append]
      refine primS (.bool true) (il_inb (by omega) (by rw [cts_len]; omega)) ?_
      refine primS (il (cts (kids (ns.take i) ++ [n.lf]) m)) ((il_set (by omega) (by rw [cts_len]; omega)).trans (by rw [cts_add (by omega) (by omega)])) ?_
      refine primS (.bool (decide _)) d_eql ?_
      try simp only [List.cons_append, List.nil_append]
      refine itD rfl (fun e2 => ?_) (fun e2 => ?_)
      · refine primS (.int .i64 ((i + 1 : Nat) : Int)) ((d_add64 (by omega) (by omega)).trans (by simp)) ?_
        have := hj ⟨by omega, by omega, .inr (by omega), .inl e2⟩ c3
        rw [eo e2] at this
        exact jump_step rfl this
      · refine primS (.bool (decide _)) d_leq ?_
        refine itD rfl (fun e5 => ?_) (fun e5 => ?_)
        · exact ret_step (by rw [hbad (P := ¬n.rt ≤ (i : Int)) (fun h _ => by have := h.2.2.2; omega) (fun h => h e5)]; rfl)
        refine primS (.bool (decide _)) d_geq ?_
        refine itD rfl (fun e6 => ?_) (fun e6 => ?_)
        · exact ret_step (by rw [hbad (P := ¬n.rt ≥ (m : Int)) (fun h _ => by have := h.2.2.2; omega) (fun h => h e6)]; rfl)
        refine primS (.bool true) (il_inb (by omega) (by rw [cts_len]; omega)) ?_
        refine primS (.int .i64 ((cts (kids (ns.take i) ++ [n.lf]) m).getD n.rt.toNat 0)) (il_get (by omega) (by rw [cts_len]; omega)) ?_
        refine primS (.int .i64 ((cts (kids (ns.take i) ++ [n.lf]) m).getD n.rt.toNat 0 + 1)) (bnd (kids (ns.take i) ++ [n.lf]) n.rt (by omega) (by omega) (by rw [List.length_append]; simp; omega)) ?_
        try simp only [List.cons_append, List.nil_append]
        refine primS (.bool true) (il_inb (by omega) (by rw [cts_len]; omega)) ?_
        refine primS (il (cts (kids (ns.take i) ++ [n.lf] ++ [n.rt]) m)) ((il_set (by omega) (by rw [cts_len]; omega)).trans (by rw [cts_add (by omega) (by omega)])) ?_
        refine primS (.int .i64 ((i + 1 : Nat) : Int)) ((d_add64 (by omega) (by omega)).trans (by simp)) ?_
        try simp only [List.cons_append, List.nil_append]
        exact jump_step rfl (hj ⟨by omega, by omega, .inr (by omega), .inr (by omega)⟩ c3)
  · obtain rfl : i = m := by omega
    refine primS (.bool false) (d_lss.trans (by rw [decide_eq_false (by omega)])) ?_
    refine itF rfl ?_
    have htk : ns.take i = ns := List.take_of_length_le (by omega)
    refine primS (.int .i64 (i : Int)) (by show some (DV.int .i64 (((cts (kids (ns.take i)) i).length : Nat) : Int)) = _; rw [cts_len]) ?_
    refine loop_st (fun c : Nat => [.int .i64 (i : Int), .int .i64 (c : Int), il (cts (kids (ns.take i)) i)]) (fun c => c ≤ i ∧ ∀ d : Nat, 0 < d → d < c → (kids ns).count (d : Int) = 1) (fun c => i - c) 0 ⟨Nat.zero_le _, fun d h1 h2 => absurd h2 (Nat.not_lt_zero _)⟩ rfl (fun _ => rfl) fun c hc Y hY => ?_
    by_cases hcl : c < i
    · refine primS (.bool true) (d_lss.trans (by rw [decide_eq_true (by omega)])) ?_
      refine itT rfl ?_
      refine primS (.bool true) (il_inb (by omega) (by rw [cts_len]; omega)) ?_
      refine primS (.int .i64 (((kids ns).count (c : Int) : Nat) : Int)) ((il_get (by omega) (by rw [cts_len]; omega)).trans (by rw [Int.toNat_natCast, cts_get hcl, htk])) ?_
      refine primS (.bool (decide ((c : Int) > 0))) d_gtr ?_
      try simp only [List.cons_append, List.nil_append]
      refine itD rfl (fun e1 => ?_) (fun e1 => ?_)
      · refine primS (.bool (decide _)) d_neq ?_
        refine itD rfl (fun e2 => ?_) (fun e2 => ?_)
        · exact ret_step (by rw [tbF fun h => e2 (by rw [h.2.2 c (by omega) hcl]; rfl)]; rfl)
        · refine primS (.int .i64 ((c + 1 : Nat) : Int)) ((d_add64 (by omega) (by omega)).trans (by simp)) ?_
          refine jump_step rfl (hY (c + 1) ⟨hcl, fun d h1 h2 => ?_⟩ (by omega))
          rcases Nat.lt_or_ge d c with h3 | h3
          · exact hc.2 d h1 h3
          · obtain rfl : d = c := by omega
            omega
      · refine primS (.int .i64 ((c + 1 : Nat) : Int)) ((d_add64 (by omega) (by omega)).trans (by simp)) ?_
        refine jump_step rfl (hY (c + 1) ⟨hcl, fun d h1 h2 => hc.2 d h1 (by omega)⟩ (by omega))
    · refine primS (.bool false) (d_lss.trans (by rw [decide_eq_false (by omega)])) ?_
      refine itF rfl ?_
      refine ret_step ?_
      rw [tbT (p := Shp ns i) ⟨fun j n hn => hown j n (by have := (List.getElem?_eq_some_iff.1 hn).1; omega) hn, by rw [htk] at hnd; exact hnd, fun d h1 h2 => hc.2 d h1 (by omega)⟩]; rfl
end Go.Px.Na

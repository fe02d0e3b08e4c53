/- QBallGrows: what is near is so within a greater ball, too; a point is near to itself; to be near is the same either way round. -/
import Derived.Test.YtdkifeiejkikdaaHq
set_option maxRecDepth 20000
set_option maxHeartbeats 40000000
set_option linter.unusedVariables false
set_option linter.unusedSimpArgs false
namespace Go.Px
open Go.RowKit
def ir_penumbralaw22_BallGrows : IR :=
 .call F.ball_Near [.one (.var 0), .agg [.var 1, .var 2, .var 3], .one (.var 4), .agg [.var 5, .var 6, .var 7, .var 8, .var 9, .var 10, .var 11, .var 12, .var 13], .agg [.var 14, .var 15, .var 16]] [.one, .one] <|
 .call F.penumbralaw22_fixed [] [.one] <|
 .prim .not [.var 22] <|
 .ite (.var 23) (
  .call F.penumbralaw22_fixed [] [.one] <|
  .ret [.one (.var 24)]) (
  .prim .not [.var 21] <|
  .ite (.var 24) (
   .call F.penumbralaw22_fixed [] [.one] <|
   .ret [.one (.var 25)]) (
   .prim .len [.var 0] <|
   .prim (.bin .gtr) [.var 25, .int .i64 (60)] <|
   .ite (.var 26) (
    .call F.penumbralaw22_fixed [] [.one] <|
    .ret [.one (.var 27)]) (
    .call F.ball_Near [.one (.var 0), .agg [.var 1, .var 2, .var 3], .one (.var 4), .agg [.var 5, .var 6, .var 7, .var 8, .var 9, .var 10, .var 11, .var 12, .var 13], .agg [.var 17, .var 18, .var 19]] [.one, .one] <|
    .ite (.var 28) (
     .call F.rat_Cmp [.agg [.var 17, .var 18, .var 19], .agg [.var 14, .var 15, .var 16]] [.one] <|
     .prim (.bin .leq) [.var 29, .int .i64 (0)] <|
     .ite (.var 30) (
      .loop [.var 20, .var 27, .int .i64 (0), .var 0, .var 1, .var 2, .var 3, .var 4, .var 5, .var 6, .var 7, .var 8, .var 9, .var 10, .var 11, .var 12, .var 13, .var 14, .var 15, .var 16] (
       .prim .len [.var 1] <|
       .prim (.bin .lss) [.var 2, .var 20] <|
       .ite (.var 21) (
        .prim (.inb 1) [.var 1, .var 2] <|
        .prim (.get 1 0) [.var 1, .var 2] <|
        .call F.penumbralaw22_has [.one (.var 0), .one (.var 23)] [.one] <|
        .prim .not [.var 24] <|
        .ite (.var 25) (
         .ret [.one (.bol false)]) (
         .prim (.bin .add) [.var 2, .int .i64 (1)] <|
         .jump 0 [.var 0, .var 1, .var 26, .var 3, .var 4, .var 5, .var 6, .var 7, .var 8, .var 9, .var 10, .var 11, .var 12, .var 13, .var 14, .var 15, .var 16, .var 17, .var 18, .var 19])) (
        .loop [.int .i64 (0), .var 3, .var 4, .var 5, .var 6, .var 7, .var 8, .var 9, .var 10, .var 11, .var 12, .var 13, .var 14, .var 15, .var 16, .var 17, .var 18, .var 19] (
         .prim .len [.var 1] <|
         .prim (.bin .lss) [.var 0, .var 18] <|
         .ite (.var 19) (
          .prim (.bin .lss) [.var 0, .int .i64 (10)] <|
          .ite (.var 20) (
           .prim (.inb 9) [.var 1, .var 0] <|
           .prim (.get 9 0) [.var 1, .var 0] <|
           .prim (.get 9 1) [.var 1, .var 0] <|
           .prim (.get 9 2) [.var 1, .var 0] <|
           .prim (.get 9 3) [.var 1, .var 0] <|
           .prim (.get 9 4) [.var 1, .var 0] <|
           .prim (.get 9 5) [.var 1, .var 0] <|
           .prim (.get 9 6) [.var 1, .var 0] <|
           .prim (.get 9 7) [.var 1, .var 0] <|
           .prim (.get 9 8) [.var 1, .var 0] <|
           .call F.ball_Near [.one (.var 1), .agg [.var 2, .var 3, .var 4], .one (.var 5), .agg [.var 22, .var 23, .var 24, .var 25, .var 26, .var 27, .var 28, .var 29, .var 30], .agg [.var 15, .var 16, .var 17]] [.one, .one] <|
           .call F.penumbralaw22_has [.one (.var 31), .one (.var 0)] [.one] <|
           .prim .not [.var 33] <|
           .ite (.var 34) (
            .ret [.one (.bol false)]) (
            .loop [.var 0, .var 31, .int .i64 (0), .var 1, .var 2, .var 3, .var 4, .var 5, .var 6, .var 7, .var 8, .var 9, .var 10, .var 11, .var 12, .var 13, .var 14, .var 15, .var 16, .var 17] (
             .prim .len [.var 1] <|
             .prim (.bin .lss) [.var 2, .var 20] <|
             .ite (.var 21) (
              .prim (.inb 1) [.var 1, .var 2] <|
              .prim (.get 1 0) [.var 1, .var 2] <|
              .prim (.bin .lss) [.var 23, .int .i64 (0)] <|
              .ite (.var 24) (
               .ret [.one (.bol false)]) (
               .prim (.inb 1) [.var 1, .var 2] <|
               .prim (.get 1 0) [.var 1, .var 2] <|
               .prim .len [.var 3] <|
               .prim (.bin .geq) [.var 26, .var 27] <|
               .ite (.var 28) (
                .ret [.one (.bol false)]) (
                .prim (.inb 1) [.var 1, .var 2] <|
                .prim (.get 1 0) [.var 1, .var 2] <|
                .prim (.inb 9) [.var 3, .var 30] <|
                .prim (.get 9 0) [.var 3, .var 30] <|
                .prim (.get 9 1) [.var 3, .var 30] <|
                .prim (.get 9 2) [.var 3, .var 30] <|
                .prim (.get 9 3) [.var 3, .var 30] <|
                .prim (.get 9 4) [.var 3, .var 30] <|
                .prim (.get 9 5) [.var 3, .var 30] <|
                .prim (.get 9 6) [.var 3, .var 30] <|
                .prim (.get 9 7) [.var 3, .var 30] <|
                .prim (.get 9 8) [.var 3, .var 30] <|
                .call F.ball_Near [.one (.var 3), .agg [.var 4, .var 5, .var 6], .one (.var 7), .agg [.var 32, .var 33, .var 34, .var 35, .var 36, .var 37, .var 38, .var 39, .var 40], .agg [.var 17, .var 18, .var 19]] [.one, .one] <|
                .call F.penumbralaw22_has [.one (.var 41), .one (.var 0)] [.one] <|
                .prim .not [.var 43] <|
                .ite (.var 44) (
                 .ret [.one (.bol false)]) (
                 .prim (.bin .add) [.var 2, .int .i64 (1)] <|
                 .jump 2 [.var 0, .var 1, .var 45, .var 3, .var 4, .var 5, .var 6, .var 7, .var 8, .var 9, .var 10, .var 11, .var 12, .var 13, .var 14, .var 15, .var 16, .var 17, .var 18, .var 19])))) (
              .prim (.bin .add) [.var 0, .int .i64 (1)] <|
              .jump 1 [.var 22, .var 3, .var 4, .var 5, .var 6, .var 7, .var 8, .var 9, .var 10, .var 11, .var 12, .var 13, .var 14, .var 15, .var 16, .var 17, .var 18, .var 19])))) (
           .ret [.one (.bol true)])) (
          .ret [.one (.bol true)]))))) (
      .loop [.int .i64 (0), .var 0, .var 1, .var 2, .var 3, .var 4, .var 5, .var 6, .var 7, .var 8, .var 9, .var 10, .var 11, .var 12, .var 13, .var 14, .var 15, .var 16] (
       .prim .len [.var 1] <|
       .prim (.bin .lss) [.var 0, .var 18] <|
       .ite (.var 19) (
        .prim (.bin .lss) [.var 0, .int .i64 (10)] <|
        .ite (.var 20) (
         .prim (.inb 9) [.var 1, .var 0] <|
         .prim (.get 9 0) [.var 1, .var 0] <|
         .prim (.get 9 1) [.var 1, .var 0] <|
         .prim (.get 9 2) [.var 1, .var 0] <|
         .prim (.get 9 3) [.var 1, .var 0] <|
         .prim (.get 9 4) [.var 1, .var 0] <|
         .prim (.get 9 5) [.var 1, .var 0] <|
         .prim (.get 9 6) [.var 1, .var 0] <|
         .prim (.get 9 7) [.var 1, .var 0] <|
         .prim (.get 9 8) [.var 1, .var 0] <|
         .call F.ball_Near [.one (.var 1), .agg [.var 2, .var 3, .var 4], .one (.var 5), .agg [.var 22, .var 23, .var 24, .var 25, .var 26, .var 27, .var 28, .var 29, .var 30], .agg [.var 15, .var 16, .var 17]] [.one, .one] <|
         .call F.penumbralaw22_has [.one (.var 31), .one (.var 0)] [.one] <|
         .prim .not [.var 33] <|
         .ite (.var 34) (
          .ret [.one (.bol false)]) (
          .loop [.var 0, .var 31, .int .i64 (0), .var 1, .var 2, .var 3, .var 4, .var 5, .var 6, .var 7, .var 8, .var 9, .var 10, .var 11, .var 12, .var 13, .var 14, .var 15, .var 16, .var 17] (
           .prim .len [.var 1] <|
           .prim (.bin .lss) [.var 2, .var 20] <|
           .ite (.var 21) (
            .prim (.inb 1) [.var 1, .var 2] <|
            .prim (.get 1 0) [.var 1, .var 2] <|
            .prim (.bin .lss) [.var 23, .int .i64 (0)] <|
            .ite (.var 24) (
             .ret [.one (.bol false)]) (
             .prim (.inb 1) [.var 1, .var 2] <|
             .prim (.get 1 0) [.var 1, .var 2] <|
             .prim .len [.var 3] <|
             .prim (.bin .geq) [.var 26, .var 27] <|
             .ite (.var 28) (
              .ret [.one (.bol false)]) (
              .prim (.inb 1) [.var 1, .var 2] <|
              .prim (.get 1 0) [.var 1, .var 2] <|
              .prim (.inb 9) [.var 3, .var 30] <|
              .prim (.get 9 0) [.var 3, .var 30] <|
              .prim (.get 9 1) [.var 3, .var 30] <|
              .prim (.get 9 2) [.var 3, .var 30] <|
              .prim (.get 9 3) [.var 3, .var 30] <|
              .prim (.get 9 4) [.var 3, .var 30] <|
              .prim (.get 9 5) [.var 3, .var 30] <|
              .prim (.get 9 6) [.var 3, .var 30] <|
              .prim (.get 9 7) [.var 3, .var 30] <|
              .prim (.get 9 8) [.var 3, .var 30] <|
              .call F.ball_Near [.one (.var 3), .agg [.var 4, .var 5, .var 6], .one (.var 7), .agg [.var 32, .var 33, .var 34, .var 35, .var 36, .var 37, .var 38, .var 39, .var 40], .agg [.var 17, .var 18, .var 19]] [.one, .one] <|
              .call F.penumbralaw22_has [.one (.var 41), .one (.var 0)] [.one] <|
              .prim .not [.var 43] <|
              .ite (.var 44) (
               .ret [.one (.bol false)]) (
               .prim (.bin .add) [.var 2, .int .i64 (1)] <|
               .jump 1 [.var 0, .var 1, .var 45, .var 3, .var 4, .var 5, .var 6, .var 7, .var 8, .var 9, .var 10, .var 11, .var 12, .var 13, .var 14, .var 15, .var 16, .var 17, .var 18, .var 19])))) (
            .prim (.bin .add) [.var 0, .int .i64 (1)] <|
            .jump 0 [.var 22, .var 3, .var 4, .var 5, .var 6, .var 7, .var 8, .var 9, .var 10, .var 11, .var 12, .var 13, .var 14, .var 15, .var 16, .var 17, .var 18, .var 19])))) (
         .ret [.one (.bol true)])) (
        .ret [.one (.bol true)])))) (
     .loop [.int .i64 (0), .var 0, .var 1, .var 2, .var 3, .var 4, .var 5, .var 6, .var 7, .var 8, .var 9, .var 10, .var 11, .var 12, .var 13, .var 14, .var 15, .var 16] (
      .prim .len [.var 1] <|
      .prim (.bin .lss) [.var 0, .var 18] <|
      .ite (.var 19) (
       .prim (.bin .lss) [.var 0, .int .i64 (10)] <|
       .ite (.var 20) (
        .prim (.inb 9) [.var 1, .var 0] <|
        .prim (.get 9 0) [.var 1, .var 0] <|
        .prim (.get 9 1) [.var 1, .var 0] <|
        .prim (.get 9 2) [.var 1, .var 0] <|
        .prim (.get 9 3) [.var 1, .var 0] <|
        .prim (.get 9 4) [.var 1, .var 0] <|
        .prim (.get 9 5) [.var 1, .var 0] <|
        .prim (.get 9 6) [.var 1, .var 0] <|
        .prim (.get 9 7) [.var 1, .var 0] <|
        .prim (.get 9 8) [.var 1, .var 0] <|
        .call F.ball_Near [.one (.var 1), .agg [.var 2, .var 3, .var 4], .one (.var 5), .agg [.var 22, .var 23, .var 24, .var 25, .var 26, .var 27, .var 28, .var 29, .var 30], .agg [.var 15, .var 16, .var 17]] [.one, .one] <|
        .call F.penumbralaw22_has [.one (.var 31), .one (.var 0)] [.one] <|
        .prim .not [.var 33] <|
        .ite (.var 34) (
         .ret [.one (.bol false)]) (
         .loop [.var 0, .var 31, .int .i64 (0), .var 1, .var 2, .var 3, .var 4, .var 5, .var 6, .var 7, .var 8, .var 9, .var 10, .var 11, .var 12, .var 13, .var 14, .var 15, .var 16, .var 17] (
          .prim .len [.var 1] <|
          .prim (.bin .lss) [.var 2, .var 20] <|
          .ite (.var 21) (
           .prim (.inb 1) [.var 1, .var 2] <|
           .prim (.get 1 0) [.var 1, .var 2] <|
           .prim (.bin .lss) [.var 23, .int .i64 (0)] <|
           .ite (.var 24) (
            .ret [.one (.bol false)]) (
            .prim (.inb 1) [.var 1, .var 2] <|
            .prim (.get 1 0) [.var 1, .var 2] <|
            .prim .len [.var 3] <|
            .prim (.bin .geq) [.var 26, .var 27] <|
            .ite (.var 28) (
             .ret [.one (.bol false)]) (
             .prim (.inb 1) [.var 1, .var 2] <|
             .prim (.get 1 0) [.var 1, .var 2] <|
             .prim (.inb 9) [.var 3, .var 30] <|
             .prim (.get 9 0) [.var 3, .var 30] <|
             .prim (.get 9 1) [.var 3, .var 30] <|
             .prim (.get 9 2) [.var 3, .var 30] <|
             .prim (.get 9 3) [.var 3, .var 30] <|
             .prim (.get 9 4) [.var 3, .var 30] <|
             .prim (.get 9 5) [.var 3, .var 30] <|
             .prim (.get 9 6) [.var 3, .var 30] <|
             .prim (.get 9 7) [.var 3, .var 30] <|
             .prim (.get 9 8) [.var 3, .var 30] <|
             .call F.ball_Near [.one (.var 3), .agg [.var 4, .var 5, .var 6], .one (.var 7), .agg [.var 32, .var 33, .var 34, .var 35, .var 36, .var 37, .var 38, .var 39, .var 40], .agg [.var 17, .var 18, .var 19]] [.one, .one] <|
             .call F.penumbralaw22_has [.one (.var 41), .one (.var 0)] [.one] <|
             .prim .not [.var 43] <|
             .ite (.var 44) (
              .ret [.one (.bol false)]) (
              .prim (.bin .add) [.var 2, .int .i64 (1)] <|
              .jump 1 [.var 0, .var 1, .var 45, .var 3, .var 4, .var 5, .var 6, .var 7, .var 8, .var 9, .var 10, .var 11, .var 12, .var 13, .var 14, .var 15, .var 16, .var 17, .var 18, .var 19])))) (
           .prim (.bin .add) [.var 0, .int .i64 (1)] <|
           .jump 0 [.var 22, .var 3, .var 4, .var 5, .var 6, .var 7, .var 8, .var 9, .var 10, .var 11, .var 12, .var 13, .var 14, .var 15, .var 16, .var 17, .var 18, .var 19])))) (
        .ret [.one (.bol true)])) (
       .ret [.one (.bol true)]))))))

theorem tree_penumbralaw22_BallGrows : symFunc Go.Proofs.Try.prog ⟨fun f => [69, 46, 23].contains f, fun f i => if f = 4 ∧ i = 7 then [⟨[(2, .s (.one (.lp 0 0))), (5, .s (.one (.at (.var 0)))), (7, .s (.one (.at (.var 1)))), (9, .s (.one (.at (.var 2))))], [], [(0, .box [.at (.var 3), .at (.var 4), .at (.var 5), .at (.var 6), .at (.var 7), .at (.var 8), .at (.var 9), .at (.var 10), .at (.var 11), .at (.var 12), .at (.var 13), .at (.var 14), .at (.var 15), .at (.var 16), .at (.var 17), .at (.var 18), .at (.var 19)] 29 false)], 1, 20⟩] else if f = 4 ∧ i = 12 then [⟨[(2, .s (.one (.lp 0 0))), (10, .s (.one (.at (.var 0))))], [], [(0, .box [.at (.var 1), .at (.var 2), .at (.var 3), .at (.var 4), .at (.var 5), .at (.var 6), .at (.var 7), .at (.var 8), .at (.var 9), .at (.var 10), .at (.var 11), .at (.var 12), .at (.var 13), .at (.var 14), .at (.var 15), .at (.var 16), .at (.var 17)] 29 false)], 1, 18⟩] else if f = 4 ∧ i = 18 then [⟨[(2, .s (.one (.lp 0 0))), (10, .s (.one (.at (.var 0)))), (11, .s (.one (.at (.var 1)))), (13, .s (.one (.at (.var 2))))], [], [(0, .box [.at (.var 3), .at (.var 4), .at (.var 5), .at (.var 6), .at (.var 7), .at (.var 8), .at (.var 9), .at (.var 10), .at (.var 11), .at (.var 12), .at (.var 13), .at (.var 14), .at (.var 15), .at (.var 16), .at (.var 17), .at (.var 18), .at (.var 19)] 29 false)], 1, 20⟩] else [], fun f i => [], fun f => [22].contains f⟩ 400 F.penumbralaw22_BallGrows [.agg 17, .agg 3] = some ir_penumbralaw22_BallGrows := by kernel_rfl
end Go.Px
namespace Go.Px.Na
open Go.RowKit
open Go.Proofs.Try (prog)
theorem far_self (a : V3) : far a a = 0 := by simp only [far, V3.dot, V3.sub]; grind
theorem pure_BallGrows {rs : List RV} {ps : List V3} {rsd rr2 rle : RR} {rp : RV} {p : V3} {s r2 le : Rat} {n : Int} (hp : NVs 1048576 rs ps) (g : Num 1048576 rsd s) (h : NV 1048576 rp p) (hr : Num 1048576 rr2 r2) (hle : Num 1048576 rle le) (hN : ps.length ≤ 1048576) :
    PureCalls prog F.penumbralaw22_BallGrows [.agg [vl rs, .bool rsd.neg, nl rsd.num, nl rsd.den, .int .i64 n, .bool rp.x.neg, nl rp.x.num, nl rp.x.den, .bool rp.y.neg, nl rp.y.num, nl rp.y.den, .bool rp.z.neg, nl rp.z.num, nl rp.z.den, .bool rr2.neg, nl rr2.num, nl rr2.den], .agg (gW [rle])] [.one (.bool true)] := by
  have hlen := hp.len
  have k1 := f_Near (n := n) hp hN g h hr (by decide)
  have k2 := f_Near (n := n) hp hN g h hle (by decide)
  have kn := fun (rp : RV) (p : V3) (h : NV 1048576 rp p) => f_Near (n := n) hp hN g h hr (by decide)
  unfold bnear at k1 k2 kn
  refine symFunc_sound hmix tree_penumbralaw22_BallGrows (by kernel_rfl) rfl ?_
  unfold ir_penumbralaw22_BallGrows
  try simp only [HH, gW, gD, V3.l, M4.l, Fr.l, Sp.l, RV.l, RM.l, RF.l, RS.l]
  by_cases bm : bmay ps s n r2
  · rw [if_pos bm] at k1
    simp only [if_pos bm] at kn
    refine call_step k1 rfl ?_
    try simp only [HH, gW, gD, V3.l, M4.l, Fr.l, Sp.l, RV.l, RM.l, RF.l, RS.l]
    refine call_step f_fixed22 rfl ?_
    try simp only [HH, gW, gD, V3.l, M4.l, Fr.l, Sp.l, RV.l, RM.l, RF.l, RS.l]
    refine primS (.bool false) rfl ?_
    refine itF rfl ?_
    refine primS (.bool false) rfl ?_
    refine itF rfl ?_
    refine primS (.int .i64 (rs.length : Int)) rfl ?_
    refine primS (.bool (decide _)) d_gtr ?_
    refine itD rfl (fun c1 => ?_) (fun c1 => ?_)
    · refine call_step f_fixed22 rfl ?_
      try simp only [HH, gW, gD, V3.l, M4.l, Fr.l, Sp.l, RV.l, RM.l, RF.l, RS.l]
      exact ret_step rfl
    by_cases bm2 : bmay ps s n le
    · rw [if_pos bm2] at k2
      refine call_step k2 rfl ?_
      try simp only [HH, gW, gD, V3.l, M4.l, Fr.l, Sp.l, RV.l, RM.l, RF.l, RS.l]
      refine itT rfl ?_
      refine call_step (n_rat_Cmp (hle.mono (by decide)) (hr.mono (by decide))) rfl ?_
      try simp only [HH, gW, gD, V3.l, M4.l, Fr.l, Sp.l, RV.l, RM.l, RF.l, RS.l]
      refine primS (.bool (decide (le ≤ r2))) d_cmpQ_le ?_
      refine itD rfl (fun c2 => ?_) (fun c2 => ?_)
      · have hsub : ∀ x ∈ nearL ps p le, x ∈ nearL ps p r2 := fun x hx => by
          obtain ⟨q, h1, h2, h3⟩ := nearL_mem.1 hx
          exact nearL_mem.2 ⟨q, h1, h2, decide_eq_true (Rat.le_trans (of_decide_eq_true h3) c2)⟩
        have hl1 := nearL_len (ps := ps) (c := p) (r2 := le)
        have hl2 := nearL_len (ps := ps) (c := p) (r2 := r2)
        generalize nearL ps p le = bl1 at *
        generalize nearL ps p r2 = al1 at *
        refine loop_st (fun j : Nat => [il al1, il bl1, .int .i64 (j : Int), vl rs, .bool rsd.neg, nl rsd.num, nl rsd.den, .int .i64 n, .bool rp.x.neg, nl rp.x.num, nl rp.x.den, .bool rp.y.neg, nl rp.y.num, nl rp.y.den, .bool rp.z.neg, nl rp.z.num, nl rp.z.den, .bool rr2.neg, nl rr2.num, nl rr2.den]) (fun j => j ≤ bl1.length) (fun j => bl1.length - j) 0 (Nat.zero_le _) rfl (fun _ => rfl) fun j hj W hW => ?_
        refine primS (.int .i64 (bl1.length : Int)) rfl ?_
        by_cases hlb : j < bl1.length
        · obtain ⟨x, hx⟩ : ∃ x, bl1[j]? = some x := ⟨_, List.getElem?_eq_getElem hlb⟩
          refine primS (.bool true) (d_lss.trans (by rw [decide_eq_true (by omega)])) ?_
          refine itT rfl ?_
          refine primS (.bool true) (il_inb (by omega) (by omega)) ?_
          refine primS (.int .i64 x) ((il_get (by omega) (by omega)).trans (by rw [Int.toNat_natCast, getD_of hx])) ?_
          try simp only [HH, gW, gD, V3.l, M4.l, Fr.l, Sp.l, RV.l, RM.l, RF.l, RS.l]
          have kh := f_has al1 x (by omega)
          rw [decide_eq_true (hsub x (List.mem_of_getElem? hx))] at kh
          refine call_step kh rfl ?_
          try simp only [HH, gW, gD, V3.l, M4.l, Fr.l, Sp.l, RV.l, RM.l, RF.l, RS.l]
          refine primS (.bool false) rfl ?_
          refine itF rfl ?_
          refine primS (.int .i64 ((j + 1 : Nat) : Int)) ((d_add64 (by omega) (by omega)).trans (by simp)) ?_
          exact jump_step rfl (hW (j + 1) hlb (by omega))
        · refine primS (.bool false) (d_lss.trans (by rw [decide_eq_false (by omega)])) ?_
          refine itF rfl ?_
          refine loop_st (fun i : Nat => [.int .i64 (i : Int), vl rs, .bool rsd.neg, nl rsd.num, nl rsd.den, .int .i64 n, .bool rp.x.neg, nl rp.x.num, nl rp.x.den, .bool rp.y.neg, nl rp.y.num, nl rp.y.den, .bool rp.z.neg, nl rp.z.num, nl rp.z.den, .bool rr2.neg, nl rr2.num, nl rr2.den]) (fun i => i ≤ rs.length) (fun i => rs.length - i) 0 (Nat.zero_le _) rfl (fun _ => rfl) fun i hi X hX => ?_
          refine primS (.int .i64 (rs.length : Int)) rfl ?_
          by_cases hlt : i < rs.length
          · obtain ⟨r, hrr⟩ : ∃ r, rs[i]? = some r := ⟨_, List.getElem?_eq_getElem hlt⟩
            obtain ⟨pt, hpt⟩ : ∃ pt, ps[i]? = some pt := ⟨_, List.getElem?_eq_getElem (by omega)⟩
            refine primS (.bool true) (d_lss.trans (by rw [decide_eq_true (by omega)])) ?_
            refine itT rfl ?_
            refine primS (.bool (decide _)) d_lss ?_
            refine itD rfl (fun _ => ?_) (fun _ => ?_)
            · refine primS (.bool true) (fm_inb gV_len (by omega) (by omega)) ?_
              refine get_pt (x := .var 1) (i := .var 0) hrr (fun _ => rfl) (fun _ => rfl) ?_
              try simp only [HH, gW, gD, V3.l, M4.l, Fr.l, Sp.l, RV.l, RM.l, RF.l, RS.l]
              refine call_step (kn r pt (hp.at_ i r pt hrr hpt)) rfl ?_
              try simp only [HH, gW, gD, V3.l, M4.l, Fr.l, Sp.l, RV.l, RM.l, RF.l, RS.l]
              have hme : (i : Int) ∈ nearL ps pt r2 := nearL_mem.2 ⟨i, rfl, by omega, decide_eq_true (by rw [getD_of hpt, far_self]; exact bm.2.2.1)⟩
              have kh := f_has (nearL ps pt r2) (i : Int) (Nat.le_trans nearL_len (by omega))
              rw [decide_eq_true hme] at kh
              refine call_step kh rfl ?_
              try simp only [HH, gW, gD, V3.l, M4.l, Fr.l, Sp.l, RV.l, RM.l, RF.l, RS.l]
              refine primS (.bool false) rfl ?_
              refine itF rfl ?_
              have hall : ∀ x ∈ nearL ps pt r2, ∃ q : Nat, x = (q : Int) ∧ q < ps.length ∧ ∃ qt, ps[q]? = some qt ∧ (i : Int) ∈ nearL ps qt r2 := fun x hx => by
                obtain ⟨q, h1, h2, h3⟩ := nearL_mem.1 hx
                obtain ⟨qt, hqt⟩ : ∃ qt, ps[q]? = some qt := ⟨_, List.getElem?_eq_getElem h2⟩
                refine ⟨q, h1, h2, qt, hqt, nearL_mem.2 ⟨i, rfl, by omega, decide_eq_true ?_⟩⟩
                have h3 := of_decide_eq_true h3
                rw [getD_of hqt] at h3
                rw [getD_of hpt, far_comm]; exact h3
              have hnl := nearL_len (ps := ps) (c := pt) (r2 := r2)
              generalize nearL ps pt r2 = nr at *
              refine loop_st (fun j : Nat => [.int .i64 (i : Int), il nr, .int .i64 (j : Int), vl rs, .bool rsd.neg, nl rsd.num, nl rsd.den, .int .i64 n, .bool rp.x.neg, nl rp.x.num, nl rp.x.den, .bool rp.y.neg, nl rp.y.num, nl rp.y.den, .bool rp.z.neg, nl rp.z.num, nl rp.z.den, .bool rr2.neg, nl rr2.num, nl rr2.den]) (fun j => j ≤ nr.length) (fun j => nr.length - j) 0 (Nat.zero_le _) rfl (fun _ => rfl) fun j hj Z hZ => ?_
              refine primS (.int .i64 (nr.length : Int)) rfl ?_
              by_cases hlj : j < nr.length
              · obtain ⟨x, hx⟩ : ∃ x, nr[j]? = some x := ⟨_, List.getElem?_eq_getElem hlj⟩
                obtain ⟨q, rfl, hq, qt, hqt, hmq⟩ := hall x (List.mem_of_getElem? hx)
                obtain ⟨rq, hrq⟩ : ∃ r, rs[q]? = some r := ⟨_, List.getElem?_eq_getElem (by omega)⟩
                have hget : Prim.den (.get 1 0) [il nr, .int .i64 (j : Int)] = some (.int .i64 (q : Int)) := (il_get (by omega) (by omega)).trans (by rw [Int.toNat_natCast, getD_of hx])
                refine primS (.bool true) (d_lss.trans (by rw [decide_eq_true (by omega)])) ?_
                refine itT rfl ?_
                refine primS (.bool true) (il_inb (by omega) (by omega)) ?_
                refine primS (.int .i64 (q : Int)) hget ?_
                refine primS (.bool false) (d_lss.trans (by rw [decide_eq_false (by omega)])) ?_
                simp only [List.cons_append, List.nil_append]
                refine itF rfl ?_
                refine primS (.bool true) (il_inb (by omega) (by omega)) ?_
                refine primS (.int .i64 (q : Int)) hget ?_
                refine primS (.int .i64 (rs.length : Int)) rfl ?_
                simp only [List.cons_append, List.nil_append]
                refine primS (.bool false) (d_geq.trans (by rw [decide_eq_false (by omega)])) ?_
                refine itF rfl ?_
                refine primS (.bool true) (il_inb (by omega) (by omega)) ?_
                refine primS (.int .i64 (q : Int)) hget ?_
                refine primS (.bool true) (fm_inb gV_len (by omega) (by omega)) ?_
                simp only [List.cons_append, List.nil_append]
                try simp only [HH, gW, gD, V3.l, M4.l, Fr.l, Sp.l, RV.l, RM.l, RF.l, RS.l]
                refine get_pt (x := .var 3) (i := .var 30) hrq (fun _ => rfl) (fun _ => rfl) ?_
                try simp only [HH, gW, gD, V3.l, M4.l, Fr.l, Sp.l, RV.l, RM.l, RF.l, RS.l]
                refine call_step (kn rq qt (hp.at_ q rq qt hrq hqt)) rfl ?_
                try simp only [HH, gW, gD, V3.l, M4.l, Fr.l, Sp.l, RV.l, RM.l, RF.l, RS.l]
                have kh2 := f_has (nearL ps qt r2) (i : Int) (Nat.le_trans nearL_len (by omega))
                rw [decide_eq_true hmq] at kh2
                refine call_step kh2 rfl ?_
                try simp only [HH, gW, gD, V3.l, M4.l, Fr.l, Sp.l, RV.l, RM.l, RF.l, RS.l]
                refine primS (.bool false) rfl ?_
                refine itF rfl ?_
                refine primS (.int .i64 ((j + 1 : Nat) : Int)) ((d_add64 (by omega) (by omega)).trans (by simp)) ?_
                exact jump_step rfl (hZ (j + 1) hlj (by omega))
              · refine primS (.bool false) (d_lss.trans (by rw [decide_eq_false (by omega)])) ?_
                refine itF rfl ?_
                refine primS (.int .i64 ((i + 1 : Nat) : Int)) ((d_add64 (by omega) (by omega)).trans (by simp)) ?_
                exact jump_step rfl (hX (i + 1) hlt (by omega))
            · exact ret_step rfl
          · refine primS (.bool false) (d_lss.trans (by rw [decide_eq_false (by omega)])) ?_
            refine itF rfl ?_
            exact ret_step rfl
      · refine loop_st (fun i : Nat => [.int .i64 (i : Int), vl rs, .bool rsd.neg, nl rsd.num, nl rsd.den, .int .i64 n, .bool rp.x.neg, nl rp.x.num, nl rp.x.den, .bool rp.y.neg, nl rp.y.num, nl rp.y.den, .bool rp.z.neg, nl rp.z.num, nl rp.z.den, .bool rr2.neg, nl rr2.num, nl rr2.den]) (fun i => i ≤ rs.length) (fun i => rs.length - i) 0 (Nat.zero_le _) rfl (fun _ => rfl) fun i hi X hX => ?_
        refine primS (.int .i64 (rs.length : Int)) rfl ?_
        by_cases hlt : i < rs.length
        · obtain ⟨r, hrr⟩ : ∃ r, rs[i]? = some r := ⟨_, List.getElem?_eq_getElem hlt⟩
          obtain ⟨pt, hpt⟩ : ∃ pt, ps[i]? = some pt := ⟨_, List.getElem?_eq_getElem (by omega)⟩
          refine primS (.bool true) (d_lss.trans (by rw [decide_eq_true (by omega)])) ?_
          refine itT rfl ?_
          refine primS (.bool (decide _)) d_lss ?_
          refine itD rfl (fun _ => ?_) (fun _ => ?_)
          · refine primS (.bool true) (fm_inb gV_len (by omega) (by omega)) ?_
            refine get_pt (x := .var 1) (i := .var 0) hrr (fun _ => rfl) (fun _ => rfl) ?_
            try simp only [HH, gW, gD, V3.l, M4.l, Fr.l, Sp.l, RV.l, RM.l, RF.l, RS.l]
            refine call_step (kn r pt (hp.at_ i r pt hrr hpt)) rfl ?_
            try simp only [HH, gW, gD, V3.l, M4.l, Fr.l, Sp.l, RV.l, RM.l, RF.l, RS.l]
            have hme : (i : Int) ∈ nearL ps pt r2 := nearL_mem.2 ⟨i, rfl, by omega, decide_eq_true (by rw [getD_of hpt, far_self]; exact bm.2.2.1)⟩
            have kh := f_has (nearL ps pt r2) (i : Int) (Nat.le_trans nearL_len (by omega))
            rw [decide_eq_true hme] at kh
            refine call_step kh rfl ?_
            try simp only [HH, gW, gD, V3.l, M4.l, Fr.l, Sp.l, RV.l, RM.l, RF.l, RS.l]
            refine primS (.bool false) rfl ?_
            refine itF rfl ?_
            have hall : ∀ x ∈ nearL ps pt r2, ∃ q : Nat, x = (q : Int) ∧ q < ps.length ∧ ∃ qt, ps[q]? = some qt ∧ (i : Int) ∈ nearL ps qt r2 := fun x hx => by
              obtain ⟨q, h1, h2, h3⟩ := nearL_mem.1 hx
              obtain ⟨qt, hqt⟩ : ∃ qt, ps[q]? = some qt := ⟨_, List.getElem?_eq_getElem h2⟩
              refine ⟨q, h1, h2, qt, hqt, nearL_mem.2 ⟨i, rfl, by omega, decide_eq_true ?_⟩⟩
              have h3 := of_decide_eq_true h3
              rw [getD_of hqt] at h3
              rw [getD_of hpt, far_comm]; exact h3
            have hnl := nearL_len (ps := ps) (c := pt) (r2 := r2)
            generalize nearL ps pt r2 = nr at *
            refine loop_st (fun j : Nat => [.int .i64 (i : Int), il nr, .int .i64 (j : Int), vl rs, .bool rsd.neg, nl rsd.num, nl rsd.den, .int .i64 n, .bool rp.x.neg, nl rp.x.num, nl rp.x.den, .bool rp.y.neg, nl rp.y.num, nl rp.y.den, .bool rp.z.neg, nl rp.z.num, nl rp.z.den, .bool rr2.neg, nl rr2.num, nl rr2.den]) (fun j => j ≤ nr.length) (fun j => nr.length - j) 0 (Nat.zero_le _) rfl (fun _ => rfl) fun j hj Z hZ => ?_
            refine primS (.int .i64 (nr.length : Int)) rfl ?_
            by_cases hlj : j < nr.length
            · obtain ⟨x, hx⟩ : ∃ x, nr[j]? = some x := ⟨_, List.getElem?_eq_getElem hlj⟩
              obtain ⟨q, rfl, hq, qt, hqt, hmq⟩ := hall x (List.mem_of_getElem? hx)
              obtain ⟨rq, hrq⟩ : ∃ r, rs[q]? = some r := ⟨_, List.getElem?_eq_getElem (by omega)⟩
              have hget : Prim.den (.get 1 0) [il nr, .int .i64 (j : Int)] = some (.int .i64 (q : Int)) := (il_get (by omega) (by omega)).trans (by rw [Int.toNat_natCast, getD_of hx])
              refine primS (.bool true) (d_lss.trans (by rw [decide_eq_true (by omega)])) ?_
              refine itT rfl ?_
              refine primS (.bool true) (il_inb (by omega) (by omega)) ?_
              refine primS (.int .i64 (q : Int)) hget ?_
              refine primS (.bool false) (d_lss.trans (by rw [decide_eq_false (by omega)])) ?_
              simp only [List.cons_append, List.nil_append]
              refine itF rfl ?_
              refine primS (.bool true) (il_inb (by omega) (by omega)) ?_
              refine primS (.int .i64 (q : Int)) hget ?_
              refine primS (.int .i64 (rs.length : Int)) rfl ?_
              simp only [List.cons_append, List.nil_append]
              refine primS (.bool false) (d_geq.trans (by rw [decide_eq_false (by omega)])) ?_
              refine itF rfl ?_
              refine primS (.bool true) (il_inb (by omega) (by omega)) ?_
              refine primS (.int .i64 (q : Int)) hget ?_
              refine primS (.bool true) (fm_inb gV_len (by omega) (by omega)) ?_
              simp only [List.cons_append, List.nil_append]
              try simp only [HH, gW, gD, V3.l, M4.l, Fr.l, Sp.l, RV.l, RM.l, RF.l, RS.l]
              refine get_pt (x := .var 3) (i := .var 30) hrq (fun _ => rfl) (fun _ => rfl) ?_
              try simp only [HH, gW, gD, V3.l, M4.l, Fr.l, Sp.l, RV.l, RM.l, RF.l, RS.l]
              refine call_step (kn rq qt (hp.at_ q rq qt hrq hqt)) rfl ?_
              try simp only [HH, gW, gD, V3.l, M4.l, Fr.l, Sp.l, RV.l, RM.l, RF.l, RS.l]
              have kh2 := f_has (nearL ps qt r2) (i : Int) (Nat.le_trans nearL_len (by omega))
              rw [decide_eq_true hmq] at kh2
              refine call_step kh2 rfl ?_
              try simp only [HH, gW, gD, V3.l, M4.l, Fr.l, Sp.l, RV.l, RM.l, RF.l, RS.l]
              refine primS (.bool false) rfl ?_
              refine itF rfl ?_
              refine primS (.int .i64 ((j + 1 : Nat) : Int)) ((d_add64 (by omega) (by omega)).trans (by simp)) ?_
              exact jump_step rfl (hZ (j + 1) hlj (by omega))
            · refine primS (.bool false) (d_lss.trans (by rw [decide_eq_false (by omega)])) ?_
              refine itF rfl ?_
              refine primS (.int .i64 ((i + 1 : Nat) : Int)) ((d_add64 (by omega) (by omega)).trans (by simp)) ?_
              exact jump_step rfl (hX (i + 1) hlt (by omega))
          · exact ret_step rfl
        · refine primS (.bool false) (d_lss.trans (by rw [decide_eq_false (by omega)])) ?_
          refine itF rfl ?_
          exact ret_step rfl
    · rw [if_neg bm2] at k2
      refine call_step k2 rfl ?_
      try simp only [HH, gW, gD, V3.l, M4.l, Fr.l, Sp.l, RV.l, RM.l, RF.l, RS.l]
      refine itF rfl ?_
      refine loop_st (fun i : Nat => [.int .i64 (i : Int), vl rs, .bool rsd.neg, nl rsd.num, nl rsd.den, .int .i64 n, .bool rp.x.neg, nl rp.x.num, nl rp.x.den, .bool rp.y.neg, nl rp.y.num, nl rp.y.den, .bool rp.z.neg, nl rp.z.num, nl rp.z.den, .bool rr2.neg, nl rr2.num, nl rr2.den]) (fun i => i ≤ rs.length) (fun i => rs.length - i) 0 (Nat.zero_le _) rfl (fun _ => rfl) fun i hi X hX => ?_
      refine primS (.int .i64 (rs.length : Int)) rfl ?_
      by_cases hlt : i < rs.length
      · obtain ⟨r, hrr⟩ : ∃ r, rs[i]? = some r := ⟨_, List.getElem?_eq_getElem hlt⟩
        obtain ⟨pt, hpt⟩ : ∃ pt, ps[i]? = some pt := ⟨_, List.getElem?_eq_getElem (by omega)⟩
        refine primS (.bool true) (d_lss.trans (by rw [decide_eq_true (by omega)])) ?_
        refine itT rfl ?_
        refine primS (.bool (decide _)) d_lss ?_
        refine itD rfl (fun _ => ?_) (fun _ => ?_)
        · refine primS (.bool true) (fm_inb gV_len (by omega) (by omega)) ?_
          refine get_pt (x := .var 1) (i := .var 0) hrr (fun _ => rfl) (fun _ => rfl) ?_
          try simp only [HH, gW, gD, V3.l, M4.l, Fr.l, Sp.l, RV.l, RM.l, RF.l, RS.l]
          refine call_step (kn r pt (hp.at_ i r pt hrr hpt)) rfl ?_
          try simp only [HH, gW, gD, V3.l, M4.l, Fr.l, Sp.l, RV.l, RM.l, RF.l, RS.l]
          have hme : (i : Int) ∈ nearL ps pt r2 := nearL_mem.2 ⟨i, rfl, by omega, decide_eq_true (by rw [getD_of hpt, far_self]; exact bm.2.2.1)⟩
          have kh := f_has (nearL ps pt r2) (i : Int) (Nat.le_trans nearL_len (by omega))
          rw [decide_eq_true hme] at kh
          refine call_step kh rfl ?_
          try simp only [HH, gW, gD, V3.l, M4.l, Fr.l, Sp.l, RV.l, RM.l, RF.l, RS.l]
          refine primS (.bool false) rfl ?_
          refine itF rfl ?_
          have hall : ∀ x ∈ nearL ps pt r2, ∃ q : Nat, x = (q : Int) ∧ q < ps.length ∧ ∃ qt, ps[q]? = some qt ∧ (i : Int) ∈ nearL ps qt r2 := fun x hx => by
            obtain ⟨q, h1, h2, h3⟩ := nearL_mem.1 hx
            obtain ⟨qt, hqt⟩ : ∃ qt, ps[q]? = some qt := ⟨_, List.getElem?_eq_getElem h2⟩
            refine ⟨q, h1, h2, qt, hqt, nearL_mem.2 ⟨i, rfl, by omega, decide_eq_true ?_⟩⟩
            have h3 := of_decide_eq_true h3
            rw [getD_of hqt] at h3
            rw [getD_of hpt, far_comm]; exact h3
          have hnl := nearL_len (ps := ps) (c := pt) (r2 := r2)
          generalize nearL ps pt r2 = nr at *
          refine loop_st (fun j : Nat => [.int .i64 (i : Int), il nr, .int .i64 (j : Int), vl rs, .bool rsd.neg, nl rsd.num, nl rsd.den, .int .i64 n, .bool rp.x.neg, nl rp.x.num, nl rp.x.den, .bool rp.y.neg, nl rp.y.num, nl rp.y.den, .bool rp.z.neg, nl rp.z.num, nl rp.z.den, .bool rr2.neg, nl rr2.num, nl rr2.den]) (fun j => j ≤ nr.length) (fun j => nr.length - j) 0 (Nat.zero_le _) rfl (fun _ => rfl) fun j hj Z hZ => ?_
          refine primS (.int .i64 (nr.length : Int)) rfl ?_
          by_cases hlj : j < nr.length
          · obtain ⟨x, hx⟩ : ∃ x, nr[j]? = some x := ⟨_, List.getElem?_eq_getElem hlj⟩
            obtain ⟨q, rfl, hq, qt, hqt, hmq⟩ := hall x (List.mem_of_getElem? hx)
            obtain ⟨rq, hrq⟩ : ∃ r, rs[q]? = some r := ⟨_, List.getElem?_eq_getElem (by omega)⟩
            have hget : Prim.den (.get 1 0) [il nr, .int .i64 (j : Int)] = some (.int .i64 (q : Int)) := (il_get (by omega) (by omega)).trans (by rw [Int.toNat_natCast, getD_of hx])
            refine primS (.bool true) (d_lss.trans (by rw [decide_eq_true (by omega)])) ?_
            refine itT rfl ?_
            refine primS (.bool true) (il_inb (by omega) (by omega)) ?_
            refine primS (.int .i64 (q : Int)) hget ?_
            refine primS (.bool false) (d_lss.trans (by rw [decide_eq_false (by omega)])) ?_
            simp only [List.cons_append, List.nil_append]
            refine itF rfl ?_
            refine primS (.bool true) (il_inb (by omega) (by omega)) ?_
            refine primS (.int .i64 (q : Int)) hget ?_
            refine primS (.int .i64 (rs.length : Int)) rfl ?_
            simp only [List.cons_append, List.nil_append]
            refine primS (.bool false) (d_geq.trans (by rw [decide_eq_false (by omega)])) ?_
            refine itF rfl ?_
            refine primS (.bool true) (il_inb (by omega) (by omega)) ?_
            refine primS (.int .i64 (q : Int)) hget ?_
            refine primS (.bool true) (fm_inb gV_len (by omega) (by omega)) ?_
            simp only [List.cons_append, List.nil_append]
            try simp only [HH, gW, gD, V3.l, M4.l, Fr.l, Sp.l, RV.l, RM.l, RF.l, RS.l]
            refine get_pt (x := .var 3) (i := .var 30) hrq (fun _ => rfl) (fun _ => rfl) ?_
            try simp only [HH, gW, gD, V3.l, M4.l, Fr.l, Sp.l, RV.l, RM.l, RF.l, RS.l]
            refine call_step (kn rq qt (hp.at_ q rq qt hrq hqt)) rfl ?_
            try simp only [HH, gW, gD, V3.l, M4.l, Fr.l, Sp.l, RV.l, RM.l, RF.l, RS.l]
            have kh2 := f_has (nearL ps qt r2) (i : Int) (Nat.le_trans nearL_len (by omega))
            rw [decide_eq_true hmq] at kh2
            refine call_step kh2 rfl ?_
            try simp only [HH, gW, gD, V3.l, M4.l, Fr.l, Sp.l, RV.l, RM.l, RF.l, RS.l]
            refine primS (.bool false) rfl ?_
            refine itF rfl ?_
            refine primS (.int .i64 ((j + 1 : Nat) : Int)) ((d_add64 (by omega) (by omega)).trans (by simp)) ?_
            exact jump_step rfl (hZ (j + 1) hlj (by omega))
          · refine primS (.bool false) (d_lss.trans (by rw [decide_eq_false (by omega)])) ?_
            refine itF rfl ?_
            refine primS (.int .i64 ((i + 1 : Nat) : Int)) ((d_add64 (by omega) (by omega)).trans (by simp)) ?_
            exact jump_step rfl (hX (i + 1) hlt (by omega))
        · exact ret_step rfl
      · refine primS (.bool false) (d_lss.trans (by rw [decide_eq_false (by omega)])) ?_
        refine itF rfl ?_
        exact ret_step rfl
  · rw [if_neg bm] at k1
    refine call_step k1 rfl ?_
    try simp only [HH, gW, gD, V3.l, M4.l, Fr.l, Sp.l, RV.l, RM.l, RF.l, RS.l]
    refine call_step f_fixed22 rfl ?_
    try simp only [HH, gW, gD, V3.l, M4.l, Fr.l, Sp.l, RV.l, RM.l, RF.l, RS.l]
    refine primS (.bool false) rfl ?_
    refine itF rfl ?_
    refine primS (.bool true) rfl ?_
    refine itT rfl ?_
    refine call_step f_fixed22 rfl ?_
    try simp only [HH, gW, gD, V3.l, M4.l, Fr.l, Sp.l, RV.l, RM.l, RF.l, RS.l]
    exact ret_step rfl
end Go.Px.Na

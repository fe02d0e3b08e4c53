/- Kf: the nearest points: the heap. -/
import Derived.Test.YtejnnginkadecaaGreatKb
set_option maxRecDepth 40000
set_option maxHeartbeats 40000000
set_option linter.unusedVariables false
set_option linter.unusedSimpArgs false
namespace Go.Px
open Go.RowKit
def ir___kd_seeker__up : IR :=
 .prim .len [.var 12] <|
 .prim (.bin .sub) [.var 15, .int .i64 (1)] <|
 .loop [.var 16, .var 0, .var 1, .var 2, .var 3, .var 4, .var 5, .var 6, .var 7, .var 8, .var 9, .var 10, .var 11, .var 12, .var 13, .var 14] (
  .prim (.bin .gtr) [.var 0, .int .i64 (0)] <|
  .ite (.var 16) (
   .prim (.bin .sub) [.var 0, .int .i64 (1)] <|
   .prim (.bin .quo) [.var 17, .int .i64 (2)] <|
   .prim (.inb 4) [.var 13, .var 0] <|
   .prim (.get 4 0) [.var 13, .var 0] <|
   .prim (.get 4 1) [.var 13, .var 0] <|
   .prim (.get 4 2) [.var 13, .var 0] <|
   .prim (.get 4 3) [.var 13, .var 0] <|
   .prim (.inb 4) [.var 13, .var 18] <|
   .prim (.get 4 0) [.var 13, .var 18] <|
   .prim (.get 4 1) [.var 13, .var 18] <|
   .prim (.get 4 2) [.var 13, .var 18] <|
   .prim (.get 4 3) [.var 13, .var 18] <|
   .call F._kd_found__behind [.agg [.var 20, .var 21, .var 22, .var 23], .agg [.var 25, .var 26, .var 27, .var 28]] [.one] <|
   .prim .not [.var 29] <|
   .ite (.var 30) (
    .ret [.one (.var 1), .one (.var 2), .one (.var 3), .one (.var 4), .one (.var 5), .one (.var 6), .one (.var 7), .one (.var 8), .one (.var 9), .one (.var 10), .one (.var 11), .one (.var 12), .one (.var 13), .one (.var 14), .one (.var 15)]) (
    .prim (.inb 4) [.var 13, .var 18] <|
    .prim (.get 4 0) [.var 13, .var 18] <|
    .prim (.get 4 1) [.var 13, .var 18] <|
    .prim (.get 4 2) [.var 13, .var 18] <|
    .prim (.get 4 3) [.var 13, .var 18] <|
    .prim (.inb 4) [.var 13, .var 0] <|
    .prim (.get 4 0) [.var 13, .var 0] <|
    .prim (.get 4 1) [.var 13, .var 0] <|
    .prim (.get 4 2) [.var 13, .var 0] <|
    .prim (.get 4 3) [.var 13, .var 0] <|
    .prim (.inb 4) [.var 13, .var 0] <|
    .prim (.setl 4 0) [.var 13, .var 0, .var 32, .var 33, .var 34, .var 35] <|
    .prim (.inb 4) [.var 42, .var 18] <|
    .prim (.setl 4 0) [.var 42, .var 18, .var 37, .var 38, .var 39, .var 40] <|
    .jump 0 [.var 18, .var 1, .var 2, .var 3, .var 4, .var 5, .var 6, .var 7, .var 8, .var 9, .var 10, .var 11, .var 12, .var 44, .var 14, .var 15])) (
   .ret [.one (.var 1), .one (.var 2), .one (.var 3), .one (.var 4), .one (.var 5), .one (.var 6), .one (.var 7), .one (.var 8), .one (.var 9), .one (.var 10), .one (.var 11), .one (.var 12), .one (.var 13), .one (.var 14), .one (.var 15)]))

def ir___kd_seeker__down : IR :=
 .loop [.int .i64 (0), .var 0, .var 1, .var 2, .var 3, .var 4, .var 5, .var 6, .var 7, .var 8, .var 9, .var 10, .var 11, .var 12, .var 13, .var 14] (
  .join (
   .prim (.bin .mul) [.int .i64 (2), .var 0] <|
   .prim (.bin .add) [.var 16, .int .i64 (1)] <|
   .prim (.bin .mul) [.int .i64 (2), .var 0] <|
   .prim (.bin .add) [.var 18, .int .i64 (2)] <|
   .prim .len [.var 13] <|
   .prim (.bin .lss) [.var 17, .var 20] <|
   .ite (.var 21) (
    .prim (.inb 4) [.var 13, .var 17] <|
    .prim (.get 4 0) [.var 13, .var 17] <|
    .prim (.get 4 1) [.var 13, .var 17] <|
    .prim (.get 4 2) [.var 13, .var 17] <|
    .prim (.get 4 3) [.var 13, .var 17] <|
    .prim (.inb 4) [.var 13, .var 0] <|
    .prim (.get 4 0) [.var 13, .var 0] <|
    .prim (.get 4 1) [.var 13, .var 0] <|
    .prim (.get 4 2) [.var 13, .var 0] <|
    .prim (.get 4 3) [.var 13, .var 0] <|
    .call F._kd_found__behind [.agg [.var 23, .var 24, .var 25, .var 26], .agg [.var 28, .var 29, .var 30, .var 31]] [.one] <|
    .ite (.var 32) (
     .prim .len [.var 13] <|
     .prim (.bin .lss) [.var 19, .var 33] <|
     .ite (.var 34) (
      .prim (.inb 4) [.var 13, .var 19] <|
      .prim (.get 4 0) [.var 13, .var 19] <|
      .prim (.get 4 1) [.var 13, .var 19] <|
      .prim (.get 4 2) [.var 13, .var 19] <|
      .prim (.get 4 3) [.var 13, .var 19] <|
      .prim (.inb 4) [.var 13, .var 17] <|
      .prim (.get 4 0) [.var 13, .var 17] <|
      .prim (.get 4 1) [.var 13, .var 17] <|
      .prim (.get 4 2) [.var 13, .var 17] <|
      .prim (.get 4 3) [.var 13, .var 17] <|
      .call F._kd_found__behind [.agg [.var 36, .var 37, .var 38, .var 39], .agg [.var 41, .var 42, .var 43, .var 44]] [.one] <|
      .ite (.var 45) (
       .jump 1 [.var 0, .var 19, .var 1, .var 2, .var 3, .var 4, .var 5, .var 6, .var 7, .var 8, .var 9, .var 10, .var 11, .var 12, .var 13, .var 14, .var 15]) (
       .jump 1 [.var 0, .var 17, .var 1, .var 2, .var 3, .var 4, .var 5, .var 6, .var 7, .var 8, .var 9, .var 10, .var 11, .var 12, .var 13, .var 14, .var 15])) (
      .jump 1 [.var 0, .var 17, .var 1, .var 2, .var 3, .var 4, .var 5, .var 6, .var 7, .var 8, .var 9, .var 10, .var 11, .var 12, .var 13, .var 14, .var 15])) (
     .prim .len [.var 13] <|
     .prim (.bin .lss) [.var 19, .var 33] <|
     .ite (.var 34) (
      .prim (.inb 4) [.var 13, .var 19] <|
      .prim (.get 4 0) [.var 13, .var 19] <|
      .prim (.get 4 1) [.var 13, .var 19] <|
      .prim (.get 4 2) [.var 13, .var 19] <|
      .prim (.get 4 3) [.var 13, .var 19] <|
      .prim (.inb 4) [.var 13, .var 0] <|
      .prim (.get 4 0) [.var 13, .var 0] <|
      .prim (.get 4 1) [.var 13, .var 0] <|
      .prim (.get 4 2) [.var 13, .var 0] <|
      .prim (.get 4 3) [.var 13, .var 0] <|
      .call F._kd_found__behind [.agg [.var 36, .var 37, .var 38, .var 39], .agg [.var 41, .var 42, .var 43, .var 44]] [.one] <|
      .ite (.var 45) (
       .jump 1 [.var 0, .var 19, .var 1, .var 2, .var 3, .var 4, .var 5, .var 6, .var 7, .var 8, .var 9, .var 10, .var 11, .var 12, .var 13, .var 14, .var 15]) (
       .jump 1 [.var 0, .var 0, .var 1, .var 2, .var 3, .var 4, .var 5, .var 6, .var 7, .var 8, .var 9, .var 10, .var 11, .var 12, .var 13, .var 14, .var 15])) (
      .jump 1 [.var 0, .var 0, .var 1, .var 2, .var 3, .var 4, .var 5, .var 6, .var 7, .var 8, .var 9, .var 10, .var 11, .var 12, .var 13, .var 14, .var 15]))) (
    .prim .len [.var 13] <|
    .prim (.bin .lss) [.var 19, .var 22] <|
    .ite (.var 23) (
     .prim (.inb 4) [.var 13, .var 19] <|
     .prim (.get 4 0) [.var 13, .var 19] <|
     .prim (.get 4 1) [.var 13, .var 19] <|
     .prim (.get 4 2) [.var 13, .var 19] <|
     .prim (.get 4 3) [.var 13, .var 19] <|
     .prim (.inb 4) [.var 13, .var 0] <|
     .prim (.get 4 0) [.var 13, .var 0] <|
     .prim (.get 4 1) [.var 13, .var 0] <|
     .prim (.get 4 2) [.var 13, .var 0] <|
     .prim (.get 4 3) [.var 13, .var 0] <|
     .call F._kd_found__behind [.agg [.var 25, .var 26, .var 27, .var 28], .agg [.var 30, .var 31, .var 32, .var 33]] [.one] <|
     .ite (.var 34) (
      .jump 1 [.var 0, .var 19, .var 1, .var 2, .var 3, .var 4, .var 5, .var 6, .var 7, .var 8, .var 9, .var 10, .var 11, .var 12, .var 13, .var 14, .var 15]) (
      .jump 1 [.var 0, .var 0, .var 1, .var 2, .var 3, .var 4, .var 5, .var 6, .var 7, .var 8, .var 9, .var 10, .var 11, .var 12, .var 13, .var 14, .var 15])) (
     .jump 1 [.var 0, .var 0, .var 1, .var 2, .var 3, .var 4, .var 5, .var 6, .var 7, .var 8, .var 9, .var 10, .var 11, .var 12, .var 13, .var 14, .var 15]))) (
   .prim (.bin .eql) [.var 1, .var 0] <|
   .ite (.var 17) (
    .ret [.one (.var 2), .one (.var 3), .one (.var 4), .one (.var 5), .one (.var 6), .one (.var 7), .one (.var 8), .one (.var 9), .one (.var 10), .one (.var 11), .one (.var 12), .one (.var 13), .one (.var 14), .one (.var 15), .one (.var 16)]) (
    .prim (.inb 4) [.var 14, .var 1] <|
    .prim (.get 4 0) [.var 14, .var 1] <|
    .prim (.get 4 1) [.var 14, .var 1] <|
    .prim (.get 4 2) [.var 14, .var 1] <|
    .prim (.get 4 3) [.var 14, .var 1] <|
    .prim (.inb 4) [.var 14, .var 0] <|
    .prim (.get 4 0) [.var 14, .var 0] <|
    .prim (.get 4 1) [.var 14, .var 0] <|
    .prim (.get 4 2) [.var 14, .var 0] <|
    .prim (.get 4 3) [.var 14, .var 0] <|
    .prim (.inb 4) [.var 14, .var 0] <|
    .prim (.setl 4 0) [.var 14, .var 0, .var 19, .var 20, .var 21, .var 22] <|
    .prim (.inb 4) [.var 29, .var 1] <|
    .prim (.setl 4 0) [.var 29, .var 1, .var 24, .var 25, .var 26, .var 27] <|
    .jump 0 [.var 1, .var 2, .var 3, .var 4, .var 5, .var 6, .var 7, .var 8, .var 9, .var 10, .var 11, .var 12, .var 13, .var 31, .var 15, .var 16])))

def ir___kd_seeker__node : IR :=
 .prim (.bin .lss) [.var 15, .int .i64 (0)] <|
 .ite (.var 16) (
  .ret [.one (.var 0), .one (.var 1), .one (.var 2), .one (.var 3), .one (.var 4), .one (.var 5), .one (.var 6), .one (.var 7), .one (.var 8), .one (.var 9), .one (.var 10), .one (.var 11), .one (.var 12), .one (.var 13), .one (.var 14)]) (
  .prim .len [.var 0] <|
  .prim (.bin .geq) [.var 15, .var 17] <|
  .ite (.var 18) (
   .ret [.one (.var 0), .one (.var 1), .one (.var 2), .one (.var 3), .one (.var 4), .one (.var 5), .one (.var 6), .one (.var 7), .one (.var 8), .one (.var 9), .one (.var 10), .one (.var 11), .one (.var 12), .one (.var 13), .one (.var 14)]) (
   .prim (.inb 1) [.var 13, .var 15] <|
   .prim (.get 1 0) [.var 13, .var 15] <|
   .ite (.var 20) (
    .ret [.one (.var 0), .one (.var 1), .one (.var 2), .one (.var 3), .one (.var 4), .one (.var 5), .one (.var 6), .one (.var 7), .one (.var 8), .one (.var 9), .one (.var 10), .one (.var 11), .one (.var 12), .one (.var 13), .one (.var 14)]) (
    .prim (.inb 1) [.var 13, .var 15] <|
    .prim (.setl 1 0) [.var 13, .var 15, .bol true] <|
    .prim (.inb 4) [.var 0, .var 15] <|
    .prim (.get 4 0) [.var 0, .var 15] <|
    .prim (.get 4 1) [.var 0, .var 15] <|
    .prim (.get 4 2) [.var 0, .var 15] <|
    .prim (.get 4 3) [.var 0, .var 15] <|
    .prim (.bin .lss) [.var 24, .int .i64 (0)] <|
    .ite (.var 28) (
     .ret [.one (.var 0), .one (.var 1), .one (.var 2), .one (.var 3), .one (.var 4), .one (.var 5), .one (.var 6), .one (.var 7), .one (.var 8), .one (.var 9), .one (.var 10), .one (.var 11), .one (.var 12), .one (.var 22), .one (.var 14)]) (
     .prim .len [.var 1] <|
     .prim (.bin .geq) [.var 24, .var 29] <|
     .ite (.var 30) (
      .ret [.one (.var 0), .one (.var 1), .one (.var 2), .one (.var 3), .one (.var 4), .one (.var 5), .one (.var 6), .one (.var 7), .one (.var 8), .one (.var 9), .one (.var 10), .one (.var 11), .one (.var 12), .one (.var 22), .one (.var 14)]) (
      .join (
       .prim (.inb 1) [.var 14, .var 24] <|
       .prim (.get 1 0) [.var 14, .var 24] <|
       .prim .not [.var 32] <|
       .ite (.var 33) (
        .prim (.inb 1) [.var 14, .var 24] <|
        .prim (.setl 1 0) [.var 14, .var 24, .bol true] <|
        .prim (.inb 9) [.var 1, .var 24] <|
        .prim (.get 9 0) [.var 1, .var 24] <|
        .prim (.get 9 1) [.var 1, .var 24] <|
        .prim (.get 9 2) [.var 1, .var 24] <|
        .prim (.get 9 3) [.var 1, .var 24] <|
        .prim (.get 9 4) [.var 1, .var 24] <|
        .prim (.get 9 5) [.var 1, .var 24] <|
        .prim (.get 9 6) [.var 1, .var 24] <|
        .prim (.get 9 7) [.var 1, .var 24] <|
        .prim (.get 9 8) [.var 1, .var 24] <|
        .call F.ball_Far [.agg [.var 37, .var 38, .var 39, .var 40, .var 41, .var 42, .var 43, .var 44, .var 45], .agg [.var 2, .var 3, .var 4, .var 5, .var 6, .var 7, .var 8, .var 9, .var 10]] [.agg 3] <|
        .prim .len [.var 12] <|
        .prim (.bin .lss) [.var 49, .var 11] <|
        .ite (.var 50) (
         .prim (.mk 1) [.var 24, .var 46, .var 47, .var 48] <|
         .prim (.app 4 64) [.var 12, .var 51] <|
         .turn F.__kd_seeker__up [.pl, .pl, .pl, .pl, .pl, .pl, .pl, .pl, .pl, .pl, .pl, .pl, .row 4 59, .row 1 4, .row 1 4] [] 0 [.var 0, .var 1, .var 2, .var 3, .var 4, .var 5, .var 6, .var 7, .var 8, .var 9, .var 10, .var 11, .var 52, .var 22, .var 35] <|
         .jump 0 [.var 15, .var 53, .var 54, .var 55, .var 56, .var 57, .var 58, .var 59, .var 60, .var 61, .var 62, .var 63, .var 64, .var 24, .var 25, .var 26, .var 27, .var 65, .var 66, .var 67]) (
         .prim (.inb 4) [.var 12, .int .i64 (0)] <|
         .prim (.get 4 0) [.var 12, .int .i64 (0)] <|
         .prim (.get 4 1) [.var 12, .int .i64 (0)] <|
         .prim (.get 4 2) [.var 12, .int .i64 (0)] <|
         .prim (.get 4 3) [.var 12, .int .i64 (0)] <|
         .call F._kd_found__behind [.agg [.var 52, .var 53, .var 54, .var 55], .agg [.var 24, .var 46, .var 47, .var 48]] [.one] <|
         .ite (.var 56) (
          .prim (.inb 4) [.var 12, .int .i64 (0)] <|
          .prim (.setl 4 0) [.var 12, .int .i64 (0), .var 24, .var 46, .var 47, .var 48] <|
          .turn F.__kd_seeker__down [.pl, .pl, .pl, .pl, .pl, .pl, .pl, .pl, .pl, .pl, .pl, .pl, .row 4 59, .row 1 4, .row 1 4] [] 0 [.var 0, .var 1, .var 2, .var 3, .var 4, .var 5, .var 6, .var 7, .var 8, .var 9, .var 10, .var 11, .var 58, .var 22, .var 35] <|
          .jump 0 [.var 15, .var 59, .var 60, .var 61, .var 62, .var 63, .var 64, .var 65, .var 66, .var 67, .var 68, .var 69, .var 70, .var 24, .var 25, .var 26, .var 27, .var 71, .var 72, .var 73]) (
          .jump 0 [.var 15, .var 0, .var 1, .var 2, .var 3, .var 4, .var 5, .var 6, .var 7, .var 8, .var 9, .var 10, .var 11, .var 24, .var 25, .var 26, .var 27, .var 12, .var 22, .var 35]))) (
        .jump 0 [.var 15, .var 0, .var 1, .var 2, .var 3, .var 4, .var 5, .var 6, .var 7, .var 8, .var 9, .var 10, .var 11, .var 24, .var 25, .var 26, .var 27, .var 12, .var 22, .var 14])) (
       .call F.kd_axis [.agg [.var 3, .var 4, .var 5, .var 6, .var 7, .var 8, .var 9, .var 10, .var 11], .one (.var 14)] [.agg 3] <|
       .prim (.inb 9) [.var 2, .var 13] <|
       .prim (.get 9 0) [.var 2, .var 13] <|
       .prim (.get 9 1) [.var 2, .var 13] <|
       .prim (.get 9 2) [.var 2, .var 13] <|
       .prim (.get 9 3) [.var 2, .var 13] <|
       .prim (.get 9 4) [.var 2, .var 13] <|
       .prim (.get 9 5) [.var 2, .var 13] <|
       .prim (.get 9 6) [.var 2, .var 13] <|
       .prim (.get 9 7) [.var 2, .var 13] <|
       .prim (.get 9 8) [.var 2, .var 13] <|
       .call F.kd_axis [.agg [.var 24, .var 25, .var 26, .var 27, .var 28, .var 29, .var 30, .var 31, .var 32], .one (.var 14)] [.agg 3] <|
       .call F.rat_Sub [.agg [.var 20, .var 21, .var 22], .agg [.var 33, .var 34, .var 35]] [.agg 3] <|
       .join (
        .call F.rat_Sign [.agg [.var 36, .var 37, .var 38]] [.one] <|
        .prim (.bin .gtr) [.var 39, .int .i64 (0)] <|
        .ite (.var 40) (
         .jump 0 [.var 0, .var 16, .var 15, .var 1, .var 2, .var 3, .var 4, .var 5, .var 6, .var 7, .var 8, .var 9, .var 10, .var 11, .var 12, .var 36, .var 37, .var 38, .var 17, .var 18, .var 19]) (
         .jump 0 [.var 0, .var 15, .var 16, .var 1, .var 2, .var 3, .var 4, .var 5, .var 6, .var 7, .var 8, .var 9, .var 10, .var 11, .var 12, .var 36, .var 37, .var 38, .var 17, .var 18, .var 19])) (
        .join (
         .prim (.bin .gtr) [.var 1, .var 0] <|
         .ite (.var 21) (
          .turn F.__kd_seeker__node [.pl, .pl, .pl, .pl, .pl, .pl, .pl, .pl, .pl, .pl, .pl, .pl, .row 4 59, .row 1 4, .row 1 4] [.pl] 0 [.var 3, .var 4, .var 5, .var 6, .var 7, .var 8, .var 9, .var 10, .var 11, .var 12, .var 13, .var 14, .var 18, .var 19, .var 20, .var 1] <|
          .jump 0 [.var 0, .var 2, .var 22, .var 23, .var 24, .var 25, .var 26, .var 27, .var 28, .var 29, .var 30, .var 31, .var 32, .var 33, .var 15, .var 16, .var 17, .var 34, .var 35, .var 36]) (
          .jump 0 [.var 0, .var 2, .var 3, .var 4, .var 5, .var 6, .var 7, .var 8, .var 9, .var 10, .var 11, .var 12, .var 13, .var 14, .var 15, .var 16, .var 17, .var 18, .var 19, .var 20])) (
         .prim (.bin .gtr) [.var 1, .var 0] <|
         .ite (.var 20) (
          .prim .len [.var 17] <|
          .prim (.bin .lss) [.var 21, .var 13] <|
          .ite (.var 22) (
           .turn F.__kd_seeker__node [.pl, .pl, .pl, .pl, .pl, .pl, .pl, .pl, .pl, .pl, .pl, .pl, .row 4 59, .row 1 4, .row 1 4] [.pl] 0 [.var 2, .var 3, .var 4, .var 5, .var 6, .var 7, .var 8, .var 9, .var 10, .var 11, .var 12, .var 13, .var 17, .var 18, .var 19, .var 1] <|
           .ret [.one (.var 23), .one (.var 24), .one (.var 25), .one (.var 26), .one (.var 27), .one (.var 28), .one (.var 29), .one (.var 30), .one (.var 31), .one (.var 32), .one (.var 33), .one (.var 34), .one (.var 35), .one (.var 36), .one (.var 37)]) (
           .prim (.mk 2) [.var 14, .var 15, .var 16, .var 14, .var 15, .var 16] <|
           .call F.rat_Product [.one (.var 23)] [.agg 3] <|
           .prim (.inb 4) [.var 17, .int .i64 (0)] <|
           .prim (.get 4 1) [.var 17, .int .i64 (0)] <|
           .prim (.get 4 2) [.var 17, .int .i64 (0)] <|
           .prim (.get 4 3) [.var 17, .int .i64 (0)] <|
           .call F.rat_Cmp [.agg [.var 24, .var 25, .var 26], .agg [.var 28, .var 29, .var 30]] [.one] <|
           .prim (.bin .leq) [.var 31, .int .i64 (0)] <|
           .ite (.var 32) (
            .turn F.__kd_seeker__node [.pl, .pl, .pl, .pl, .pl, .pl, .pl, .pl, .pl, .pl, .pl, .pl, .row 4 59, .row 1 4, .row 1 4] [.pl] 0 [.var 2, .var 3, .var 4, .var 5, .var 6, .var 7, .var 8, .var 9, .var 10, .var 11, .var 12, .var 13, .var 17, .var 18, .var 19, .var 1] <|
            .ret [.one (.var 33), .one (.var 34), .one (.var 35), .one (.var 36), .one (.var 37), .one (.var 38), .one (.var 39), .one (.var 40), .one (.var 41), .one (.var 42), .one (.var 43), .one (.var 44), .one (.var 45), .one (.var 46), .one (.var 47)]) (
            .ret [.one (.var 2), .one (.var 3), .one (.var 4), .one (.var 5), .one (.var 6), .one (.var 7), .one (.var 8), .one (.var 9), .one (.var 10), .one (.var 11), .one (.var 12), .one (.var 13), .one (.var 17), .one (.var 18), .one (.var 19)]))) (
          .ret [.one (.var 2), .one (.var 3), .one (.var 4), .one (.var 5), .one (.var 6), .one (.var 7), .one (.var 8), .one (.var 9), .one (.var 10), .one (.var 11), .one (.var 12), .one (.var 13), .one (.var 17), .one (.var 18), .one (.var 19)])))))))))

theorem tree___kd_seeker__up : symTurn Go.Proofs.Tryz.prog ⟨fun f => [28].contains f, fun f i => if f = 49 ∧ i = 1 then [⟨[(0, .s (.one (.lp 0 0))), (2, .s (.one (.at (.var 0))))], [], [(0, .box [.at (.var 1), .at (.var 2), .at (.var 3), .at (.var 4), .at (.var 5), .at (.var 6), .at (.var 7), .at (.var 8), .at (.var 9), .at (.var 10), .at (.var 11), .at (.var 12), .own 1, .own 2, .own 3] 1000000007 false), (1, .own (.var 13) 4 59), (2, .own (.var 14) 1 4), (3, .own (.var 15) 1 4)], 4, 16⟩] else [], fun f i => [], fun f => [33].contains f, fun f => if f = 14 then some ([.row 4 63, .pl], [.row 1 3, .pl], 1) else if f = 17 then some ([.pl, .pl, .pl, .pl, .pl, .pl, .pl, .pl, .pl, .pl, .pl, .pl, .row 4 59, .row 1 4, .row 1 4], [.pl], 0) else if f = 49 then some ([.pl, .pl, .pl, .pl, .pl, .pl, .pl, .pl, .pl, .pl, .pl, .pl, .row 4 59, .row 1 4, .row 1 4], [], 0) else if f = 50 then some ([.pl, .pl, .pl, .pl, .pl, .pl, .pl, .pl, .pl, .pl, .pl, .pl, .row 4 59, .row 1 4, .row 1 4], [], 0) else none⟩ 400 F.__kd_seeker__up [.pl, .pl, .pl, .pl, .pl, .pl, .pl, .pl, .pl, .pl, .pl, .pl, .row 4 59, .row 1 4, .row 1 4] [] 0 = some ir___kd_seeker__up := by kernel_rfl
theorem tree___kd_seeker__down : symTurn Go.Proofs.Tryz.prog ⟨fun f => [28].contains f, fun f i => if f = 50 ∧ i = 1 then [⟨[(0, .s (.one (.lp 0 0))), (2, .s (.one (.at (.var 0))))], [], [(0, .box [.at (.var 1), .at (.var 2), .at (.var 3), .at (.var 4), .at (.var 5), .at (.var 6), .at (.var 7), .at (.var 8), .at (.var 9), .at (.var 10), .at (.var 11), .at (.var 12), .own 1, .own 2, .own 3] 1000000007 false), (1, .own (.var 13) 4 59), (2, .own (.var 14) 1 4), (3, .own (.var 15) 1 4)], 4, 16⟩] else [], fun f i => if f = 50 ∧ i = 8 then [⟨[(0, .s (.one (.lp 0 0))), (2, .s (.one (.at (.var 0)))), (3, .s (.one (.at (.var 1))))], [], [(0, .box [.at (.var 2), .at (.var 3), .at (.var 4), .at (.var 5), .at (.var 6), .at (.var 7), .at (.var 8), .at (.var 9), .at (.var 10), .at (.var 11), .at (.var 12), .at (.var 13), .own 1, .own 2, .own 3] 1000000007 false), (1, .own (.var 14) 4 59), (2, .own (.var 15) 1 4), (3, .own (.var 16) 1 4)], 4, 17⟩] else [], fun f => [33].contains f, fun f => if f = 14 then some ([.row 4 63, .pl], [.row 1 3, .pl], 1) else if f = 17 then some ([.pl, .pl, .pl, .pl, .pl, .pl, .pl, .pl, .pl, .pl, .pl, .pl, .row 4 59, .row 1 4, .row 1 4], [.pl], 0) else if f = 49 then some ([.pl, .pl, .pl, .pl, .pl, .pl, .pl, .pl, .pl, .pl, .pl, .pl, .row 4 59, .row 1 4, .row 1 4], [], 0) else if f = 50 then some ([.pl, .pl, .pl, .pl, .pl, .pl, .pl, .pl, .pl, .pl, .pl, .pl, .row 4 59, .row 1 4, .row 1 4], [], 0) else none⟩ 400 F.__kd_seeker__down [.pl, .pl, .pl, .pl, .pl, .pl, .pl, .pl, .pl, .pl, .pl, .pl, .row 4 59, .row 1 4, .row 1 4] [] 0 = some ir___kd_seeker__down := by kernel_rfl
theorem tree___kd_seeker__node : symTurn Go.Proofs.Tryz.prog ⟨fun f => [28].contains f, fun f i => [], fun f i => if f = 17 ∧ i = 7 then [⟨[(0, .s (.one (.lp 0 0))), (1, .s (.one (.at (.var 0)))), (4, .s (.one (.lp 1 0)))], [], [(0, .box [.at (.var 1), .at (.var 2), .at (.var 3), .at (.var 4), .at (.var 5), .at (.var 6), .at (.var 7), .at (.var 8), .at (.var 9), .at (.var 10), .at (.var 11), .at (.var 12), .own 2, .own 3, .own 4] 1000000007 false), (1, .box [.at (.var 13), .at (.var 14), .at (.var 15), .at (.var 16)] 63 false), (2, .own (.var 17) 4 59), (3, .own (.var 18) 1 4), (4, .own (.var 19) 1 4)], 5, 20⟩] else if f = 17 ∧ i = 11 then [⟨[(0, .s (.one (.lp 0 0))), (1, .s (.one (.at (.var 0)))), (5, .s (.one (.lp 1 0))), (6, .s (.one (.at (.var 1)))), (7, .s (.one (.at (.var 2))))], [], [(0, .box [.at (.var 3), .at (.var 4), .at (.var 5), .at (.var 6), .at (.var 7), .at (.var 8), .at (.var 9), .at (.var 10), .at (.var 11), .at (.var 12), .at (.var 13), .at (.var 14), .own 2, .own 3, .own 4] 1000000007 false), (1, .box [.at (.var 15), .at (.var 16), .at (.var 17)] 25 false), (2, .own (.var 18) 4 59), (3, .own (.var 19) 1 4), (4, .own (.var 20) 1 4)], 5, 21⟩] else if f = 17 ∧ i = 13 then [⟨[(0, .s (.one (.lp 0 0))), (1, .s (.one (.at (.var 0)))), (5, .s (.one (.lp 1 0))), (7, .s (.one (.at (.var 1))))], [], [(0, .box [.at (.var 2), .at (.var 3), .at (.var 4), .at (.var 5), .at (.var 6), .at (.var 7), .at (.var 8), .at (.var 9), .at (.var 10), .at (.var 11), .at (.var 12), .at (.var 13), .own 2, .own 3, .own 4] 1000000007 false), (1, .box [.at (.var 14), .at (.var 15), .at (.var 16)] 25 false), (2, .own (.var 17) 4 59), (3, .own (.var 18) 1 4), (4, .own (.var 19) 1 4)], 5, 20⟩] else [], fun f => [33].contains f, fun f => if f = 14 then some ([.row 4 63, .pl], [.row 1 3, .pl], 1) else if f = 17 then some ([.pl, .pl, .pl, .pl, .pl, .pl, .pl, .pl, .pl, .pl, .pl, .pl, .row 4 59, .row 1 4, .row 1 4], [.pl], 0) else if f = 49 then some ([.pl, .pl, .pl, .pl, .pl, .pl, .pl, .pl, .pl, .pl, .pl, .pl, .row 4 59, .row 1 4, .row 1 4], [], 0) else if f = 50 then some ([.pl, .pl, .pl, .pl, .pl, .pl, .pl, .pl, .pl, .pl, .pl, .pl, .row 4 59, .row 1 4, .row 1 4], [], 0) else none⟩ 400 F.__kd_seeker__node [.pl, .pl, .pl, .pl, .pl, .pl, .pl, .pl, .pl, .pl, .pl, .pl, .row 4 59, .row 1 4, .row 1 4] [.pl] 0 = some ir___kd_seeker__node := by kernel_rfl
end Go.Px
namespace Go.Px.Na
open Go.RowKit
open Go.Proofs.Tryz (prog)
/-- A point, and how far it is. -/
structure FD where
  pt : Int
  far : Rat
  deriving Inhabited
def FD.l (f : FD) : List DV := .int .i64 f.pt :: gD [f.far]
def fl (h : List FD) : DV := .list h.length (h.flatMap FD.l)
theorem fd_len (f : FD) : f.l.length = 4 := rfl
theorem fl_inb {h : List FD} {k : IntKind} {i : Int} (h0 : 0 ≤ i) (h1 : i < h.length) : Prim.den (.inb 4) [fl h, .int k i] = some (.bool true) := fm_inb fd_len h0 h1
section
variable {P : Program} {As : List (List DV → Prop)} {ρ : List DV} {Q : List AV → Prop}
theorem get_fd {x i : Px.A} {h : List FD} {ki : IntKind} {j : Int} {k : IR} {f : FD} (h0 : 0 ≤ j) (hr : h[j.toNat]? = some f) (hx : ∀ l, Px.A.ev (ρ ++ l) x = fl h) (hi : ∀ l, Px.A.ev (ρ ++ l) i = .int ki j) (hk : IRwp P As (ρ ++ f.l) k Q) : IRwp P As ρ (getsI x i 4 4 0 k) Q :=
  gets_ok h0 (by have := (List.getElem?_eq_some_iff.1 hr).1; omega) 4 0 ρ f.l hx hi rfl (fun t ht => by rw [Nat.zero_add]; exact fm_get fd_len t hr ht) hk
end
theorem fl_set {h : List FD} {k : IntKind} {i : Int} {f : FD} (h0 : 0 ≤ i) (h1 : i < h.length) : Prim.den (.setl 4 0) (fl h :: .int k i :: f.l) = some (fl (h.set i.toNat f)) := by
  have hl := fm_len fd_len h
  have hc : 0 ≤ i ∧ i < (h.length : Int) ∧ i.toNat * 4 + 0 + f.l.length ≤ (h.flatMap FD.l).length := ⟨h0, h1, by rw [hl, fd_len]; omega⟩
  simp only [fl, Prim.den]
  rw [if_pos hc]
  simp only [Option.some.injEq, DV.list.injEq, List.length_set, true_and, Nat.add_zero]
  have key : ∀ (a : List FD) (j : Nat), j < a.length → setAt (a.flatMap FD.l) (j * 4) f.l = (a.set j f).flatMap FD.l := by
    intro a
    induction a with
    | nil => intro j hj; simp at hj
    | cons x r ih =>
      intro j hj
      cases j with
      | zero => rfl
      | succ j =>
        have := ih j (by simpa using hj)
        simp only [List.flatMap_cons, List.set_cons_succ]
        rw [← this]
        have hs : ∀ (l : List DV) (c d : List DV) (p : Nat), setAt (c ++ d) (c.length + p) l = c ++ setAt d p l := by
          intro l
          induction l with
          | nil => intro c d p; rfl
          | cons v q ih2 =>
            intro c d p
            simp only [setAt]
            rw [List.set_append_right _ _ (by omega), Nat.add_sub_cancel_left]
            exact ih2 c (d.set p v) (p + 1)
        have h4 := hs f.l x.l (r.flatMap FD.l) (j * 4)
        rw [fd_len] at h4
        rw [show (j + 1) * 4 = 4 + j * 4 by omega]
        exact h4
  exact key h i.toNat (by omega)
/-- Does a point stand behind another one? -/
def bhd (f g : FD) : Prop := g.far < f.far ∨ f.far = g.far ∧ g.pt < f.pt
instance (f g : FD) : Decidable (bhd f g) := inferInstanceAs (Decidable (_ ∨ _ ∧ _))
theorem f_behind {L : Nat} {f g : FD} (hf : Sm L f.far) (hg : Sm L g.far) (hl : L ≤ LL) : PureCalls prog F._kd_found__behind [.agg f.l, .agg g.l] [.one (.bool (decide (bhd f g)))] := by
  refine symFunc_sound hmix tree__kd_found__behind (by kernel_rfl) rfl ?_
  unfold ir__kd_found__behind
  simp only [flatAll, List.flatMap_cons, List.flatMap_nil, AV.flat, List.cons_append, List.nil_append, List.append_nil, FD.l, gD]
  refine call_step (n_rat_Cmp ((Num.of hf).mono hl) ((Num.of hg).mono hl)) rfl ?_
  simp only [HH, gW, gD, V3.l, M4.l, Fr.l, Sp.l, RV.l, RM.l, RF.l, RS.l]
  refine primS (.bool (decide (0 < cmpQ f.far g.far))) d_gtr ?_
  refine itD rfl (fun c => ?_) (fun c => ?_)
  · exact ret_step (by rw [decide_eq_true (p := bhd f g) (.inl (cq_gt.1 c))]; rfl)
  · refine primS (.bool (decide (cmpQ f.far g.far = 0))) d_eql ?_
    refine itD rfl (fun c2 => ?_) (fun c2 => ?_)
    · refine primS (.bool (decide (g.pt < f.pt))) d_gtr ?_
      exact ret_step (by rw [show decide (bhd f g) = decide (g.pt < f.pt) from decide_eq_decide.2 ⟨fun h => h.elim (fun h => absurd (cq_gt.2 h) c) fun h => h.2, fun h => .inr ⟨cq_eq.1 c2, h⟩⟩]; rfl)
    · exact ret_step (by rw [decide_eq_false (p := bhd f g) fun h => h.elim (fun h => c (cq_gt.2 h)) fun h => c2 (cq_eq.2 h.1)]; rfl)

/-- A seeker's cells. -/
abbrev skT : List TK := [.pl, .pl, .pl, .pl, .pl, .pl, .pl, .pl, .pl, .pl, .pl, .pl, .row 4 59, .row 1 4, .row 1 4]
def skc (ns : List KN) (rs : List RV) (rc : RV) (k : Int) (h : List FD) (seen has : List Bool) : List DV :=
  [kl ns, vl rs, .bool rc.x.neg, nl rc.x.num, nl rc.x.den, .bool rc.y.neg, nl rc.y.num, nl rc.y.den, .bool rc.z.neg, nl rc.z.num, nl rc.z.den, .int .i64 k, fl h, bl seen, bl has]
/-- Two of the heap change their places. -/
def sw (h : List FD) (i p : Nat) : List FD := (h.set i (h.getD p default)).set p (h.getD i default)
theorem sw_len {h : List FD} {i p : Nat} : (sw h i p).length = h.length := by simp [sw]
def Fars (L : Nat) (h : List FD) : Prop := ∀ f ∈ h, Sm L f.far
theorem Fars.get {L : Nat} {h : List FD} (H : Fars L h) {i : Nat} (hi : i < h.length) : Sm L (h.getD i default).far := by
  rw [List.getD_eq_getElem?_getD, List.getElem?_eq_getElem hi]; exact H _ (List.getElem_mem _)
theorem Fars.set {L : Nat} {h : List FD} (H : Fars L h) {i : Nat} {f : FD} (hf : Sm L f.far) : Fars L (h.set i f) := fun g hg => by
  rcases List.mem_or_eq_of_mem_set hg with h1 | rfl
  · exact H g h1
  · exact hf
theorem Fars.sw {L : Nat} {h : List FD} (H : Fars L h) {i p : Nat} (hi : i < h.length) (hp : p < h.length) : Fars L (sw h i p) := (H.set (H.get hp)).set (H.get hi)
theorem fd_at {h : List FD} {i : Nat} (hi : i < h.length) : h[i]? = some (h.getD i default) := by
  rw [List.getD_eq_getElem?_getD, List.getElem?_eq_getElem hi]; rfl
/-- The last one goes up. -/
def upF : Nat → List FD → Nat → List FD
  | 0, h, _ => h
  | f + 1, h, i => if bhd (h.getD (i + 0) default) (h.getD ((i - 1) / 2) default) ∧ 0 < i then upF f (sw h i ((i - 1) / 2)) ((i - 1) / 2) else h
theorem upF_stop {f : Nat} {h : List FD} {i : Nat} (hs : ¬(0 < i) ∨ ¬bhd (h.getD i default) (h.getD ((i - 1) / 2) default)) : upF f h i = h := by
  cases f with
  | zero => rfl
  | succ f => rw [upF, if_neg (fun hh => hs.elim (fun z => z hh.2) fun z => z hh.1)]
theorem upF_go {f : Nat} {h : List FD} {i : Nat} (h0 : 0 < i) (hb : bhd (h.getD i default) (h.getD ((i - 1) / 2) default)) : upF (f + 1) h i = upF f (sw h i ((i - 1) / 2)) ((i - 1) / 2) := by
  rw [upF, if_pos ⟨hb, h0⟩]
theorem upF_fuel : ∀ (f g : Nat) (h : List FD) (i : Nat), i ≤ f → i ≤ g → upF f h i = upF g h i
  | 0, g, h, i, hf, _ => by rw [upF_stop (f := g) (.inl (by omega))]; rfl
  | f + 1, 0, h, i, _, hg => by rw [upF_stop (f := f + 1) (.inl (by omega))]; rfl
  | f + 1, g + 1, h, i, hf, hg => by
    by_cases hc : 0 < i ∧ bhd (h.getD i default) (h.getD ((i - 1) / 2) default)
    · rw [upF_go hc.1 hc.2, upF_go hc.1 hc.2, upF_fuel f g _ _ (by omega) (by omega)]
    · have : ¬(0 < i) ∨ ¬bhd (h.getD i default) (h.getD ((i - 1) / 2) default) := by
        by_cases h0 : 0 < i
        · exact .inr fun hb => hc ⟨h0, hb⟩
        · exact .inl h0
      rw [upF_stop this, upF_stop this]
theorem f_up {L : Nat} (hL : L ≤ LL) {ns : List KN} {rs : List RV} {rc : RV} {k : Int} {h : List FD} {seen has : List Bool} (hne : 0 < h.length) (hb : h.length ≤ 100000) (hF : Fars L h) :
    TurnCalls prog F.__kd_seeker__up skT [] 0 (skc ns rs rc k h seen has) (skc ns rs rc k (upF h.length h (h.length - 1)) seen has) := by
  refine symTurn_sound hmix tree___kd_seeker__up (by kernel_rfl) rfl ?_
  unfold ir___kd_seeker__up
  simp only [skc]
  refine primS (.int .i64 (h.length : Int)) rfl ?_
  refine primS (.int .i64 ((h.length - 1 : Nat) : Int)) ((d_sub64 (by omega) (by omega)).trans (by rw [show ((h.length : Int) - 1) = ((h.length - 1 : Nat) : Int) by omega])) ?_
  refine loop_st (fun s : Nat × List FD => [.int .i64 (s.1 : Int), kl ns, vl rs, .bool rc.x.neg, nl rc.x.num, nl rc.x.den, .bool rc.y.neg, nl rc.y.num, nl rc.y.den, .bool rc.z.neg, nl rc.z.num, nl rc.z.den, .int .i64 k, fl s.2, bl seen, bl has])
    (fun s => s.1 < s.2.length ∧ s.2.length = h.length ∧ Fars L s.2 ∧ upF h.length s.2 s.1 = upF h.length h (h.length - 1)) (fun s => s.1) (h.length - 1, h) ⟨by simp only; omega, rfl, hF, rfl⟩ rfl (fun _ => rfl) fun s hs X hX => ?_
  obtain ⟨i, q⟩ := s
  obtain ⟨h1, h2, h3, h4⟩ := hs
  simp only at h1 h2 h3 h4
  refine primS (.bool (decide ((0 : Int) < (i : Int)))) d_gtr ?_
  refine itD rfl (fun c => ?_) (fun c => ?_)
  · refine primS (.int .i64 ((i - 1 : Nat) : Int)) ((d_sub64 (by omega) (by omega)).trans (by rw [show ((i : Int) - 1) = ((i - 1 : Nat) : Int) by omega])) ?_
    refine primS (.int .i64 (((i - 1) / 2 : Nat) : Int)) ((d_quo64 (by omega) (by omega) (by omega)).trans (by simp)) ?_
    have hp : (i - 1) / 2 < q.length := by omega
    generalize hpp : (i - 1) / 2 = p at hp ⊢
    refine primS (.bool true) (fl_inb (by omega) (by first | omega | (dsimp only; omega))) ?_
    try simp only [List.cons_append, List.nil_append]
    try simp only [List.cons_append, List.nil_append]
    refine get_fd (j := (i : Int)) (by omega) (by rw [Int.toNat_natCast]; exact fd_at h1) (fun _ => rfl) (fun _ => rfl) ?_
    simp only [FD.l, gD, List.cons_append, List.nil_append]
    refine primS (.bool true) (fl_inb (by omega) (by first | omega | (dsimp only; omega))) ?_
    try simp only [List.cons_append, List.nil_append]
    refine get_fd (j := (p : Int)) (by omega) (by rw [Int.toNat_natCast]; exact fd_at hp) (fun _ => rfl) (fun _ => rfl) ?_
    simp only [FD.l, gD, List.cons_append, List.nil_append]
    refine call_step (f_behind (f := q.getD i default) (g := q.getD p default) (h3.get h1) (h3.get hp) hL) rfl ?_
    simp only [fa_one, fa_nil, List.cons_append, List.nil_append]
    refine primS (.bool (!decide (bhd (q.getD i default) (q.getD p default)))) rfl ?_
    refine itN rfl (fun e => ?_) (fun e => ?_)
    · refine ret_step ?_
      rw [← h4, upF_stop (.inr (by rw [hpp]; exact e))]; rfl
    · refine primS (.bool true) (fl_inb (by omega) (by first | omega | (dsimp only; omega))) ?_
      try simp only [List.cons_append, List.nil_append]
      refine get_fd (j := (p : Int)) (by omega) (by rw [Int.toNat_natCast]; exact fd_at hp) (fun _ => rfl) (fun _ => rfl) ?_
      simp only [FD.l, gD, List.cons_append, List.nil_append]
      refine primS (.bool true) (fl_inb (by omega) (by first | omega | (dsimp only; omega))) ?_
      try simp only [List.cons_append, List.nil_append]
      refine get_fd (j := (i : Int)) (by omega) (by rw [Int.toNat_natCast]; exact fd_at h1) (fun _ => rfl) (fun _ => rfl) ?_
      simp only [FD.l, gD, List.cons_append, List.nil_append]
      refine primS (.bool true) (fl_inb (by omega) (by first | omega | (dsimp only; omega))) ?_
      try simp only [List.cons_append, List.nil_append]
      refine primS (fl (q.set i (q.getD p default))) ((fl_set (f := q.getD p default) (by omega) (by omega)).trans (by rw [Int.toNat_natCast])) ?_
      refine primS (.bool true) (fl_inb (by omega) (by rw [List.length_set]; omega)) ?_
      try simp only [List.cons_append, List.nil_append]
      refine primS (fl (sw q i p)) ((fl_set (f := q.getD i default) (by omega) (by rw [List.length_set]; omega)).trans (by rw [Int.toNat_natCast]; rfl)) ?_
      refine jump_step rfl (hX (p, sw q i p) ⟨by rw [sw_len]; exact hp, by rw [sw_len]; exact h2, h3.sw h1 hp, ?_⟩ (by simp only; omega))
      rw [← h4]
      obtain ⟨g, hg⟩ : ∃ g, h.length = g + 1 := ⟨h.length - 1, by omega⟩
      rw [hg, upF_go (i := i) (by omega) (by rw [hpp]; exact e), hpp]
      exact upF_fuel _ _ _ _ (by omega) (by omega)
  · refine ret_step ?_
    rw [← h4, upF_stop (.inl (by omega))]; rfl
end Go.Px.Na

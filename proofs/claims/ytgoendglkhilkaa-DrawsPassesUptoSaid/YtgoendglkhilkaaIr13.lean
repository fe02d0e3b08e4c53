/- The trees of functions, as a tool of mine printed them. -/
import Derived.Test.YtgoendglkhilkaaIr
namespace Go.Px

def ir_draws_Need : IR :=
 .call F.draws_lay [.agg [.var 0, .var 1, .var 2, .var 3, .var 4, .var 5, .var 6, .var 7, .var 8, .var 9, .var 10, .var 11], .one (.var 12), .one (.var 13)] [.agg 4, .one] <|
 .call F._draws_layout__pass [.agg [.var 14, .var 15, .var 16, .var 17]] [.one] <|
 .prim (.bin .mul) [.var 19, .var 1] <|
 .call F.draws_truth [.one (.var 18)] [.one] <|
 .prim (.bin .mul) [.var 20, .var 21] <|
 .ret [.one (.var 22), .one (.var 18)]

def ir_penumbraref13_Need : IR :=
 .call F.penumbraref13_Check [.agg [.var 0, .var 1, .var 2, .var 3, .var 4, .var 5, .var 6, .var 7, .var 8, .var 9, .var 10, .var 11]] [.one] <|
 .prim .not [.var 14] <|
 .ite (.var 15) (
  .ret [.one (.int .i64 (0)), .one (.bol false)]) (
  .prim (.bin .lss) [.var 12, .int .i64 (1)] <|
  .ite (.var 16) (
   .ret [.one (.int .i64 (0)), .one (.bol false)]) (
   .prim (.bin .gtr) [.var 12, .int .i64 (16)] <|
   .ite (.var 17) (
    .ret [.one (.int .i64 (0)), .one (.bol false)]) (
    .prim (.bin .lss) [.var 13, .int .i64 (1)] <|
    .ite (.var 18) (
     .ret [.one (.int .i64 (0)), .one (.bol false)]) (
     .prim (.bin .gtr) [.var 13, .int .i64 (16)] <|
     .ite (.var 19) (
      .ret [.one (.int .i64 (0)), .one (.bol false)]) (
      .prim (.bin .mul) [.var 12, .var 13] <|
      .prim (.bin .mul) [.int .i64 (4), .var 3] <|
      .prim (.bin .add) [.var 21, .int .i64 (1)] <|
      .prim (.bin .mul) [.var 20, .var 22] <|
      .prim (.bin .mul) [.int .i64 (2), .var 3] <|
      .prim (.bin .add) [.var 24, .int .i64 (1)] <|
      .prim (.bin .mul) [.var 2, .var 25] <|
      .prim (.bin .add) [.var 23, .var 26] <|
      .prim (.bin .mul) [.var 1, .var 27] <|
      .ret [.one (.var 28), .one (.bol true)])))))

def ir_penumbralaw13_fixed : IR :=
 .call F.penumbralaw13_some [] [.agg 12] <|
 .call F.draws_Need [.agg [.var 0, .var 1, .var 2, .var 3, .var 4, .var 5, .var 6, .var 7, .var 8, .var 9, .var 10, .var 11], .one (.int .i64 (1)), .one (.int .i64 (1))] [.one, .one] <|
 .call F.penumbralaw13_some [] [.agg 12] <|
 .call F.draws_Index [.agg [.var 14, .var 15, .var 16, .var 17, .var 18, .var 19, .var 20, .var 21, .var 22, .var 23, .var 24, .var 25], .one (.int .i64 (1)), .one (.int .i64 (1)), .agg [.bol true, .int .i64 (1), .int .i64 (1), .int .i64 (0)]] [.one, .one] <|
 .call F.draws_Unit [.one (.int .i64 (1)), .one (.int .i64 (1))] [.agg 3, .one] <|
 .call F.draws_Unit [.one (.int .i64 (2)), .one (.int .i64 (1))] [.agg 3, .one] <|
 .prim (.bin .eql) [.var 12, .int .i64 (48)] <|
 .ite (.var 36) (
  .ite (.var 13) (
   .prim (.bin .eql) [.var 26, .int .i64 (38)] <|
   .ite (.var 37) (
    .ite (.var 27) (
     .call F.penumbraref03_Of [.one (.int .i64 (3)), .one (.int .i64 (4))] [.agg 3] <|
     .call F.penumbraref03_Is [.agg [.var 28, .var 29, .var 30], .agg [.var 38, .var 39, .var 40]] [.one] <|
     .ite (.var 41) (
      .ite (.var 31) (
       .prim .not [.var 35] <|
       .ite (.var 42) (
        .call F.penumbralaw13_some [] [.agg 12] <|
        .call F.draws_Check [.agg [.var 43, .var 44, .var 45, .var 46, .var 47, .var 48, .var 49, .var 50, .var 51, .var 52, .var 53, .var 54]] [.one] <|
        .ite (.var 55) (
         .call F.draws_Check [.agg [.int .i64 (0), .int .i64 (0), .int .i64 (0), .int .i64 (0), .int .i64 (0), .int .i64 (0), .bol false, .nil, .nil, .bol false, .nil, .nil]] [.one] <|
         .prim .not [.var 56] <|
         .ret [.one (.var 57)]) (
         .ret [.one (.bol false)])) (
        .ret [.one (.bol false)])) (
       .ret [.one (.bol false)])) (
      .ret [.one (.bol false)])) (
     .ret [.one (.bol false)])) (
    .ret [.one (.bol false)])) (
   .ret [.one (.bol false)])) (
  .ret [.one (.bol false)])

def ir_draws_Check : IR :=
 .call F.draws_within [.one (.var 0), .one (.int .i64 (0)), .one (.int .i64 (3))] [.one] <|
 .prim .not [.var 12] <|
 .ite (.var 13) (
  .ret [.one (.bol false)]) (
  .call F.draws_within [.one (.var 1), .one (.int .i64 (1)), .one (.int .i64 (16))] [.one] <|
  .prim .not [.var 14] <|
  .ite (.var 15) (
   .ret [.one (.bol false)]) (
   .call F.draws_within [.one (.var 3), .one (.int .i64 (1)), .one (.int .i64 (6))] [.one] <|
   .prim .not [.var 16] <|
   .ite (.var 17) (
    .ret [.one (.bol false)]) (
    .call F.draws_within [.one (.var 4), .one (.int .i64 (1)), .one (.int .i64 (24))] [.one] <|
    .prim .not [.var 18] <|
    .ite (.var 19) (
     .ret [.one (.bol false)]) (
     .call F.draws_small [.agg [.var 6, .var 7, .var 8]] [.one] <|
     .prim .not [.var 20] <|
     .ite (.var 21) (
      .ret [.one (.bol false)]) (
      .call F.draws_small [.agg [.var 9, .var 10, .var 11]] [.one] <|
      .prim .not [.var 22] <|
      .ite (.var 23) (
       .ret [.one (.bol false)]) (
       .call F.draws_within [.one (.var 2), .one (.int .i64 (1)), .one (.int .i64 (64))] [.one] <|
       .prim (.bin .eql) [.var 5, .int .i64 (0)] <|
       .prim (.bin .eql) [.var 0, .int .i64 (0)] <|
       .ite (.var 26) (
        .prim (.bin .eql) [.var 2, .int .i64 (0)] <|
        .prim (.bin .eql) [.var 0, .int .i64 (0)] <|
        .ite (.var 28) (
         .ite (.var 27) (
          .ite (.var 25) (
           .call F.rat_Sign [.agg [.var 6, .var 7, .var 8]] [.one] <|
           .prim (.bin .eql) [.var 29, .int .i64 (0)] <|
           .ite (.var 30) (
            .call F.rat_Sign [.agg [.var 9, .var 10, .var 11]] [.one] <|
            .prim (.bin .eql) [.var 31, .int .i64 (0)] <|
            .ret [.one (.var 32)]) (
            .ret [.one (.bol false)])) (
           .ret [.one (.bol false)])) (
          .ret [.one (.bol false)])) (
         .prim (.bin .eql) [.var 0, .int .i64 (3)] <|
         .ite (.var 29) (
          .ite (.var 27) (
           .ite (.var 25) (
            .call F.rat_Sign [.agg [.var 6, .var 7, .var 8]] [.one] <|
            .prim (.bin .eql) [.var 30, .int .i64 (0)] <|
            .ite (.var 31) (
             .call F.rat_Sign [.agg [.var 9, .var 10, .var 11]] [.one] <|
             .prim (.bin .eql) [.var 32, .int .i64 (0)] <|
             .ret [.one (.var 33)]) (
             .ret [.one (.bol false)])) (
            .ret [.one (.bol false)])) (
           .ret [.one (.bol false)])) (
          .ite (.var 27) (
           .ite (.var 25) (
            .call F.rat_Sign [.agg [.var 6, .var 7, .var 8]] [.one] <|
            .prim (.bin .gtr) [.var 30, .int .i64 (0)] <|
            .ite (.var 31) (
             .call F.rat_Sign [.agg [.var 9, .var 10, .var 11]] [.one] <|
             .prim (.bin .gtr) [.var 32, .int .i64 (0)] <|
             .ite (.var 33) (
              .call F.rat_Of [.one (.int .i64 (1)), .one (.int .i64 (1))] [.agg 3] <|
              .call F.rat_Cmp [.agg [.var 9, .var 10, .var 11], .agg [.var 34, .var 35, .var 36]] [.one] <|
              .prim (.bin .lss) [.var 37, .int .i64 (0)] <|
              .ret [.one (.var 38)]) (
              .ret [.one (.bol false)])) (
             .ret [.one (.bol false)])) (
            .ret [.one (.bol false)])) (
           .ret [.one (.bol false)])))) (
        .prim (.bin .eql) [.var 0, .int .i64 (3)] <|
        .ite (.var 27) (
         .call F.draws_within [.one (.var 5), .one (.int .i64 (1)), .one (.int .i64 (16))] [.one] <|
         .prim (.bin .eql) [.var 0, .int .i64 (0)] <|
         .ite (.var 29) (
          .ite (.var 24) (
           .ite (.var 28) (
            .call F.rat_Sign [.agg [.var 6, .var 7, .var 8]] [.one] <|
            .prim (.bin .eql) [.var 30, .int .i64 (0)] <|
            .ite (.var 31) (
             .call F.rat_Sign [.agg [.var 9, .var 10, .var 11]] [.one] <|
             .prim (.bin .eql) [.var 32, .int .i64 (0)] <|
             .ret [.one (.var 33)]) (
             .ret [.one (.bol false)])) (
            .ret [.one (.bol false)])) (
           .ret [.one (.bol false)])) (
          .prim (.bin .eql) [.var 0, .int .i64 (3)] <|
          .ite (.var 30) (
           .ite (.var 24) (
            .ite (.var 28) (
             .call F.rat_Sign [.agg [.var 6, .var 7, .var 8]] [.one] <|
             .prim (.bin .eql) [.var 31, .int .i64 (0)] <|
             .ite (.var 32) (
              .call F.rat_Sign [.agg [.var 9, .var 10, .var 11]] [.one] <|
              .prim (.bin .eql) [.var 33, .int .i64 (0)] <|
              .ret [.one (.var 34)]) (
              .ret [.one (.bol false)])) (
             .ret [.one (.bol false)])) (
            .ret [.one (.bol false)])) (
           .ite (.var 24) (
            .ite (.var 28) (
             .call F.rat_Sign [.agg [.var 6, .var 7, .var 8]] [.one] <|
             .prim (.bin .gtr) [.var 31, .int .i64 (0)] <|
             .ite (.var 32) (
              .call F.rat_Sign [.agg [.var 9, .var 10, .var 11]] [.one] <|
              .prim (.bin .gtr) [.var 33, .int .i64 (0)] <|
              .ite (.var 34) (
               .call F.rat_Of [.one (.int .i64 (1)), .one (.int .i64 (1))] [.agg 3] <|
               .call F.rat_Cmp [.agg [.var 9, .var 10, .var 11], .agg [.var 35, .var 36, .var 37]] [.one] <|
               .prim (.bin .lss) [.var 38, .int .i64 (0)] <|
               .ret [.one (.var 39)]) (
               .ret [.one (.bol false)])) (
              .ret [.one (.bol false)])) (
             .ret [.one (.bol false)])) (
            .ret [.one (.bol false)])))) (
         .prim (.bin .eql) [.var 0, .int .i64 (0)] <|
         .ite (.var 28) (
          .ite (.var 24) (
           .ite (.var 25) (
            .call F.rat_Sign [.agg [.var 6, .var 7, .var 8]] [.one] <|
            .prim (.bin .eql) [.var 29, .int .i64 (0)] <|
            .ite (.var 30) (
             .call F.rat_Sign [.agg [.var 9, .var 10, .var 11]] [.one] <|
             .prim (.bin .eql) [.var 31, .int .i64 (0)] <|
             .ret [.one (.var 32)]) (
             .ret [.one (.bol false)])) (
            .ret [.one (.bol false)])) (
           .ret [.one (.bol false)])) (
          .prim (.bin .eql) [.var 0, .int .i64 (3)] <|
          .ite (.var 29) (
           .ite (.var 24) (
            .ite (.var 25) (
             .call F.rat_Sign [.agg [.var 6, .var 7, .var 8]] [.one] <|
             .prim (.bin .eql) [.var 30, .int .i64 (0)] <|
             .ite (.var 31) (
              .call F.rat_Sign [.agg [.var 9, .var 10, .var 11]] [.one] <|
              .prim (.bin .eql) [.var 32, .int .i64 (0)] <|
              .ret [.one (.var 33)]) (
              .ret [.one (.bol false)])) (
             .ret [.one (.bol false)])) (
            .ret [.one (.bol false)])) (
           .ite (.var 24) (
            .ite (.var 25) (
             .call F.rat_Sign [.agg [.var 6, .var 7, .var 8]] [.one] <|
             .prim (.bin .gtr) [.var 30, .int .i64 (0)] <|
             .ite (.var 31) (
              .call F.rat_Sign [.agg [.var 9, .var 10, .var 11]] [.one] <|
              .prim (.bin .gtr) [.var 32, .int .i64 (0)] <|
              .ite (.var 33) (
               .call F.rat_Of [.one (.int .i64 (1)), .one (.int .i64 (1))] [.agg 3] <|
               .call F.rat_Cmp [.agg [.var 9, .var 10, .var 11], .agg [.var 34, .var 35, .var 36]] [.one] <|
               .prim (.bin .lss) [.var 37, .int .i64 (0)] <|
               .ret [.one (.var 38)]) (
               .ret [.one (.bol false)])) (
              .ret [.one (.bol false)])) (
             .ret [.one (.bol false)])) (
            .ret [.one (.bol false)])))))))))))

def ir_penumbraref13_Check : IR :=
 .prim (.bin .lss) [.var 0, .int .i64 (0)] <|
 .ite (.var 12) (
  .ret [.one (.bol false)]) (
  .prim (.bin .gtr) [.var 0, .int .i64 (3)] <|
  .ite (.var 13) (
   .ret [.one (.bol false)]) (
   .prim (.bin .lss) [.var 1, .int .i64 (1)] <|
   .ite (.var 14) (
    .ret [.one (.bol false)]) (
    .prim (.bin .gtr) [.var 1, .int .i64 (16)] <|
    .ite (.var 15) (
     .ret [.one (.bol false)]) (
     .prim (.bin .lss) [.var 3, .int .i64 (1)] <|
     .ite (.var 16) (
      .ret [.one (.bol false)]) (
      .prim (.bin .gtr) [.var 3, .int .i64 (6)] <|
      .ite (.var 17) (
       .ret [.one (.bol false)]) (
       .prim (.bin .lss) [.var 4, .int .i64 (1)] <|
       .ite (.var 18) (
        .ret [.one (.bol false)]) (
        .prim (.bin .gtr) [.var 4, .int .i64 (24)] <|
        .ite (.var 19) (
         .ret [.one (.bol false)]) (
         .call F.penumbraref13_small [.agg [.var 6, .var 7, .var 8]] [.one] <|
         .prim .not [.var 20] <|
         .ite (.var 21) (
          .ret [.one (.bol false)]) (
          .call F.penumbraref13_small [.agg [.var 9, .var 10, .var 11]] [.one] <|
          .prim .not [.var 22] <|
          .ite (.var 23) (
           .ret [.one (.bol false)]) (
           .prim (.bin .eql) [.var 0, .int .i64 (0)] <|
           .ite (.var 24) (
            .prim (.bin .neq) [.var 2, .int .i64 (0)] <|
            .ite (.var 25) (
             .ret [.one (.bol false)]) (
             .prim (.bin .neq) [.var 0, .int .i64 (0)] <|
             .ite (.var 26) (
              .prim (.bin .lss) [.var 2, .int .i64 (1)] <|
              .ite (.var 27) (
               .ret [.one (.bol false)]) (
               .prim (.bin .gtr) [.var 2, .int .i64 (64)] <|
               .ite (.var 28) (
                .ret [.one (.bol false)]) (
                .prim (.bin .eql) [.var 0, .int .i64 (3)] <|
                .ite (.var 29) (
                 .prim (.bin .lss) [.var 5, .int .i64 (1)] <|
                 .ite (.var 30) (
                  .ret [.one (.bol false)]) (
                  .prim (.bin .gtr) [.var 5, .int .i64 (16)] <|
                  .ite (.var 31) (
                   .ret [.one (.bol false)]) (
                   .prim (.bin .neq) [.var 0, .int .i64 (3)] <|
                   .ite (.var 32) (
                    .prim (.bin .neq) [.var 5, .int .i64 (0)] <|
                    .ite (.var 33) (
                     .ret [.one (.bol false)]) (
                     .prim (.bin .eql) [.var 0, .int .i64 (0)] <|
                     .ite (.var 34) (
                      .call F.penumbraref03_Sign [.agg [.var 6, .var 7, .var 8]] [.one] <|
                      .prim (.bin .eql) [.var 35, .int .i64 (0)] <|
                      .ite (.var 36) (
                       .call F.penumbraref03_Sign [.agg [.var 9, .var 10, .var 11]] [.one] <|
                       .prim (.bin .eql) [.var 37, .int .i64 (0)] <|
                       .ret [.one (.var 38)]) (
                       .ret [.one (.bol false)])) (
                      .prim (.bin .eql) [.var 0, .int .i64 (3)] <|
                      .ite (.var 35) (
                       .call F.penumbraref03_Sign [.agg [.var 6, .var 7, .var 8]] [.one] <|
                       .prim (.bin .eql) [.var 36, .int .i64 (0)] <|
                       .ite (.var 37) (
                        .call F.penumbraref03_Sign [.agg [.var 9, .var 10, .var 11]] [.one] <|
                        .prim (.bin .eql) [.var 38, .int .i64 (0)] <|
                        .ret [.one (.var 39)]) (
                        .ret [.one (.bol false)])) (
                       .call F.penumbraref03_Sign [.agg [.var 6, .var 7, .var 8]] [.one] <|
                       .prim (.bin .gtr) [.var 36, .int .i64 (0)] <|
                       .ite (.var 37) (
                        .call F.penumbraref03_Sign [.agg [.var 9, .var 10, .var 11]] [.one] <|
                        .prim (.bin .gtr) [.var 38, .int .i64 (0)] <|
                        .ite (.var 39) (
                         .call F.penumbraref03_One [] [.agg 3] <|
                         .call F.penumbraref03_Cmp [.agg [.var 9, .var 10, .var 11], .agg [.var 40, .var 41, .var 42]] [.one] <|
                         .prim (.bin .lss) [.var 43, .int .i64 (0)] <|
                         .ret [.one (.var 44)]) (
                         .ret [.one (.bol false)])) (
                        .ret [.one (.bol false)]))))) (
                    .prim (.bin .eql) [.var 0, .int .i64 (0)] <|
                    .ite (.var 33) (
                     .call F.penumbraref03_Sign [.agg [.var 6, .var 7, .var 8]] [.one] <|
                     .prim (.bin .eql) [.var 34, .int .i64 (0)] <|
                     .ite (.var 35) (
                      .call F.penumbraref03_Sign [.agg [.var 9, .var 10, .var 11]] [.one] <|
                      .prim (.bin .eql) [.var 36, .int .i64 (0)] <|
                      .ret [.one (.var 37)]) (
                      .ret [.one (.bol false)])) (
                     .prim (.bin .eql) [.var 0, .int .i64 (3)] <|
                     .ite (.var 34) (
                      .call F.penumbraref03_Sign [.agg [.var 6, .var 7, .var 8]] [.one] <|
                      .prim (.bin .eql) [.var 35, .int .i64 (0)] <|
                      .ite (.var 36) (
                       .call F.penumbraref03_Sign [.agg [.var 9, .var 10, .var 11]] [.one] <|
                       .prim (.bin .eql) [.var 37, .int .i64 (0)] <|
                       .ret [.one (.var 38)]) (
                       .ret [.one (.bol false)])) (
                      .call F.penumbraref03_Sign [.agg [.var 6, .var 7, .var 8]] [.one] <|
                      .prim (.bin .gtr) [.var 35, .int .i64 (0)] <|
                      .ite (.var 36) (
                       .call F.penumbraref03_Sign [.agg [.var 9, .var 10, .var 11]] [.one] <|
                       .prim (.bin .gtr) [.var 37, .int .i64 (0)] <|
                       .ite (.var 38) (
                        .call F.penumbraref03_One [] [.agg 3] <|
                        .call F.penumbraref03_Cmp [.agg [.var 9, .var 10, .var 11], .agg [.var 39, .var 40, .var 41]] [.one] <|
                        .prim (.bin .lss) [.var 42, .int .i64 (0)] <|
                        .ret [.one (.var 43)]) (
                        .ret [.one (.bol false)])) (
                       .ret [.one (.bol false)]))))))) (
                 .prim (.bin .neq) [.var 0, .int .i64 (3)] <|
                 .ite (.var 30) (
                  .prim (.bin .neq) [.var 5, .int .i64 (0)] <|
                  .ite (.var 31) (
                   .ret [.one (.bol false)]) (
                   .prim (.bin .eql) [.var 0, .int .i64 (0)] <|
                   .ite (.var 32) (
                    .call F.penumbraref03_Sign [.agg [.var 6, .var 7, .var 8]] [.one] <|
                    .prim (.bin .eql) [.var 33, .int .i64 (0)] <|
                    .ite (.var 34) (
                     .call F.penumbraref03_Sign [.agg [.var 9, .var 10, .var 11]] [.one] <|
                     .prim (.bin .eql) [.var 35, .int .i64 (0)] <|
                     .ret [.one (.var 36)]) (
                     .ret [.one (.bol false)])) (
                    .prim (.bin .eql) [.var 0, .int .i64 (3)] <|
                    .ite (.var 33) (
                     .call F.penumbraref03_Sign [.agg [.var 6, .var 7, .var 8]] [.one] <|
                     .prim (.bin .eql) [.var 34, .int .i64 (0)] <|
                     .ite (.var 35) (
                      .call F.penumbraref03_Sign [.agg [.var 9, .var 10, .var 11]] [.one] <|
                      .prim (.bin .eql) [.var 36, .int .i64 (0)] <|
                      .ret [.one (.var 37)]) (
                      .ret [.one (.bol false)])) (
                     .call F.penumbraref03_Sign [.agg [.var 6, .var 7, .var 8]] [.one] <|
                     .prim (.bin .gtr) [.var 34, .int .i64 (0)] <|
                     .ite (.var 35) (
                      .call F.penumbraref03_Sign [.agg [.var 9, .var 10, .var 11]] [.one] <|
                      .prim (.bin .gtr) [.var 36, .int .i64 (0)] <|
                      .ite (.var 37) (
                       .call F.penumbraref03_One [] [.agg 3] <|
                       .call F.penumbraref03_Cmp [.agg [.var 9, .var 10, .var 11], .agg [.var 38, .var 39, .var 40]] [.one] <|
                       .prim (.bin .lss) [.var 41, .int .i64 (0)] <|
                       .ret [.one (.var 42)]) (
                       .ret [.one (.bol false)])) (
                      .ret [.one (.bol false)]))))) (
                  .prim (.bin .eql) [.var 0, .int .i64 (0)] <|
                  .ite (.var 31) (
                   .call F.penumbraref03_Sign [.agg [.var 6, .var 7, .var 8]] [.one] <|
                   .prim (.bin .eql) [.var 32, .int .i64 (0)] <|
                   .ite (.var 33) (
                    .call F.penumbraref03_Sign [.agg [.var 9, .var 10, .var 11]] [.one] <|
                    .prim (.bin .eql) [.var 34, .int .i64 (0)] <|
                    .ret [.one (.var 35)]) (
                    .ret [.one (.bol false)])) (
                   .prim (.bin .eql) [.var 0, .int .i64 (3)] <|
                   .ite (.var 32) (
                    .call F.penumbraref03_Sign [.agg [.var 6, .var 7, .var 8]] [.one] <|
                    .prim (.bin .eql) [.var 33, .int .i64 (0)] <|
                    .ite (.var 34) (
                     .call F.penumbraref03_Sign [.agg [.var 9, .var 10, .var 11]] [.one] <|
                     .prim (.bin .eql) [.var 35, .int .i64 (0)] <|
                     .ret [.one (.var 36)]) (
                     .ret [.one (.bol false)])) (
                    .call F.penumbraref03_Sign [.agg [.var 6, .var 7, .var 8]] [.one] <|
                    .prim (.bin .gtr) [.var 33, .int .i64 (0)] <|
                    .ite (.var 34) (
                     .call F.penumbraref03_Sign [.agg [.var 9, .var 10, .var 11]] [.one] <|
                     .prim (.bin .gtr) [.var 35, .int .i64 (0)] <|
                     .ite (.var 36) (
                      .call F.penumbraref03_One [] [.agg 3] <|
                      .call F.penumbraref03_Cmp [.agg [.var 9, .var 10, .var 11], .agg [.var 37, .var 38, .var 39]] [.one] <|
                      .prim (.bin .lss) [.var 40, .int .i64 (0)] <|
                      .ret [.one (.var 41)]) (
                      .ret [.one (.bol false)])) (
                     .ret [.one (.bol false)])))))))) (
              .prim (.bin .eql) [.var 0, .int .i64 (3)] <|
              .ite (.var 27) (
               .prim (.bin .lss) [.var 5, .int .i64 (1)] <|
               .ite (.var 28) (
                .ret [.one (.bol false)]) (
                .prim (.bin .gtr) [.var 5, .int .i64 (16)] <|
                .ite (.var 29) (
                 .ret [.one (.bol false)]) (
                 .prim (.bin .neq) [.var 0, .int .i64 (3)] <|
                 .ite (.var 30) (
                  .prim (.bin .neq) [.var 5, .int .i64 (0)] <|
                  .ite (.var 31) (
                   .ret [.one (.bol false)]) (
                   .prim (.bin .eql) [.var 0, .int .i64 (0)] <|
                   .ite (.var 32) (
                    .call F.penumbraref03_Sign [.agg [.var 6, .var 7, .var 8]] [.one] <|
                    .prim (.bin .eql) [.var 33, .int .i64 (0)] <|
                    .ite (.var 34) (
                     .call F.penumbraref03_Sign [.agg [.var 9, .var 10, .var 11]] [.one] <|
                     .prim (.bin .eql) [.var 35, .int .i64 (0)] <|
                     .ret [.one (.var 36)]) (
                     .ret [.one (.bol false)])) (
                    .prim (.bin .eql) [.var 0, .int .i64 (3)] <|
                    .ite (.var 33) (
                     .call F.penumbraref03_Sign [.agg [.var 6, .var 7, .var 8]] [.one] <|
                     .prim (.bin .eql) [.var 34, .int .i64 (0)] <|
                     .ite (.var 35) (
                      .call F.penumbraref03_Sign [.agg [.var 9, .var 10, .var 11]] [.one] <|
                      .prim (.bin .eql) [.var 36, .int .i64 (0)] <|
                      .ret [.one (.var 37)]) (
                      .ret [.one (.bol false)])) (
                     .call F.penumbraref03_Sign [.agg [.var 6, .var 7, .var 8]] [.one] <|
                     .prim (.bin .gtr) [.var 34, .int .i64 (0)] <|
                     .ite (.var 35) (
                      .call F.penumbraref03_Sign [.agg [.var 9, .var 10, .var 11]] [.one] <|
                      .prim (.bin .gtr) [.var 36, .int .i64 (0)] <|
                      .ite (.var 37) (
                       .call F.penumbraref03_One [] [.agg 3] <|
                       .call F.penumbraref03_Cmp [.agg [.var 9, .var 10, .var 11], .agg [.var 38, .var 39, .var 40]] [.one] <|
                       .prim (.bin .lss) [.var 41, .int .i64 (0)] <|
                       .ret [.one (.var 42)]) (
                       .ret [.one (.bol false)])) (
                      .ret [.one (.bol false)]))))) (
                  .prim (.bin .eql) [.var 0, .int .i64 (0)] <|
                  .ite (.var 31) (
                   .call F.penumbraref03_Sign [.agg [.var 6, .var 7, .var 8]] [.one] <|
                   .prim (.bin .eql) [.var 32, .int .i64 (0)] <|
                   .ite (.var 33) (
                    .call F.penumbraref03_Sign [.agg [.var 9, .var 10, .var 11]] [.one] <|
                    .prim (.bin .eql) [.var 34, .int .i64 (0)] <|
                    .ret [.one (.var 35)]) (
                    .ret [.one (.bol false)])) (
                   .prim (.bin .eql) [.var 0, .int .i64 (3)] <|
                   .ite (.var 32) (
                    .call F.penumbraref03_Sign [.agg [.var 6, .var 7, .var 8]] [.one] <|
                    .prim (.bin .eql) [.var 33, .int .i64 (0)] <|
                    .ite (.var 34) (
                     .call F.penumbraref03_Sign [.agg [.var 9, .var 10, .var 11]] [.one] <|
                     .prim (.bin .eql) [.var 35, .int .i64 (0)] <|
                     .ret [.one (.var 36)]) (
                     .ret [.one (.bol false)])) (
                    .call F.penumbraref03_Sign [.agg [.var 6, .var 7, .var 8]] [.one] <|
                    .prim (.bin .gtr) [.var 33, .int .i64 (0)] <|
                    .ite (.var 34) (
                     .call F.penumbraref03_Sign [.agg [.var 9, .var 10, .var 11]] [.one] <|
                     .prim (.bin .gtr) [.var 35, .int .i64 (0)] <|
                     .ite (.var 36) (
                      .call F.penumbraref03_One [] [.agg 3] <|
                      .call F.penumbraref03_Cmp [.agg [.var 9, .var 10, .var 11], .agg [.var 37, .var 38, .var 39]] [.one] <|
                      .prim (.bin .lss) [.var 40, .int .i64 (0)] <|
                      .ret [.one (.var 41)]) (
                      .ret [.one (.bol false)])) (
                     .ret [.one (.bol false)]))))))) (
               .prim (.bin .neq) [.var 0, .int .i64 (3)] <|
               .ite (.var 28) (
                .prim (.bin .neq) [.var 5, .int .i64 (0)] <|
                .ite (.var 29) (
                 .ret [.one (.bol false)]) (
                 .prim (.bin .eql) [.var 0, .int .i64 (0)] <|
                 .ite (.var 30) (
                  .call F.penumbraref03_Sign [.agg [.var 6, .var 7, .var 8]] [.one] <|
                  .prim (.bin .eql) [.var 31, .int .i64 (0)] <|
                  .ite (.var 32) (
                   .call F.penumbraref03_Sign [.agg [.var 9, .var 10, .var 11]] [.one] <|
                   .prim (.bin .eql) [.var 33, .int .i64 (0)] <|
                   .ret [.one (.var 34)]) (
                   .ret [.one (.bol false)])) (
                  .prim (.bin .eql) [.var 0, .int .i64 (3)] <|
                  .ite (.var 31) (
                   .call F.penumbraref03_Sign [.agg [.var 6, .var 7, .var 8]] [.one] <|
                   .prim (.bin .eql) [.var 32, .int .i64 (0)] <|
                   .ite (.var 33) (
                    .call F.penumbraref03_Sign [.agg [.var 9, .var 10, .var 11]] [.one] <|
                    .prim (.bin .eql) [.var 34, .int .i64 (0)] <|
                    .ret [.one (.var 35)]) (
                    .ret [.one (.bol false)])) (
                   .call F.penumbraref03_Sign [.agg [.var 6, .var 7, .var 8]] [.one] <|
                   .prim (.bin .gtr) [.var 32, .int .i64 (0)] <|
                   .ite (.var 33) (
                    .call F.penumbraref03_Sign [.agg [.var 9, .var 10, .var 11]] [.one] <|
                    .prim (.bin .gtr) [.var 34, .int .i64 (0)] <|
                    .ite (.var 35) (
                     .call F.penumbraref03_One [] [.agg 3] <|
                     .call F.penumbraref03_Cmp [.agg [.var 9, .var 10, .var 11], .agg [.var 36, .var 37, .var 38]] [.one] <|
                     .prim (.bin .lss) [.var 39, .int .i64 (0)] <|
                     .ret [.one (.var 40)]) (
                     .ret [.one (.bol false)])) (
                    .ret [.one (.bol false)]))))) (
                .prim (.bin .eql) [.var 0, .int .i64 (0)] <|
                .ite (.var 29) (
                 .call F.penumbraref03_Sign [.agg [.var 6, .var 7, .var 8]] [.one] <|
                 .prim (.bin .eql) [.var 30, .int .i64 (0)] <|
                 .ite (.var 31) (
                  .call F.penumbraref03_Sign [.agg [.var 9, .var 10, .var 11]] [.one] <|
                  .prim (.bin .eql) [.var 32, .int .i64 (0)] <|
                  .ret [.one (.var 33)]) (
                  .ret [.one (.bol false)])) (
                 .prim (.bin .eql) [.var 0, .int .i64 (3)] <|
                 .ite (.var 30) (
                  .call F.penumbraref03_Sign [.agg [.var 6, .var 7, .var 8]] [.one] <|
                  .prim (.bin .eql) [.var 31, .int .i64 (0)] <|
                  .ite (.var 32) (
                   .call F.penumbraref03_Sign [.agg [.var 9, .var 10, .var 11]] [.one] <|
                   .prim (.bin .eql) [.var 33, .int .i64 (0)] <|
                   .ret [.one (.var 34)]) (
                   .ret [.one (.bol false)])) (
                  .call F.penumbraref03_Sign [.agg [.var 6, .var 7, .var 8]] [.one] <|
                  .prim (.bin .gtr) [.var 31, .int .i64 (0)] <|
                  .ite (.var 32) (
                   .call F.penumbraref03_Sign [.agg [.var 9, .var 10, .var 11]] [.one] <|
                   .prim (.bin .gtr) [.var 33, .int .i64 (0)] <|
                   .ite (.var 34) (
                    .call F.penumbraref03_One [] [.agg 3] <|
                    .call F.penumbraref03_Cmp [.agg [.var 9, .var 10, .var 11], .agg [.var 35, .var 36, .var 37]] [.one] <|
                    .prim (.bin .lss) [.var 38, .int .i64 (0)] <|
                    .ret [.one (.var 39)]) (
                    .ret [.one (.bol false)])) (
                   .ret [.one (.bol false)])))))))) (
            .prim (.bin .neq) [.var 0, .int .i64 (0)] <|
            .ite (.var 25) (
             .prim (.bin .lss) [.var 2, .int .i64 (1)] <|
             .ite (.var 26) (
              .ret [.one (.bol false)]) (
              .prim (.bin .gtr) [.var 2, .int .i64 (64)] <|
              .ite (.var 27) (
               .ret [.one (.bol false)]) (
               .prim (.bin .eql) [.var 0, .int .i64 (3)] <|
               .ite (.var 28) (
                .prim (.bin .lss) [.var 5, .int .i64 (1)] <|
                .ite (.var 29) (
                 .ret [.one (.bol false)]) (
                 .prim (.bin .gtr) [.var 5, .int .i64 (16)] <|
                 .ite (.var 30) (
                  .ret [.one (.bol false)]) (
                  .prim (.bin .neq) [.var 0, .int .i64 (3)] <|
                  .ite (.var 31) (
                   .prim (.bin .neq) [.var 5, .int .i64 (0)] <|
                   .ite (.var 32) (
                    .ret [.one (.bol false)]) (
                    .prim (.bin .eql) [.var 0, .int .i64 (0)] <|
                    .ite (.var 33) (
                     .call F.penumbraref03_Sign [.agg [.var 6, .var 7, .var 8]] [.one] <|
                     .prim (.bin .eql) [.var 34, .int .i64 (0)] <|
                     .ite (.var 35) (
                      .call F.penumbraref03_Sign [.agg [.var 9, .var 10, .var 11]] [.one] <|
                      .prim (.bin .eql) [.var 36, .int .i64 (0)] <|
                      .ret [.one (.var 37)]) (
                      .ret [.one (.bol false)])) (
                     .prim (.bin .eql) [.var 0, .int .i64 (3)] <|
                     .ite (.var 34) (
                      .call F.penumbraref03_Sign [.agg [.var 6, .var 7, .var 8]] [.one] <|
                      .prim (.bin .eql) [.var 35, .int .i64 (0)] <|
                      .ite (.var 36) (
                       .call F.penumbraref03_Sign [.agg [.var 9, .var 10, .var 11]] [.one] <|
                       .prim (.bin .eql) [.var 37, .int .i64 (0)] <|
                       .ret [.one (.var 38)]) (
                       .ret [.one (.bol false)])) (
                      .call F.penumbraref03_Sign [.agg [.var 6, .var 7, .var 8]] [.one] <|
                      .prim (.bin .gtr) [.var 35, .int .i64 (0)] <|
                      .ite (.var 36) (
                       .call F.penumbraref03_Sign [.agg [.var 9, .var 10, .var 11]] [.one] <|
                       .prim (.bin .gtr) [.var 37, .int .i64 (0)] <|
                       .ite (.var 38) (
                        .call F.penumbraref03_One [] [.agg 3] <|
                        .call F.penumbraref03_Cmp [.agg [.var 9, .var 10, .var 11], .agg [.var 39, .var 40, .var 41]] [.one] <|
                        .prim (.bin .lss) [.var 42, .int .i64 (0)] <|
                        .ret [.one (.var 43)]) (
                        .ret [.one (.bol false)])) (
                       .ret [.one (.bol false)]))))) (
                   .prim (.bin .eql) [.var 0, .int .i64 (0)] <|
                   .ite (.var 32) (
                    .call F.penumbraref03_Sign [.agg [.var 6, .var 7, .var 8]] [.one] <|
                    .prim (.bin .eql) [.var 33, .int .i64 (0)] <|
                    .ite (.var 34) (
                     .call F.penumbraref03_Sign [.agg [.var 9, .var 10, .var 11]] [.one] <|
                     .prim (.bin .eql) [.var 35, .int .i64 (0)] <|
                     .ret [.one (.var 36)]) (
                     .ret [.one (.bol false)])) (
                    .prim (.bin .eql) [.var 0, .int .i64 (3)] <|
                    .ite (.var 33) (
                     .call F.penumbraref03_Sign [.agg [.var 6, .var 7, .var 8]] [.one] <|
                     .prim (.bin .eql) [.var 34, .int .i64 (0)] <|
                     .ite (.var 35) (
                      .call F.penumbraref03_Sign [.agg [.var 9, .var 10, .var 11]] [.one] <|
                      .prim (.bin .eql) [.var 36, .int .i64 (0)] <|
                      .ret [.one (.var 37)]) (
                      .ret [.one (.bol false)])) (
                     .call F.penumbraref03_Sign [.agg [.var 6, .var 7, .var 8]] [.one] <|
                     .prim (.bin .gtr) [.var 34, .int .i64 (0)] <|
                     .ite (.var 35) (
                      .call F.penumbraref03_Sign [.agg [.var 9, .var 10, .var 11]] [.one] <|
                      .prim (.bin .gtr) [.var 36, .int .i64 (0)] <|
                      .ite (.var 37) (
                       .call F.penumbraref03_One [] [.agg 3] <|
                       .call F.penumbraref03_Cmp [.agg [.var 9, .var 10, .var 11], .agg [.var 38, .var 39, .var 40]] [.one] <|
                       .prim (.bin .lss) [.var 41, .int .i64 (0)] <|
                       .ret [.one (.var 42)]) (
                       .ret [.one (.bol false)])) (
                      .ret [.one (.bol false)]))))))) (
                .prim (.bin .neq) [.var 0, .int .i64 (3)] <|
                .ite (.var 29) (
                 .prim (.bin .neq) [.var 5, .int .i64 (0)] <|
                 .ite (.var 30) (
                  .ret [.one (.bol false)]) (
                  .prim (.bin .eql) [.var 0, .int .i64 (0)] <|
                  .ite (.var 31) (
                   .call F.penumbraref03_Sign [.agg [.var 6, .var 7, .var 8]] [.one] <|
                   .prim (.bin .eql) [.var 32, .int .i64 (0)] <|
                   .ite (.var 33) (
                    .call F.penumbraref03_Sign [.agg [.var 9, .var 10, .var 11]] [.one] <|
                    .prim (.bin .eql) [.var 34, .int .i64 (0)] <|
                    .ret [.one (.var 35)]) (
                    .ret [.one (.bol false)])) (
                   .prim (.bin .eql) [.var 0, .int .i64 (3)] <|
                   .ite (.var 32) (
                    .call F.penumbraref03_Sign [.agg [.var 6, .var 7, .var 8]] [.one] <|
                    .prim (.bin .eql) [.var 33, .int .i64 (0)] <|
                    .ite (.var 34) (
                     .call F.penumbraref03_Sign [.agg [.var 9, .var 10, .var 11]] [.one] <|
                     .prim (.bin .eql) [.var 35, .int .i64 (0)] <|
                     .ret [.one (.var 36)]) (
                     .ret [.one (.bol false)])) (
                    .call F.penumbraref03_Sign [.agg [.var 6, .var 7, .var 8]] [.one] <|
                    .prim (.bin .gtr) [.var 33, .int .i64 (0)] <|
                    .ite (.var 34) (
                     .call F.penumbraref03_Sign [.agg [.var 9, .var 10, .var 11]] [.one] <|
                     .prim (.bin .gtr) [.var 35, .int .i64 (0)] <|
                     .ite (.var 36) (
                      .call F.penumbraref03_One [] [.agg 3] <|
                      .call F.penumbraref03_Cmp [.agg [.var 9, .var 10, .var 11], .agg [.var 37, .var 38, .var 39]] [.one] <|
                      .prim (.bin .lss) [.var 40, .int .i64 (0)] <|
                      .ret [.one (.var 41)]) (
                      .ret [.one (.bol false)])) (
                     .ret [.one (.bol false)]))))) (
                 .prim (.bin .eql) [.var 0, .int .i64 (0)] <|
                 .ite (.var 30) (
                  .call F.penumbraref03_Sign [.agg [.var 6, .var 7, .var 8]] [.one] <|
                  .prim (.bin .eql) [.var 31, .int .i64 (0)] <|
                  .ite (.var 32) (
                   .call F.penumbraref03_Sign [.agg [.var 9, .var 10, .var 11]] [.one] <|
                   .prim (.bin .eql) [.var 33, .int .i64 (0)] <|
                   .ret [.one (.var 34)]) (
                   .ret [.one (.bol false)])) (
                  .prim (.bin .eql) [.var 0, .int .i64 (3)] <|
                  .ite (.var 31) (
                   .call F.penumbraref03_Sign [.agg [.var 6, .var 7, .var 8]] [.one] <|
                   .prim (.bin .eql) [.var 32, .int .i64 (0)] <|
                   .ite (.var 33) (
                    .call F.penumbraref03_Sign [.agg [.var 9, .var 10, .var 11]] [.one] <|
                    .prim (.bin .eql) [.var 34, .int .i64 (0)] <|
                    .ret [.one (.var 35)]) (
                    .ret [.one (.bol false)])) (
                   .call F.penumbraref03_Sign [.agg [.var 6, .var 7, .var 8]] [.one] <|
                   .prim (.bin .gtr) [.var 32, .int .i64 (0)] <|
                   .ite (.var 33) (
                    .call F.penumbraref03_Sign [.agg [.var 9, .var 10, .var 11]] [.one] <|
                    .prim (.bin .gtr) [.var 34, .int .i64 (0)] <|
                    .ite (.var 35) (
                     .call F.penumbraref03_One [] [.agg 3] <|
                     .call F.penumbraref03_Cmp [.agg [.var 9, .var 10, .var 11], .agg [.var 36, .var 37, .var 38]] [.one] <|
                     .prim (.bin .lss) [.var 39, .int .i64 (0)] <|
                     .ret [.one (.var 40)]) (
                     .ret [.one (.bol false)])) (
                    .ret [.one (.bol false)])))))))) (
             .prim (.bin .eql) [.var 0, .int .i64 (3)] <|
             .ite (.var 26) (
              .prim (.bin .lss) [.var 5, .int .i64 (1)] <|
              .ite (.var 27) (
               .ret [.one (.bol false)]) (
               .prim (.bin .gtr) [.var 5, .int .i64 (16)] <|
               .ite (.var 28) (
                .ret [.one (.bol false)]) (
                .prim (.bin .neq) [.var 0, .int .i64 (3)] <|
                .ite (.var 29) (
                 .prim (.bin .neq) [.var 5, .int .i64 (0)] <|
                 .ite (.var 30) (
                  .ret [.one (.bol false)]) (
                  .prim (.bin .eql) [.var 0, .int .i64 (0)] <|
                  .ite (.var 31) (
                   .call F.penumbraref03_Sign [.agg [.var 6, .var 7, .var 8]] [.one] <|
                   .prim (.bin .eql) [.var 32, .int .i64 (0)] <|
                   .ite (.var 33) (
                    .call F.penumbraref03_Sign [.agg [.var 9, .var 10, .var 11]] [.one] <|
                    .prim (.bin .eql) [.var 34, .int .i64 (0)] <|
                    .ret [.one (.var 35)]) (
                    .ret [.one (.bol false)])) (
                   .prim (.bin .eql) [.var 0, .int .i64 (3)] <|
                   .ite (.var 32) (
                    .call F.penumbraref03_Sign [.agg [.var 6, .var 7, .var 8]] [.one] <|
                    .prim (.bin .eql) [.var 33, .int .i64 (0)] <|
                    .ite (.var 34) (
                     .call F.penumbraref03_Sign [.agg [.var 9, .var 10, .var 11]] [.one] <|
                     .prim (.bin .eql) [.var 35, .int .i64 (0)] <|
                     .ret [.one (.var 36)]) (
                     .ret [.one (.bol false)])) (
                    .call F.penumbraref03_Sign [.agg [.var 6, .var 7, .var 8]] [.one] <|
                    .prim (.bin .gtr) [.var 33, .int .i64 (0)] <|
                    .ite (.var 34) (
                     .call F.penumbraref03_Sign [.agg [.var 9, .var 10, .var 11]] [.one] <|
                     .prim (.bin .gtr) [.var 35, .int .i64 (0)] <|
                     .ite (.var 36) (
                      .call F.penumbraref03_One [] [.agg 3] <|
                      .call F.penumbraref03_Cmp [.agg [.var 9, .var 10, .var 11], .agg [.var 37, .var 38, .var 39]] [.one] <|
                      .prim (.bin .lss) [.var 40, .int .i64 (0)] <|
                      .ret [.one (.var 41)]) (
                      .ret [.one (.bol false)])) (
                     .ret [.one (.bol false)]))))) (
                 .prim (.bin .eql) [.var 0, .int .i64 (0)] <|
                 .ite (.var 30) (
                  .call F.penumbraref03_Sign [.agg [.var 6, .var 7, .var 8]] [.one] <|
                  .prim (.bin .eql) [.var 31, .int .i64 (0)] <|
                  .ite (.var 32) (
                   .call F.penumbraref03_Sign [.agg [.var 9, .var 10, .var 11]] [.one] <|
                   .prim (.bin .eql) [.var 33, .int .i64 (0)] <|
                   .ret [.one (.var 34)]) (
                   .ret [.one (.bol false)])) (
                  .prim (.bin .eql) [.var 0, .int .i64 (3)] <|
                  .ite (.var 31) (
                   .call F.penumbraref03_Sign [.agg [.var 6, .var 7, .var 8]] [.one] <|
                   .prim (.bin .eql) [.var 32, .int .i64 (0)] <|
                   .ite (.var 33) (
                    .call F.penumbraref03_Sign [.agg [.var 9, .var 10, .var 11]] [.one] <|
                    .prim (.bin .eql) [.var 34, .int .i64 (0)] <|
                    .ret [.one (.var 35)]) (
                    .ret [.one (.bol false)])) (
                   .call F.penumbraref03_Sign [.agg [.var 6, .var 7, .var 8]] [.one] <|
                   .prim (.bin .gtr) [.var 32, .int .i64 (0)] <|
                   .ite (.var 33) (
                    .call F.penumbraref03_Sign [.agg [.var 9, .var 10, .var 11]] [.one] <|
                    .prim (.bin .gtr) [.var 34, .int .i64 (0)] <|
                    .ite (.var 35) (
                     .call F.penumbraref03_One [] [.agg 3] <|
                     .call F.penumbraref03_Cmp [.agg [.var 9, .var 10, .var 11], .agg [.var 36, .var 37, .var 38]] [.one] <|
                     .prim (.bin .lss) [.var 39, .int .i64 (0)] <|
                     .ret [.one (.var 40)]) (
                     .ret [.one (.bol false)])) (
                    .ret [.one (.bol false)]))))))) (
              .prim (.bin .neq) [.var 0, .int .i64 (3)] <|
              .ite (.var 27) (
               .prim (.bin .neq) [.var 5, .int .i64 (0)] <|
               .ite (.var 28) (
                .ret [.one (.bol false)]) (
                .prim (.bin .eql) [.var 0, .int .i64 (0)] <|
                .ite (.var 29) (
                 .call F.penumbraref03_Sign [.agg [.var 6, .var 7, .var 8]] [.one] <|
                 .prim (.bin .eql) [.var 30, .int .i64 (0)] <|
                 .ite (.var 31) (
                  .call F.penumbraref03_Sign [.agg [.var 9, .var 10, .var 11]] [.one] <|
                  .prim (.bin .eql) [.var 32, .int .i64 (0)] <|
                  .ret [.one (.var 33)]) (
                  .ret [.one (.bol false)])) (
                 .prim (.bin .eql) [.var 0, .int .i64 (3)] <|
                 .ite (.var 30) (
                  .call F.penumbraref03_Sign [.agg [.var 6, .var 7, .var 8]] [.one] <|
                  .prim (.bin .eql) [.var 31, .int .i64 (0)] <|
                  .ite (.var 32) (
                   .call F.penumbraref03_Sign [.agg [.var 9, .var 10, .var 11]] [.one] <|
                   .prim (.bin .eql) [.var 33, .int .i64 (0)] <|
                   .ret [.one (.var 34)]) (
                   .ret [.one (.bol false)])) (
                  .call F.penumbraref03_Sign [.agg [.var 6, .var 7, .var 8]] [.one] <|
                  .prim (.bin .gtr) [.var 31, .int .i64 (0)] <|
                  .ite (.var 32) (
                   .call F.penumbraref03_Sign [.agg [.var 9, .var 10, .var 11]] [.one] <|
                   .prim (.bin .gtr) [.var 33, .int .i64 (0)] <|
                   .ite (.var 34) (
                    .call F.penumbraref03_One [] [.agg 3] <|
                    .call F.penumbraref03_Cmp [.agg [.var 9, .var 10, .var 11], .agg [.var 35, .var 36, .var 37]] [.one] <|
                    .prim (.bin .lss) [.var 38, .int .i64 (0)] <|
                    .ret [.one (.var 39)]) (
                    .ret [.one (.bol false)])) (
                   .ret [.one (.bol false)]))))) (
               .prim (.bin .eql) [.var 0, .int .i64 (0)] <|
               .ite (.var 28) (
                .call F.penumbraref03_Sign [.agg [.var 6, .var 7, .var 8]] [.one] <|
                .prim (.bin .eql) [.var 29, .int .i64 (0)] <|
                .ite (.var 30) (
                 .call F.penumbraref03_Sign [.agg [.var 9, .var 10, .var 11]] [.one] <|
                 .prim (.bin .eql) [.var 31, .int .i64 (0)] <|
                 .ret [.one (.var 32)]) (
                 .ret [.one (.bol false)])) (
                .prim (.bin .eql) [.var 0, .int .i64 (3)] <|
                .ite (.var 29) (
                 .call F.penumbraref03_Sign [.agg [.var 6, .var 7, .var 8]] [.one] <|
                 .prim (.bin .eql) [.var 30, .int .i64 (0)] <|
                 .ite (.var 31) (
                  .call F.penumbraref03_Sign [.agg [.var 9, .var 10, .var 11]] [.one] <|
                  .prim (.bin .eql) [.var 32, .int .i64 (0)] <|
                  .ret [.one (.var 33)]) (
                  .ret [.one (.bol false)])) (
                 .call F.penumbraref03_Sign [.agg [.var 6, .var 7, .var 8]] [.one] <|
                 .prim (.bin .gtr) [.var 30, .int .i64 (0)] <|
                 .ite (.var 31) (
                  .call F.penumbraref03_Sign [.agg [.var 9, .var 10, .var 11]] [.one] <|
                  .prim (.bin .gtr) [.var 32, .int .i64 (0)] <|
                  .ite (.var 33) (
                   .call F.penumbraref03_One [] [.agg 3] <|
                   .call F.penumbraref03_Cmp [.agg [.var 9, .var 10, .var 11], .agg [.var 34, .var 35, .var 36]] [.one] <|
                   .prim (.bin .lss) [.var 37, .int .i64 (0)] <|
                   .ret [.one (.var 38)]) (
                   .ret [.one (.bol false)])) (
                  .ret [.one (.bol false)])))))))))))))))))

def ir_draws_Index : IR :=
 .call F.draws_lay [.agg [.var 0, .var 1, .var 2, .var 3, .var 4, .var 5, .var 6, .var 7, .var 8, .var 9, .var 10, .var 11], .one (.var 12), .one (.var 13)] [.agg 4, .one] <|
 .prim .not [.var 22] <|
 .ite (.var 23) (
  .ret [.one (.int .i64 (0)), .one (.bol false)]) (
  .prim (.bin .sub) [.var 1, .int .i64 (1)] <|
  .call F.draws_within [.one (.var 15), .one (.int .i64 (0)), .one (.var 24)] [.one] <|
  .prim .not [.var 25] <|
  .ite (.var 26) (
   .ret [.one (.int .i64 (0)), .one (.bol false)]) (
   .call F._draws_layout__pass [.agg [.var 18, .var 19, .var 20, .var 21]] [.one] <|
   .prim (.bin .mul) [.var 15, .var 27] <|
   .ite (.var 14) (
    .prim (.bin .mul) [.var 18, .var 19] <|
    .prim (.bin .add) [.var 28, .var 29] <|
    .prim (.bin .sub) [.var 20, .int .i64 (1)] <|
    .call F.draws_within [.one (.var 16), .one (.int .i64 (0)), .one (.var 31)] [.one] <|
    .prim .not [.var 32] <|
    .ite (.var 33) (
     .ret [.one (.int .i64 (0)), .one (.bol false)]) (
     .prim (.bin .sub) [.var 21, .int .i64 (1)] <|
     .call F.draws_within [.one (.var 17), .one (.int .i64 (0)), .one (.var 34)] [.one] <|
     .prim .not [.var 35] <|
     .ite (.var 36) (
      .ret [.one (.int .i64 (0)), .one (.bol false)]) (
      .prim (.bin .mul) [.var 16, .var 21] <|
      .prim (.bin .add) [.var 30, .var 37] <|
      .prim (.bin .add) [.var 38, .var 17] <|
      .ret [.one (.var 39), .one (.bol true)]))) (
    .prim (.bin .sub) [.var 18, .int .i64 (1)] <|
    .call F.draws_within [.one (.var 16), .one (.int .i64 (0)), .one (.var 29)] [.one] <|
    .prim .not [.var 30] <|
    .ite (.var 31) (
     .ret [.one (.int .i64 (0)), .one (.bol false)]) (
     .prim (.bin .sub) [.var 19, .int .i64 (1)] <|
     .call F.draws_within [.one (.var 17), .one (.int .i64 (0)), .one (.var 32)] [.one] <|
     .prim .not [.var 33] <|
     .ite (.var 34) (
      .ret [.one (.int .i64 (0)), .one (.bol false)]) (
      .prim (.bin .mul) [.var 16, .var 19] <|
      .prim (.bin .add) [.var 28, .var 35] <|
      .prim (.bin .add) [.var 36, .var 17] <|
      .ret [.one (.var 37), .one (.bol true)])))))

def ir_draws_lay : IR :=
 .call F.draws_Check [.agg [.var 0, .var 1, .var 2, .var 3, .var 4, .var 5, .var 6, .var 7, .var 8, .var 9, .var 10, .var 11]] [.one] <|
 .prim .not [.var 14] <|
 .ite (.var 15) (
  .ret [.agg [.int .i64 (0), .int .i64 (0), .int .i64 (0), .int .i64 (0)], .one (.bol false)]) (
  .call F.draws_within [.one (.var 12), .one (.int .i64 (1)), .one (.int .i64 (16))] [.one] <|
  .prim .not [.var 16] <|
  .ite (.var 17) (
   .ret [.agg [.int .i64 (0), .int .i64 (0), .int .i64 (0), .int .i64 (0)], .one (.bol false)]) (
   .call F.draws_within [.one (.var 13), .one (.int .i64 (1)), .one (.int .i64 (16))] [.one] <|
   .prim .not [.var 18] <|
   .ite (.var 19) (
    .ret [.agg [.int .i64 (0), .int .i64 (0), .int .i64 (0), .int .i64 (0)], .one (.bol false)]) (
    .prim (.bin .mul) [.var 12, .var 13] <|
    .prim (.bin .mul) [.int .i64 (4), .var 3] <|
    .prim (.bin .add) [.var 21, .int .i64 (1)] <|
    .prim (.bin .mul) [.int .i64 (2), .var 3] <|
    .prim (.bin .add) [.var 23, .int .i64 (1)] <|
    .ret [.agg [.var 20, .var 22, .var 2, .var 24], .one (.bol true)])))

def ir__draws_layout__pass : IR :=
 .prim (.bin .mul) [.var 0, .var 1] <|
 .prim (.bin .mul) [.var 2, .var 3] <|
 .prim (.bin .add) [.var 4, .var 5] <|
 .ret [.one (.var 6)]

def ir_draws_truth : IR :=
 .ite (.var 0) (
  .ret [.one (.int .i64 (1))]) (
  .ret [.one (.int .i64 (0))])

def ir_penumbralaw13_some : IR :=
 .call F.rat_Of [.one (.int .i64 (1)), .one (.int .i64 (4))] [.agg 3] <|
 .call F.rat_Of [.one (.int .i64 (2)), .one (.int .i64 (3))] [.agg 3] <|
 .ret [.agg [.int .i64 (1), .int .i64 (2), .int .i64 (3), .int .i64 (2), .int .i64 (1), .int .i64 (0), .var 0, .var 1, .var 2, .var 3, .var 4, .var 5]]

def ir_draws_Unit : IR :=
 .call F.draws_within [.one (.var 1), .one (.int .i64 (1)), .one (.int .i64 (24))] [.one] <|
 .prim .not [.var 2] <|
 .ite (.var 3) (
  .call F.rat_Of [.one (.int .i64 (0)), .one (.int .i64 (1))] [.agg 3] <|
  .ret [.agg [.var 4, .var 5, .var 6], .one (.bol false)]) (
  .prim (.bin .shl) [.int .i64 (1), .var 1] <|
  .prim (.bin .sub) [.var 4, .int .i64 (1)] <|
  .call F.draws_within [.one (.var 0), .one (.int .i64 (0)), .one (.var 5)] [.one] <|
  .prim .not [.var 6] <|
  .ite (.var 7) (
   .call F.rat_Of [.one (.int .i64 (0)), .one (.int .i64 (1))] [.agg 3] <|
   .ret [.agg [.var 8, .var 9, .var 10], .one (.bol false)]) (
   .prim (.bin .mul) [.int .i64 (2), .var 0] <|
   .prim (.bin .add) [.var 8, .int .i64 (1)] <|
   .prim (.bin .shl) [.int .i64 (2), .var 1] <|
   .call F.rat_Of [.one (.var 9), .one (.var 10)] [.agg 3] <|
   .ret [.agg [.var 11, .var 12, .var 13], .one (.bol true)]))

def ir_draws_within : IR :=
 .prim (.bin .geq) [.var 0, .var 1] <|
 .ite (.var 3) (
  .prim (.bin .leq) [.var 0, .var 2] <|
  .ret [.one (.var 4)]) (
  .ret [.one (.bol false)])

def ir_draws_small : IR :=
 .call F.rat_Check [.agg [.var 0, .var 1, .var 2]] [.one] <|
 .ite (.var 3) (
  .call F.nat_Bits [.one (.var 1)] [.one] <|
  .prim (.bin .leq) [.var 4, .int .i64 (64)] <|
  .ite (.var 5) (
   .call F.nat_Bits [.one (.var 2)] [.one] <|
   .prim (.bin .leq) [.var 6, .int .i64 (64)] <|
   .ret [.one (.var 7)]) (
   .ret [.one (.bol false)])) (
  .ret [.one (.bol false)])

def ir_penumbraref13_small : IR :=
 .call F.penumbraref03_Check [.agg [.var 0, .var 1, .var 2]] [.one] <|
 .ite (.var 3) (
  .call F.penumbraref01_Bits [.one (.var 1)] [.one] <|
  .prim (.bin .leq) [.var 4, .int .i64 (64)] <|
  .ite (.var 5) (
   .call F.penumbraref01_Bits [.one (.var 2)] [.one] <|
   .prim (.bin .leq) [.var 6, .int .i64 (64)] <|
   .ret [.one (.var 7)]) (
   .ret [.one (.bol false)])) (
  .ret [.one (.bol false)])

end Go.Px

/- The trees of functions, as a tool of mine printed them. -/
import Derived.Test.YtgoendglkhilkaaIr
namespace Go.Px

def ir_penumbralaw03_fixed : IR :=
 .call F.rat_Of [.one (.int .i64 (6)), .one (.int .i64 (-4))] [.agg 3] <|
 .call F.rat_Of [.one (.int .i64 (1)), .one (.int .i64 (2))] [.agg 3] <|
 .call F.rat_Of [.one (.int .i64 (0)), .one (.int .i64 (5))] [.agg 3] <|
 .call F.rat_Div [.agg [.var 3, .var 4, .var 5], .agg [.var 6, .var 7, .var 8]] [.agg 3, .one] <|
 .call F.rat_Of [.one (.int .i64 (4)), .one (.int .i64 (9))] [.agg 3] <|
 .call F.rat_Sqrt [.agg [.var 13, .var 14, .var 15]] [.agg 3, .one] <|
 .call F.rat_Of [.one (.int .i64 (2)), .one (.int .i64 (1))] [.agg 3] <|
 .call F.rat_Sqrt [.agg [.var 20, .var 21, .var 22]] [.agg 3, .one] <|
 .ite (.var 0) (
  .prim (.mk 1) [.int .u32 (3)] <|
  .call F.penumbraref01_Same [.one (.var 1), .one (.var 27)] [.one] <|
  .ite (.var 28) (
   .prim (.mk 1) [.int .u32 (2)] <|
   .call F.penumbraref01_Same [.one (.var 2), .one (.var 29)] [.one] <|
   .ite (.var 30) (
    .call F.rat_Of [.one (.int .i64 (1)), .one (.int .i64 (2))] [.agg 3] <|
    .call F.rat_Of [.one (.int .i64 (1)), .one (.int .i64 (3))] [.agg 3] <|
    .prim (.mk 2) [.var 31, .var 32, .var 33, .var 34, .var 35, .var 36] <|
    .call F.rat_Sum [.one (.var 37)] [.agg 3] <|
    .call F.penumbraref03_Of [.one (.int .i64 (5)), .one (.int .i64 (6))] [.agg 3] <|
    .call F.penumbraref03_Is [.agg [.var 38, .var 39, .var 40], .agg [.var 41, .var 42, .var 43]] [.one] <|
    .ite (.var 44) (
     .call F.rat_Product [.one (.nil)] [.agg 3] <|
     .call F.penumbraref03_One [] [.agg 3] <|
     .call F.penumbraref03_Is [.agg [.var 45, .var 46, .var 47], .agg [.var 48, .var 49, .var 50]] [.one] <|
     .ite (.var 51) (
      .prim .not [.var 12] <|
      .ite (.var 52) (
       .call F.penumbraref03_Of [.one (.int .i64 (2)), .one (.int .i64 (3))] [.agg 3] <|
       .call F.penumbraref03_Is [.agg [.var 16, .var 17, .var 18], .agg [.var 53, .var 54, .var 55]] [.one] <|
       .ite (.var 56) (
        .ite (.var 19) (
         .prim .not [.var 26] <|
         .ite (.var 57) (
          .call F.rat_Of [.one (.int .i64 (-1)), .one (.int .i64 (2))] [.agg 3] <|
          .call F.rat_Floor [.agg [.var 58, .var 59, .var 60]] [.agg 3] <|
          .call F.penumbraref03_Of [.one (.int .i64 (-1)), .one (.int .i64 (1))] [.agg 3] <|
          .call F.penumbraref03_Is [.agg [.var 61, .var 62, .var 63], .agg [.var 64, .var 65, .var 66]] [.one] <|
          .ret [.one (.var 67)]) (
          .ret [.one (.bol false)])) (
         .ret [.one (.bol false)])) (
        .ret [.one (.bol false)])) (
       .ret [.one (.bol false)])) (
      .ret [.one (.bol false)])) (
     .ret [.one (.bol false)])) (
    .ret [.one (.bol false)])) (
   .ret [.one (.bol false)])) (
  .ret [.one (.bol false)])

def ir_penumbralaw13_DrawsChecks : IR :=
 .call F.draws_Need [.agg [.var 0, .var 1, .var 2, .var 3, .var 4, .var 5, .var 6, .var 7, .var 8, .var 9, .var 10, .var 11], .one (.var 12), .one (.var 13)] [.one, .one] <|
 .call F.penumbraref13_Need [.agg [.var 0, .var 1, .var 2, .var 3, .var 4, .var 5, .var 6, .var 7, .var 8, .var 9, .var 10, .var 11], .one (.var 12), .one (.var 13)] [.one, .one] <|
 .call F.penumbralaw13_fixed [] [.one] <|
 .ite (.var 18) (
  .call F.draws_Check [.agg [.var 0, .var 1, .var 2, .var 3, .var 4, .var 5, .var 6, .var 7, .var 8, .var 9, .var 10, .var 11]] [.one] <|
  .call F.penumbraref13_Check [.agg [.var 0, .var 1, .var 2, .var 3, .var 4, .var 5, .var 6, .var 7, .var 8, .var 9, .var 10, .var 11]] [.one] <|
  .prim (.beq false) [.var 19, .var 20] <|
  .ite (.var 21) (
   .prim (.bin .eql) [.var 14, .var 16] <|
   .ite (.var 22) (
    .prim (.beq false) [.var 15, .var 17] <|
    .ret [.one (.var 23)]) (
    .ret [.one (.bol false)])) (
   .ret [.one (.bol false)])) (
  .ret [.one (.bol false)])

def ir_penumbralaw13_DrawsPasses : IR :=
 .call F.draws_Need [.agg [.var 0, .var 1, .var 2, .var 3, .var 4, .var 5, .var 6, .var 7, .var 8, .var 9, .var 10, .var 11], .one (.var 12), .one (.var 13)] [.one, .one] <|
 .call F.draws_Index [.agg [.var 0, .var 1, .var 2, .var 3, .var 4, .var 5, .var 6, .var 7, .var 8, .var 9, .var 10, .var 11], .one (.var 12), .one (.var 13), .agg [.var 14, .var 15, .var 16, .var 17]] [.one, .one] <|
 .call F.draws_Index [.agg [.var 0, .var 1, .var 2, .var 3, .var 4, .var 5, .var 6, .var 7, .var 8, .var 9, .var 10, .var 11], .one (.var 12), .one (.var 13), .agg [.var 14, .int .i64 (0), .var 16, .var 17]] [.one, .one] <|
 .call F.penumbralaw13_fixed [] [.one] <|
 .prim .not [.var 25] <|
 .ite (.var 26) (
  .call F.penumbralaw13_fixed [] [.one] <|
  .ret [.one (.var 27)]) (
  .prim .not [.var 20] <|
  .ite (.var 27) (
   .call F.penumbralaw13_fixed [] [.one] <|
   .ret [.one (.var 28)]) (
   .prim .not [.var 22] <|
   .ite (.var 28) (
    .call F.penumbralaw13_fixed [] [.one] <|
    .ret [.one (.var 29)]) (
    .ite (.var 24) (
     .prim (.bin .rem) [.var 19, .var 1] <|
     .prim (.bin .eql) [.var 29, .int .i64 (0)] <|
     .ite (.var 30) (
      .prim (.bin .quo) [.var 19, .var 1] <|
      .prim (.bin .mul) [.var 15, .var 31] <|
      .prim (.bin .add) [.var 23, .var 32] <|
      .prim (.bin .eql) [.var 21, .var 33] <|
      .ret [.one (.var 34)]) (
      .ret [.one (.bol false)])) (
     .ret [.one (.bol false)]))))

def ir_penumbralaw03_RatField : IR :=
 .prim (.mk 2) [.var 0, .var 1, .var 2, .var 3, .var 4, .var 5] <|
 .call F.rat_Sum [.one (.var 9)] [.agg 3] <|
 .prim (.mk 2) [.var 3, .var 4, .var 5, .var 0, .var 1, .var 2] <|
 .call F.rat_Sum [.one (.var 13)] [.agg 3] <|
 .call F.penumbraref03_Is [.agg [.var 10, .var 11, .var 12], .agg [.var 14, .var 15, .var 16]] [.one] <|
 .ite (.var 17) (
  .prim (.mk 2) [.var 10, .var 11, .var 12, .var 6, .var 7, .var 8] <|
  .call F.rat_Sum [.one (.var 18)] [.agg 3] <|
  .prim (.mk 2) [.var 3, .var 4, .var 5, .var 6, .var 7, .var 8] <|
  .call F.rat_Sum [.one (.var 22)] [.agg 3] <|
  .prim (.mk 2) [.var 0, .var 1, .var 2, .var 23, .var 24, .var 25] <|
  .call F.rat_Sum [.one (.var 26)] [.agg 3] <|
  .call F.penumbraref03_Is [.agg [.var 19, .var 20, .var 21], .agg [.var 27, .var 28, .var 29]] [.one] <|
  .ite (.var 30) (
   .prim (.mk 3) [.var 0, .var 1, .var 2, .var 3, .var 4, .var 5, .var 6, .var 7, .var 8] <|
   .call F.rat_Sum [.one (.var 31)] [.agg 3] <|
   .prim (.mk 2) [.var 10, .var 11, .var 12, .var 6, .var 7, .var 8] <|
   .call F.rat_Sum [.one (.var 35)] [.agg 3] <|
   .call F.penumbraref03_Is [.agg [.var 32, .var 33, .var 34], .agg [.var 36, .var 37, .var 38]] [.one] <|
   .ite (.var 39) (
    .call F.rat_Sub [.agg [.var 10, .var 11, .var 12], .agg [.var 3, .var 4, .var 5]] [.agg 3] <|
    .call F.rat_Read [.agg [.var 0, .var 1, .var 2]] [.agg 3] <|
    .call F.penumbraref03_Is [.agg [.var 40, .var 41, .var 42], .agg [.var 43, .var 44, .var 45]] [.one] <|
    .ite (.var 46) (
     .call F.rat_Neg [.agg [.var 0, .var 1, .var 2]] [.agg 3] <|
     .prim (.mk 2) [.var 0, .var 1, .var 2, .var 47, .var 48, .var 49] <|
     .call F.rat_Sum [.one (.var 50)] [.agg 3] <|
     .call F.rat_Sign [.agg [.var 51, .var 52, .var 53]] [.one] <|
     .prim (.bin .eql) [.var 54, .int .i64 (0)] <|
     .prim (.mk 2) [.var 0, .var 1, .var 2, .var 3, .var 4, .var 5] <|
     .call F.rat_Product [.one (.var 56)] [.agg 3] <|
     .prim (.mk 2) [.var 3, .var 4, .var 5, .var 0, .var 1, .var 2] <|
     .call F.rat_Product [.one (.var 60)] [.agg 3] <|
     .call F.penumbraref03_Is [.agg [.var 57, .var 58, .var 59], .agg [.var 61, .var 62, .var 63]] [.one] <|
     .ite (.var 64) (
      .prim (.mk 2) [.var 3, .var 4, .var 5, .var 6, .var 7, .var 8] <|
      .call F.rat_Product [.one (.var 65)] [.agg 3] <|
      .prim (.mk 2) [.var 0, .var 1, .var 2, .var 66, .var 67, .var 68] <|
      .call F.rat_Product [.one (.var 69)] [.agg 3] <|
      .prim (.mk 3) [.var 0, .var 1, .var 2, .var 3, .var 4, .var 5, .var 6, .var 7, .var 8] <|
      .call F.rat_Product [.one (.var 73)] [.agg 3] <|
      .call F.penumbraref03_Is [.agg [.var 70, .var 71, .var 72], .agg [.var 74, .var 75, .var 76]] [.one] <|
      .ite (.var 77) (
       .prim (.mk 2) [.var 10, .var 11, .var 12, .var 6, .var 7, .var 8] <|
       .call F.rat_Product [.one (.var 78)] [.agg 3] <|
       .prim (.mk 2) [.var 0, .var 1, .var 2, .var 6, .var 7, .var 8] <|
       .call F.rat_Product [.one (.var 82)] [.agg 3] <|
       .prim (.mk 2) [.var 3, .var 4, .var 5, .var 6, .var 7, .var 8] <|
       .call F.rat_Product [.one (.var 86)] [.agg 3] <|
       .prim (.mk 2) [.var 83, .var 84, .var 85, .var 87, .var 88, .var 89] <|
       .call F.rat_Sum [.one (.var 90)] [.agg 3] <|
       .call F.penumbraref03_Is [.agg [.var 79, .var 80, .var 81], .agg [.var 91, .var 92, .var 93]] [.one] <|
       .prim (.mk 2) [.var 0, .var 1, .var 2, .var 3, .var 4, .var 5] <|
       .call F.rat_Product [.one (.var 95)] [.agg 3] <|
       .call F.rat_Div [.agg [.var 96, .var 97, .var 98], .agg [.var 3, .var 4, .var 5]] [.agg 3, .one] <|
       .call F.penumbralaw03_fixed [] [.one] <|
       .ite (.var 103) (
        .ite (.var 55) (
         .ite (.var 94) (
          .call F.rat_Sign [.agg [.var 3, .var 4, .var 5]] [.one] <|
          .prim (.bin .neq) [.var 104, .int .i64 (0)] <|
          .prim (.beq false) [.var 102, .var 105] <|
          .ite (.var 106) (
           .prim .not [.var 102] <|
           .ite (.var 107) (
            .ret [.one (.bol true)]) (
            .call F.rat_Read [.agg [.var 0, .var 1, .var 2]] [.agg 3] <|
            .call F.penumbraref03_Is [.agg [.var 99, .var 100, .var 101], .agg [.var 108, .var 109, .var 110]] [.one] <|
            .ret [.one (.var 111)])) (
           .ret [.one (.bol false)])) (
          .ret [.one (.bol false)])) (
         .ret [.one (.bol false)])) (
        .ret [.one (.bol false)])) (
       .prim (.mk 2) [.var 0, .var 1, .var 2, .var 3, .var 4, .var 5] <|
       .call F.rat_Product [.one (.var 78)] [.agg 3] <|
       .call F.rat_Div [.agg [.var 79, .var 80, .var 81], .agg [.var 3, .var 4, .var 5]] [.agg 3, .one] <|
       .call F.penumbralaw03_fixed [] [.one] <|
       .ite (.var 86) (
        .ite (.var 55) (
         .ret [.one (.bol false)]) (
         .ret [.one (.bol false)])) (
        .ret [.one (.bol false)]))) (
      .prim (.mk 2) [.var 0, .var 1, .var 2, .var 3, .var 4, .var 5] <|
      .call F.rat_Product [.one (.var 65)] [.agg 3] <|
      .call F.rat_Div [.agg [.var 66, .var 67, .var 68], .agg [.var 3, .var 4, .var 5]] [.agg 3, .one] <|
      .call F.penumbralaw03_fixed [] [.one] <|
      .ite (.var 73) (
       .ite (.var 55) (
        .ret [.one (.bol false)]) (
        .ret [.one (.bol false)])) (
       .ret [.one (.bol false)]))) (
     .prim (.mk 2) [.var 0, .var 1, .var 2, .var 3, .var 4, .var 5] <|
     .call F.rat_Product [.one (.var 47)] [.agg 3] <|
     .prim (.mk 2) [.var 3, .var 4, .var 5, .var 0, .var 1, .var 2] <|
     .call F.rat_Product [.one (.var 51)] [.agg 3] <|
     .call F.penumbraref03_Is [.agg [.var 48, .var 49, .var 50], .agg [.var 52, .var 53, .var 54]] [.one] <|
     .ite (.var 55) (
      .prim (.mk 2) [.var 3, .var 4, .var 5, .var 6, .var 7, .var 8] <|
      .call F.rat_Product [.one (.var 56)] [.agg 3] <|
      .prim (.mk 2) [.var 0, .var 1, .var 2, .var 57, .var 58, .var 59] <|
      .call F.rat_Product [.one (.var 60)] [.agg 3] <|
      .prim (.mk 3) [.var 0, .var 1, .var 2, .var 3, .var 4, .var 5, .var 6, .var 7, .var 8] <|
      .call F.rat_Product [.one (.var 64)] [.agg 3] <|
      .call F.penumbraref03_Is [.agg [.var 61, .var 62, .var 63], .agg [.var 65, .var 66, .var 67]] [.one] <|
      .ite (.var 68) (
       .prim (.mk 2) [.var 10, .var 11, .var 12, .var 6, .var 7, .var 8] <|
       .call F.rat_Product [.one (.var 69)] [.agg 3] <|
       .prim (.mk 2) [.var 0, .var 1, .var 2, .var 6, .var 7, .var 8] <|
       .call F.rat_Product [.one (.var 73)] [.agg 3] <|
       .prim (.mk 2) [.var 3, .var 4, .var 5, .var 6, .var 7, .var 8] <|
       .call F.rat_Product [.one (.var 77)] [.agg 3] <|
       .prim (.mk 2) [.var 74, .var 75, .var 76, .var 78, .var 79, .var 80] <|
       .call F.rat_Sum [.one (.var 81)] [.agg 3] <|
       .call F.penumbraref03_Is [.agg [.var 70, .var 71, .var 72], .agg [.var 82, .var 83, .var 84]] [.one] <|
       .prim (.mk 2) [.var 0, .var 1, .var 2, .var 3, .var 4, .var 5] <|
       .call F.rat_Product [.one (.var 86)] [.agg 3] <|
       .call F.rat_Div [.agg [.var 87, .var 88, .var 89], .agg [.var 3, .var 4, .var 5]] [.agg 3, .one] <|
       .call F.penumbralaw03_fixed [] [.one] <|
       .ite (.var 94) (
        .ret [.one (.bol false)]) (
        .ret [.one (.bol false)])) (
       .prim (.mk 2) [.var 0, .var 1, .var 2, .var 3, .var 4, .var 5] <|
       .call F.rat_Product [.one (.var 69)] [.agg 3] <|
       .call F.rat_Div [.agg [.var 70, .var 71, .var 72], .agg [.var 3, .var 4, .var 5]] [.agg 3, .one] <|
       .call F.penumbralaw03_fixed [] [.one] <|
       .ite (.var 77) (
        .ret [.one (.bol false)]) (
        .ret [.one (.bol false)]))) (
      .prim (.mk 2) [.var 0, .var 1, .var 2, .var 3, .var 4, .var 5] <|
      .call F.rat_Product [.one (.var 56)] [.agg 3] <|
      .call F.rat_Div [.agg [.var 57, .var 58, .var 59], .agg [.var 3, .var 4, .var 5]] [.agg 3, .one] <|
      .call F.penumbralaw03_fixed [] [.one] <|
      .ite (.var 64) (
       .ret [.one (.bol false)]) (
       .ret [.one (.bol false)])))) (
    .prim (.mk 2) [.var 0, .var 1, .var 2, .var 3, .var 4, .var 5] <|
    .call F.rat_Product [.one (.var 40)] [.agg 3] <|
    .prim (.mk 2) [.var 3, .var 4, .var 5, .var 0, .var 1, .var 2] <|
    .call F.rat_Product [.one (.var 44)] [.agg 3] <|
    .call F.penumbraref03_Is [.agg [.var 41, .var 42, .var 43], .agg [.var 45, .var 46, .var 47]] [.one] <|
    .ite (.var 48) (
     .prim (.mk 2) [.var 3, .var 4, .var 5, .var 6, .var 7, .var 8] <|
     .call F.rat_Product [.one (.var 49)] [.agg 3] <|
     .prim (.mk 2) [.var 0, .var 1, .var 2, .var 50, .var 51, .var 52] <|
     .call F.rat_Product [.one (.var 53)] [.agg 3] <|
     .prim (.mk 3) [.var 0, .var 1, .var 2, .var 3, .var 4, .var 5, .var 6, .var 7, .var 8] <|
     .call F.rat_Product [.one (.var 57)] [.agg 3] <|
     .call F.penumbraref03_Is [.agg [.var 54, .var 55, .var 56], .agg [.var 58, .var 59, .var 60]] [.one] <|
     .ite (.var 61) (
      .prim (.mk 2) [.var 10, .var 11, .var 12, .var 6, .var 7, .var 8] <|
      .call F.rat_Product [.one (.var 62)] [.agg 3] <|
      .prim (.mk 2) [.var 0, .var 1, .var 2, .var 6, .var 7, .var 8] <|
      .call F.rat_Product [.one (.var 66)] [.agg 3] <|
      .prim (.mk 2) [.var 3, .var 4, .var 5, .var 6, .var 7, .var 8] <|
      .call F.rat_Product [.one (.var 70)] [.agg 3] <|
      .prim (.mk 2) [.var 67, .var 68, .var 69, .var 71, .var 72, .var 73] <|
      .call F.rat_Sum [.one (.var 74)] [.agg 3] <|
      .call F.penumbraref03_Is [.agg [.var 63, .var 64, .var 65], .agg [.var 75, .var 76, .var 77]] [.one] <|
      .prim (.mk 2) [.var 0, .var 1, .var 2, .var 3, .var 4, .var 5] <|
      .call F.rat_Product [.one (.var 79)] [.agg 3] <|
      .call F.rat_Div [.agg [.var 80, .var 81, .var 82], .agg [.var 3, .var 4, .var 5]] [.agg 3, .one] <|
      .call F.penumbralaw03_fixed [] [.one] <|
      .ite (.var 87) (
       .ret [.one (.bol false)]) (
       .ret [.one (.bol false)])) (
      .prim (.mk 2) [.var 0, .var 1, .var 2, .var 3, .var 4, .var 5] <|
      .call F.rat_Product [.one (.var 62)] [.agg 3] <|
      .call F.rat_Div [.agg [.var 63, .var 64, .var 65], .agg [.var 3, .var 4, .var 5]] [.agg 3, .one] <|
      .call F.penumbralaw03_fixed [] [.one] <|
      .ite (.var 70) (
       .ret [.one (.bol false)]) (
       .ret [.one (.bol false)]))) (
     .prim (.mk 2) [.var 0, .var 1, .var 2, .var 3, .var 4, .var 5] <|
     .call F.rat_Product [.one (.var 49)] [.agg 3] <|
     .call F.rat_Div [.agg [.var 50, .var 51, .var 52], .agg [.var 3, .var 4, .var 5]] [.agg 3, .one] <|
     .call F.penumbralaw03_fixed [] [.one] <|
     .ite (.var 57) (
      .ret [.one (.bol false)]) (
      .ret [.one (.bol false)])))) (
   .prim (.mk 2) [.var 0, .var 1, .var 2, .var 3, .var 4, .var 5] <|
   .call F.rat_Product [.one (.var 31)] [.agg 3] <|
   .prim (.mk 2) [.var 3, .var 4, .var 5, .var 0, .var 1, .var 2] <|
   .call F.rat_Product [.one (.var 35)] [.agg 3] <|
   .call F.penumbraref03_Is [.agg [.var 32, .var 33, .var 34], .agg [.var 36, .var 37, .var 38]] [.one] <|
   .ite (.var 39) (
    .prim (.mk 2) [.var 3, .var 4, .var 5, .var 6, .var 7, .var 8] <|
    .call F.rat_Product [.one (.var 40)] [.agg 3] <|
    .prim (.mk 2) [.var 0, .var 1, .var 2, .var 41, .var 42, .var 43] <|
    .call F.rat_Product [.one (.var 44)] [.agg 3] <|
    .prim (.mk 3) [.var 0, .var 1, .var 2, .var 3, .var 4, .var 5, .var 6, .var 7, .var 8] <|
    .call F.rat_Product [.one (.var 48)] [.agg 3] <|
    .call F.penumbraref03_Is [.agg [.var 45, .var 46, .var 47], .agg [.var 49, .var 50, .var 51]] [.one] <|
    .ite (.var 52) (
     .prim (.mk 2) [.var 10, .var 11, .var 12, .var 6, .var 7, .var 8] <|
     .call F.rat_Product [.one (.var 53)] [.agg 3] <|
     .prim (.mk 2) [.var 0, .var 1, .var 2, .var 6, .var 7, .var 8] <|
     .call F.rat_Product [.one (.var 57)] [.agg 3] <|
     .prim (.mk 2) [.var 3, .var 4, .var 5, .var 6, .var 7, .var 8] <|
     .call F.rat_Product [.one (.var 61)] [.agg 3] <|
     .prim (.mk 2) [.var 58, .var 59, .var 60, .var 62, .var 63, .var 64] <|
     .call F.rat_Sum [.one (.var 65)] [.agg 3] <|
     .call F.penumbraref03_Is [.agg [.var 54, .var 55, .var 56], .agg [.var 66, .var 67, .var 68]] [.one] <|
     .prim (.mk 2) [.var 0, .var 1, .var 2, .var 3, .var 4, .var 5] <|
     .call F.rat_Product [.one (.var 70)] [.agg 3] <|
     .call F.rat_Div [.agg [.var 71, .var 72, .var 73], .agg [.var 3, .var 4, .var 5]] [.agg 3, .one] <|
     .call F.penumbralaw03_fixed [] [.one] <|
     .ite (.var 78) (
      .ret [.one (.bol false)]) (
      .ret [.one (.bol false)])) (
     .prim (.mk 2) [.var 0, .var 1, .var 2, .var 3, .var 4, .var 5] <|
     .call F.rat_Product [.one (.var 53)] [.agg 3] <|
     .call F.rat_Div [.agg [.var 54, .var 55, .var 56], .agg [.var 3, .var 4, .var 5]] [.agg 3, .one] <|
     .call F.penumbralaw03_fixed [] [.one] <|
     .ite (.var 61) (
      .ret [.one (.bol false)]) (
      .ret [.one (.bol false)]))) (
    .prim (.mk 2) [.var 0, .var 1, .var 2, .var 3, .var 4, .var 5] <|
    .call F.rat_Product [.one (.var 40)] [.agg 3] <|
    .call F.rat_Div [.agg [.var 41, .var 42, .var 43], .agg [.var 3, .var 4, .var 5]] [.agg 3, .one] <|
    .call F.penumbralaw03_fixed [] [.one] <|
    .ite (.var 48) (
     .ret [.one (.bol false)]) (
     .ret [.one (.bol false)])))) (
  .prim (.mk 2) [.var 0, .var 1, .var 2, .var 3, .var 4, .var 5] <|
  .call F.rat_Product [.one (.var 18)] [.agg 3] <|
  .prim (.mk 2) [.var 3, .var 4, .var 5, .var 0, .var 1, .var 2] <|
  .call F.rat_Product [.one (.var 22)] [.agg 3] <|
  .call F.penumbraref03_Is [.agg [.var 19, .var 20, .var 21], .agg [.var 23, .var 24, .var 25]] [.one] <|
  .ite (.var 26) (
   .prim (.mk 2) [.var 3, .var 4, .var 5, .var 6, .var 7, .var 8] <|
   .call F.rat_Product [.one (.var 27)] [.agg 3] <|
   .prim (.mk 2) [.var 0, .var 1, .var 2, .var 28, .var 29, .var 30] <|
   .call F.rat_Product [.one (.var 31)] [.agg 3] <|
   .prim (.mk 3) [.var 0, .var 1, .var 2, .var 3, .var 4, .var 5, .var 6, .var 7, .var 8] <|
   .call F.rat_Product [.one (.var 35)] [.agg 3] <|
   .call F.penumbraref03_Is [.agg [.var 32, .var 33, .var 34], .agg [.var 36, .var 37, .var 38]] [.one] <|
   .ite (.var 39) (
    .prim (.mk 2) [.var 10, .var 11, .var 12, .var 6, .var 7, .var 8] <|
    .call F.rat_Product [.one (.var 40)] [.agg 3] <|
    .prim (.mk 2) [.var 0, .var 1, .var 2, .var 6, .var 7, .var 8] <|
    .call F.rat_Product [.one (.var 44)] [.agg 3] <|
    .prim (.mk 2) [.var 3, .var 4, .var 5, .var 6, .var 7, .var 8] <|
    .call F.rat_Product [.one (.var 48)] [.agg 3] <|
    .prim (.mk 2) [.var 45, .var 46, .var 47, .var 49, .var 50, .var 51] <|
    .call F.rat_Sum [.one (.var 52)] [.agg 3] <|
    .call F.penumbraref03_Is [.agg [.var 41, .var 42, .var 43], .agg [.var 53, .var 54, .var 55]] [.one] <|
    .prim (.mk 2) [.var 0, .var 1, .var 2, .var 3, .var 4, .var 5] <|
    .call F.rat_Product [.one (.var 57)] [.agg 3] <|
    .call F.rat_Div [.agg [.var 58, .var 59, .var 60], .agg [.var 3, .var 4, .var 5]] [.agg 3, .one] <|
    .call F.penumbralaw03_fixed [] [.one] <|
    .ite (.var 65) (
     .ret [.one (.bol false)]) (
     .ret [.one (.bol false)])) (
    .prim (.mk 2) [.var 0, .var 1, .var 2, .var 3, .var 4, .var 5] <|
    .call F.rat_Product [.one (.var 40)] [.agg 3] <|
    .call F.rat_Div [.agg [.var 41, .var 42, .var 43], .agg [.var 3, .var 4, .var 5]] [.agg 3, .one] <|
    .call F.penumbralaw03_fixed [] [.one] <|
    .ite (.var 48) (
     .ret [.one (.bol false)]) (
     .ret [.one (.bol false)]))) (
   .prim (.mk 2) [.var 0, .var 1, .var 2, .var 3, .var 4, .var 5] <|
   .call F.rat_Product [.one (.var 27)] [.agg 3] <|
   .call F.rat_Div [.agg [.var 28, .var 29, .var 30], .agg [.var 3, .var 4, .var 5]] [.agg 3, .one] <|
   .call F.penumbralaw03_fixed [] [.one] <|
   .ite (.var 35) (
    .ret [.one (.bol false)]) (
    .ret [.one (.bol false)])))

def ir_penumbralaw03_RatOrders : IR :=
 .call F.rat_Cmp [.agg [.var 0, .var 1, .var 2], .agg [.var 3, .var 4, .var 5]] [.one] <|
 .call F.penumbralaw03_fixed [] [.one] <|
 .prim .not [.var 10] <|
 .ite (.var 11) (
  .ret [.one (.bol false)]) (
  .call F.rat_Cmp [.agg [.var 3, .var 4, .var 5], .agg [.var 0, .var 1, .var 2]] [.one] <|
  .prim .neg [.var 9] <|
  .prim (.bin .neq) [.var 12, .var 13] <|
  .ite (.var 14) (
   .ret [.one (.bol false)]) (
   .prim (.mk 2) [.var 0, .var 1, .var 2, .var 6, .var 7, .var 8] <|
   .call F.rat_Sum [.one (.var 15)] [.agg 3] <|
   .prim (.mk 2) [.var 3, .var 4, .var 5, .var 6, .var 7, .var 8] <|
   .call F.rat_Sum [.one (.var 19)] [.agg 3] <|
   .call F.rat_Cmp [.agg [.var 16, .var 17, .var 18], .agg [.var 20, .var 21, .var 22]] [.one] <|
   .prim (.bin .neq) [.var 23, .var 9] <|
   .ite (.var 24) (
    .ret [.one (.bol false)]) (
    .prim (.mk 2) [.var 0, .var 1, .var 2, .var 6, .var 7, .var 8] <|
    .call F.rat_Product [.one (.var 25)] [.agg 3] <|
    .prim (.mk 2) [.var 3, .var 4, .var 5, .var 6, .var 7, .var 8] <|
    .call F.rat_Product [.one (.var 29)] [.agg 3] <|
    .call F.rat_Cmp [.agg [.var 26, .var 27, .var 28], .agg [.var 30, .var 31, .var 32]] [.one] <|
    .call F.rat_Sign [.agg [.var 6, .var 7, .var 8]] [.one] <|
    .prim (.bin .mul) [.var 9, .var 34] <|
    .prim (.bin .neq) [.var 33, .var 35] <|
    .ite (.var 36) (
     .ret [.one (.bol false)]) (
     .prim (.bin .leq) [.var 9, .int .i64 (0)] <|
     .ite (.var 37) (
      .call F.rat_Cmp [.agg [.var 3, .var 4, .var 5], .agg [.var 6, .var 7, .var 8]] [.one] <|
      .prim (.bin .leq) [.var 38, .int .i64 (0)] <|
      .ite (.var 39) (
       .call F.rat_Cmp [.agg [.var 0, .var 1, .var 2], .agg [.var 6, .var 7, .var 8]] [.one] <|
       .prim (.bin .gtr) [.var 40, .int .i64 (0)] <|
       .ite (.var 41) (
        .ret [.one (.bol false)]) (
        .call F.rat_Floor [.agg [.var 0, .var 1, .var 2]] [.agg 3] <|
        .call F.rat_Sub [.agg [.var 0, .var 1, .var 2], .agg [.var 42, .var 43, .var 44]] [.agg 3] <|
        .call F.rat_Sign [.agg [.var 45, .var 46, .var 47]] [.one] <|
        .prim (.bin .geq) [.var 48, .int .i64 (0)] <|
        .ite (.var 49) (
         .call F.rat_Of [.one (.int .i64 (1)), .one (.int .i64 (1))] [.agg 3] <|
         .call F.rat_Cmp [.agg [.var 45, .var 46, .var 47], .agg [.var 50, .var 51, .var 52]] [.one] <|
         .prim (.bin .lss) [.var 53, .int .i64 (0)] <|
         .ite (.var 54) (
          .call F.rat_Floor [.agg [.var 0, .var 1, .var 2]] [.agg 3] <|
          .prim (.mk 1) [.int .u32 (1)] <|
          .call F.penumbraref01_Same [.one (.var 57), .one (.var 58)] [.one] <|
          .ite (.var 59) (
           .call F.rat_Sub [.agg [.var 0, .var 1, .var 2], .agg [.var 3, .var 4, .var 5]] [.agg 3] <|
           .call F.rat_Sign [.agg [.var 60, .var 61, .var 62]] [.one] <|
           .prim (.bin .eql) [.var 63, .var 9] <|
           .ret [.one (.var 64)]) (
           .ret [.one (.bol false)])) (
          .ret [.one (.bol false)])) (
         .ret [.one (.bol false)]))) (
       .call F.rat_Floor [.agg [.var 0, .var 1, .var 2]] [.agg 3] <|
       .call F.rat_Sub [.agg [.var 0, .var 1, .var 2], .agg [.var 40, .var 41, .var 42]] [.agg 3] <|
       .call F.rat_Sign [.agg [.var 43, .var 44, .var 45]] [.one] <|
       .prim (.bin .geq) [.var 46, .int .i64 (0)] <|
       .ite (.var 47) (
        .call F.rat_Of [.one (.int .i64 (1)), .one (.int .i64 (1))] [.agg 3] <|
        .call F.rat_Cmp [.agg [.var 43, .var 44, .var 45], .agg [.var 48, .var 49, .var 50]] [.one] <|
        .prim (.bin .lss) [.var 51, .int .i64 (0)] <|
        .ite (.var 52) (
         .call F.rat_Floor [.agg [.var 0, .var 1, .var 2]] [.agg 3] <|
         .prim (.mk 1) [.int .u32 (1)] <|
         .call F.penumbraref01_Same [.one (.var 55), .one (.var 56)] [.one] <|
         .ite (.var 57) (
          .call F.rat_Sub [.agg [.var 0, .var 1, .var 2], .agg [.var 3, .var 4, .var 5]] [.agg 3] <|
          .call F.rat_Sign [.agg [.var 58, .var 59, .var 60]] [.one] <|
          .prim (.bin .eql) [.var 61, .var 9] <|
          .ret [.one (.var 62)]) (
          .ret [.one (.bol false)])) (
         .ret [.one (.bol false)])) (
        .ret [.one (.bol false)]))) (
      .call F.rat_Floor [.agg [.var 0, .var 1, .var 2]] [.agg 3] <|
      .call F.rat_Sub [.agg [.var 0, .var 1, .var 2], .agg [.var 38, .var 39, .var 40]] [.agg 3] <|
      .call F.rat_Sign [.agg [.var 41, .var 42, .var 43]] [.one] <|
      .prim (.bin .geq) [.var 44, .int .i64 (0)] <|
      .ite (.var 45) (
       .call F.rat_Of [.one (.int .i64 (1)), .one (.int .i64 (1))] [.agg 3] <|
       .call F.rat_Cmp [.agg [.var 41, .var 42, .var 43], .agg [.var 46, .var 47, .var 48]] [.one] <|
       .prim (.bin .lss) [.var 49, .int .i64 (0)] <|
       .ite (.var 50) (
        .call F.rat_Floor [.agg [.var 0, .var 1, .var 2]] [.agg 3] <|
        .prim (.mk 1) [.int .u32 (1)] <|
        .call F.penumbraref01_Same [.one (.var 53), .one (.var 54)] [.one] <|
        .ite (.var 55) (
         .call F.rat_Sub [.agg [.var 0, .var 1, .var 2], .agg [.var 3, .var 4, .var 5]] [.agg 3] <|
         .call F.rat_Sign [.agg [.var 56, .var 57, .var 58]] [.one] <|
         .prim (.bin .eql) [.var 59, .var 9] <|
         .ret [.one (.var 60)]) (
         .ret [.one (.bol false)])) (
        .ret [.one (.bol false)])) (
       .ret [.one (.bol false)]))))))

def ir_penumbralaw03_RatReckons : IR :=
 .call F.rat_Div [.agg [.var 0, .var 1, .var 2], .agg [.var 3, .var 4, .var 5]] [.agg 3, .one] <|
 .call F.penumbraref03_Div [.agg [.var 0, .var 1, .var 2], .agg [.var 3, .var 4, .var 5]] [.agg 3, .one] <|
 .call F.penumbralaw03_fixed [] [.one] <|
 .ite (.var 14) (
  .prim (.mk 2) [.var 0, .var 1, .var 2, .var 3, .var 4, .var 5] <|
  .call F.rat_Sum [.one (.var 15)] [.agg 3] <|
  .call F.penumbraref03_Add [.agg [.var 0, .var 1, .var 2], .agg [.var 3, .var 4, .var 5]] [.agg 3] <|
  .call F.penumbraref03_Is [.agg [.var 16, .var 17, .var 18], .agg [.var 19, .var 20, .var 21]] [.one] <|
  .ite (.var 22) (
   .call F.rat_Sub [.agg [.var 0, .var 1, .var 2], .agg [.var 3, .var 4, .var 5]] [.agg 3] <|
   .call F.penumbraref03_Sub [.agg [.var 0, .var 1, .var 2], .agg [.var 3, .var 4, .var 5]] [.agg 3] <|
   .call F.penumbraref03_Is [.agg [.var 23, .var 24, .var 25], .agg [.var 26, .var 27, .var 28]] [.one] <|
   .ite (.var 29) (
    .prim (.mk 2) [.var 0, .var 1, .var 2, .var 3, .var 4, .var 5] <|
    .call F.rat_Product [.one (.var 30)] [.agg 3] <|
    .call F.penumbraref03_Mul [.agg [.var 0, .var 1, .var 2], .agg [.var 3, .var 4, .var 5]] [.agg 3] <|
    .call F.penumbraref03_Is [.agg [.var 31, .var 32, .var 33], .agg [.var 34, .var 35, .var 36]] [.one] <|
    .ite (.var 37) (
     .call F.penumbraref03_Is [.agg [.var 6, .var 7, .var 8], .agg [.var 10, .var 11, .var 12]] [.one] <|
     .ite (.var 38) (
      .prim (.beq false) [.var 9, .var 13] <|
      .ite (.var 39) (
       .call F.rat_Cmp [.agg [.var 0, .var 1, .var 2], .agg [.var 3, .var 4, .var 5]] [.one] <|
       .call F.penumbraref03_Cmp [.agg [.var 0, .var 1, .var 2], .agg [.var 3, .var 4, .var 5]] [.one] <|
       .prim (.bin .eql) [.var 40, .var 41] <|
       .ite (.var 42) (
        .call F.rat_Same [.agg [.var 0, .var 1, .var 2], .agg [.var 3, .var 4, .var 5]] [.one] <|
        .call F.penumbraref03_Cmp [.agg [.var 0, .var 1, .var 2], .agg [.var 3, .var 4, .var 5]] [.one] <|
        .prim (.bin .eql) [.var 44, .int .i64 (0)] <|
        .prim (.beq false) [.var 43, .var 45] <|
        .ret [.one (.var 46)]) (
        .ret [.one (.bol false)])) (
       .ret [.one (.bol false)])) (
      .ret [.one (.bol false)])) (
     .ret [.one (.bol false)])) (
    .ret [.one (.bol false)])) (
   .ret [.one (.bol false)])) (
  .ret [.one (.bol false)])

def ir_penumbralaw03_RatReads : IR :=
 .call F.penumbralaw03_fixed [] [.one] <|
 .ite (.var 5) (
  .call F.rat_Read [.agg [.var 0, .var 1, .var 2]] [.agg 3] <|
  .call F.penumbraref03_Read [.agg [.var 0, .var 1, .var 2]] [.agg 3] <|
  .call F.penumbraref03_Is [.agg [.var 6, .var 7, .var 8], .agg [.var 9, .var 10, .var 11]] [.one] <|
  .ite (.var 12) (
   .call F.rat_Check [.agg [.var 0, .var 1, .var 2]] [.one] <|
   .call F.penumbraref03_Check [.agg [.var 0, .var 1, .var 2]] [.one] <|
   .prim (.beq false) [.var 13, .var 14] <|
   .ite (.var 15) (
    .call F.rat_Sign [.agg [.var 0, .var 1, .var 2]] [.one] <|
    .call F.penumbraref03_Sign [.agg [.var 0, .var 1, .var 2]] [.one] <|
    .prim (.bin .eql) [.var 16, .var 17] <|
    .ite (.var 18) (
     .call F.rat_Abs [.agg [.var 0, .var 1, .var 2]] [.agg 3] <|
     .call F.penumbraref03_Abs [.agg [.var 0, .var 1, .var 2]] [.agg 3] <|
     .call F.penumbraref03_Is [.agg [.var 19, .var 20, .var 21], .agg [.var 22, .var 23, .var 24]] [.one] <|
     .ite (.var 25) (
      .call F.rat_Neg [.agg [.var 0, .var 1, .var 2]] [.agg 3] <|
      .call F.penumbraref03_Neg [.agg [.var 0, .var 1, .var 2]] [.agg 3] <|
      .call F.penumbraref03_Is [.agg [.var 26, .var 27, .var 28], .agg [.var 29, .var 30, .var 31]] [.one] <|
      .ite (.var 32) (
       .call F.rat_Of [.one (.var 3), .one (.var 4)] [.agg 3] <|
       .call F.penumbraref03_Of [.one (.var 3), .one (.var 4)] [.agg 3] <|
       .call F.penumbraref03_Is [.agg [.var 33, .var 34, .var 35], .agg [.var 36, .var 37, .var 38]] [.one] <|
       .ret [.one (.var 39)]) (
       .ret [.one (.bol false)])) (
      .ret [.one (.bol false)])) (
     .ret [.one (.bol false)])) (
    .ret [.one (.bol false)])) (
   .ret [.one (.bol false)])) (
  .ret [.one (.bol false)])

def ir_penumbralaw06_FrameLays : IR :=
 .call F.frame_Of [.agg [.var 0, .var 1, .var 2, .var 3, .var 4, .var 5, .var 6, .var 7, .var 8]] [.agg 27, .one] <|
 .call F.penumbraref06_Of [.agg [.var 0, .var 1, .var 2, .var 3, .var 4, .var 5, .var 6, .var 7, .var 8]] [.agg 27, .one] <|
 .call F.penumbralaw06_fixed [] [.one] <|
 .ite (.var 65) (
  .call F.penumbraref06_Is [.agg [.var 9, .var 10, .var 11, .var 12, .var 13, .var 14, .var 15, .var 16, .var 17, .var 18, .var 19, .var 20, .var 21, .var 22, .var 23, .var 24, .var 25, .var 26, .var 27, .var 28, .var 29, .var 30, .var 31, .var 32, .var 33, .var 34, .var 35], .agg [.var 37, .var 38, .var 39, .var 40, .var 41, .var 42, .var 43, .var 44, .var 45, .var 46, .var 47, .var 48, .var 49, .var 50, .var 51, .var 52, .var 53, .var 54, .var 55, .var 56, .var 57, .var 58, .var 59, .var 60, .var 61, .var 62, .var 63]] [.one] <|
  .ite (.var 66) (
   .prim (.beq false) [.var 36, .var 64] <|
   .ret [.one (.var 67)]) (
   .ret [.one (.bol false)])) (
  .ret [.one (.bol false)])

end Go.Px

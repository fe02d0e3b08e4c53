/- Wd: how likely each way finds a path: the document's answer. -/
import Derived.Test.YtnohcccgfefnkaaGreatFx
import Derived.Test.YtnohcccgfefnkaaGreatFv
set_option maxRecDepth 20000
set_option maxHeartbeats 40000000
set_option linter.unusedVariables false
set_option linter.unusedSimpArgs false
namespace Go.Px
open Go.RowKit
def ir_penumbraref18_May : IR :=
 .prim .len [.var 3] <|
 .prim (.bin .geq) [.var 71, .int .i64 (1)] <|
 .ite (.var 72) (
  .prim (.bin .leq) [.var 71, .int .i64 (16)] <|
  .ite (.var 73) (
   .prim .len [.var 4] <|
   .prim (.bin .sub) [.var 71, .int .i64 (1)] <|
   .prim (.bin .eql) [.var 74, .var 75] <|
   .ite (.var 76) (
    .prim (.bin .geq) [.var 63, .int .i64 (1)] <|
    .ite (.var 77) (
     .prim (.bin .leq) [.var 63, .int .i64 (16)] <|
     .ite (.var 78) (
      .prim (.bin .geq) [.var 64, .int .i64 (1)] <|
      .ite (.var 79) (
       .prim (.bin .leq) [.var 64, .int .i64 (16)] <|
       .ret [.one (.var 80)]) (
       .ret [.one (.bol false)])) (
      .ret [.one (.bol false)])) (
     .ret [.one (.bol false)])) (
    .ret [.one (.bol false)])) (
   .ret [.one (.bol false)])) (
  .ret [.one (.bol false)])

def ir_penumbraref18_A : IR :=
 .prim (.bin .eql) [.var 71, .int .i64 (0)] <|
 .ite (.var 72) (
  .call F.penumbraref03_One [] [.agg 3] <|
  .ret [.agg [.var 73, .var 74, .var 75]]) (
  .call F.penumbraref03_Read [.agg [.var 0, .var 1, .var 2]] [.agg 3] <|
  .loop [.var 71, .int .i64 (1), .var 0, .var 1, .var 2, .var 3, .var 4, .var 5, .var 6, .var 7, .var 8, .var 9, .var 10, .var 11, .var 12, .var 13, .var 14, .var 15, .var 16, .var 17, .var 18, .var 19, .var 20, .var 21, .var 22, .var 23, .var 24, .var 25, .var 26, .var 27, .var 28, .var 29, .var 30, .var 31, .var 32, .var 33, .var 34, .var 35, .var 36, .var 37, .var 38, .var 39, .var 40, .var 41, .var 42, .var 43, .var 44, .var 45, .var 46, .var 47, .var 48, .var 49, .var 50, .var 51, .var 52, .var 53, .var 54, .var 55, .var 56, .var 57, .var 58, .var 59, .var 60, .var 61, .var 62, .var 63, .var 64, .var 65, .var 66, .var 67, .var 68, .var 69, .var 70, .var 73, .var 74, .var 75] (
   .prim (.bin .lss) [.var 1, .var 0] <|
   .ite (.var 76) (
    .prim (.bin .sub) [.var 1, .int .i64 (1)] <|
    .prim (.inb 18) [.var 5, .var 77] <|
    .prim (.get 18 0) [.var 5, .var 77] <|
    .prim (.get 18 1) [.var 5, .var 77] <|
    .prim (.get 18 2) [.var 5, .var 77] <|
    .prim (.get 18 3) [.var 5, .var 77] <|
    .prim (.get 18 4) [.var 5, .var 77] <|
    .prim (.get 18 5) [.var 5, .var 77] <|
    .prim (.get 18 6) [.var 5, .var 77] <|
    .prim (.get 18 7) [.var 5, .var 77] <|
    .prim (.get 18 8) [.var 5, .var 77] <|
    .prim (.get 18 9) [.var 5, .var 77] <|
    .prim (.get 18 10) [.var 5, .var 77] <|
    .prim (.get 18 11) [.var 5, .var 77] <|
    .prim (.get 18 12) [.var 5, .var 77] <|
    .prim (.get 18 13) [.var 5, .var 77] <|
    .prim (.get 18 14) [.var 5, .var 77] <|
    .prim (.get 18 15) [.var 5, .var 77] <|
    .prim (.get 18 16) [.var 5, .var 77] <|
    .prim (.get 18 17) [.var 5, .var 77] <|
    .prim (.inb 18) [.var 5, .var 1] <|
    .prim (.get 18 0) [.var 5, .var 1] <|
    .prim (.get 18 1) [.var 5, .var 1] <|
    .prim (.get 18 2) [.var 5, .var 1] <|
    .prim (.get 18 3) [.var 5, .var 1] <|
    .prim (.get 18 4) [.var 5, .var 1] <|
    .prim (.get 18 5) [.var 5, .var 1] <|
    .prim (.get 18 6) [.var 5, .var 1] <|
    .prim (.get 18 7) [.var 5, .var 1] <|
    .prim (.get 18 8) [.var 5, .var 1] <|
    .prim (.get 18 9) [.var 5, .var 1] <|
    .prim (.get 18 10) [.var 5, .var 1] <|
    .prim (.get 18 11) [.var 5, .var 1] <|
    .prim (.get 18 12) [.var 5, .var 1] <|
    .prim (.get 18 13) [.var 5, .var 1] <|
    .prim (.get 18 14) [.var 5, .var 1] <|
    .prim (.get 18 15) [.var 5, .var 1] <|
    .prim (.get 18 16) [.var 5, .var 1] <|
    .prim (.get 18 17) [.var 5, .var 1] <|
    .prim (.bin .sub) [.var 1, .int .i64 (1)] <|
    .prim (.inb 40) [.var 6, .var 116] <|
    .prim (.get 40 0) [.var 6, .var 116] <|
    .prim (.get 40 1) [.var 6, .var 116] <|
    .prim (.get 40 2) [.var 6, .var 116] <|
    .prim (.get 40 3) [.var 6, .var 116] <|
    .prim (.get 40 4) [.var 6, .var 116] <|
    .prim (.get 40 5) [.var 6, .var 116] <|
    .prim (.get 40 6) [.var 6, .var 116] <|
    .prim (.get 40 7) [.var 6, .var 116] <|
    .prim (.get 40 8) [.var 6, .var 116] <|
    .prim (.get 40 9) [.var 6, .var 116] <|
    .prim (.get 40 10) [.var 6, .var 116] <|
    .prim (.get 40 11) [.var 6, .var 116] <|
    .prim (.get 40 12) [.var 6, .var 116] <|
    .prim (.get 40 13) [.var 6, .var 116] <|
    .prim (.get 40 14) [.var 6, .var 116] <|
    .prim (.get 40 15) [.var 6, .var 116] <|
    .prim (.get 40 16) [.var 6, .var 116] <|
    .prim (.get 40 17) [.var 6, .var 116] <|
    .prim (.get 40 18) [.var 6, .var 116] <|
    .prim (.get 40 19) [.var 6, .var 116] <|
    .prim (.get 40 20) [.var 6, .var 116] <|
    .prim (.get 40 21) [.var 6, .var 116] <|
    .prim (.get 40 22) [.var 6, .var 116] <|
    .prim (.get 40 23) [.var 6, .var 116] <|
    .prim (.get 40 24) [.var 6, .var 116] <|
    .prim (.get 40 25) [.var 6, .var 116] <|
    .prim (.get 40 26) [.var 6, .var 116] <|
    .prim (.get 40 27) [.var 6, .var 116] <|
    .prim (.get 40 28) [.var 6, .var 116] <|
    .prim (.get 40 29) [.var 6, .var 116] <|
    .prim (.get 40 30) [.var 6, .var 116] <|
    .prim (.get 40 31) [.var 6, .var 116] <|
    .prim (.get 40 32) [.var 6, .var 116] <|
    .prim (.get 40 33) [.var 6, .var 116] <|
    .prim (.get 40 34) [.var 6, .var 116] <|
    .prim (.get 40 35) [.var 6, .var 116] <|
    .call F.penumbraref16_Ahead [.agg [.var 79, .var 80, .var 81, .var 82, .var 83, .var 84, .var 85, .var 86, .var 87, .var 88, .var 89, .var 90, .var 91, .var 92, .var 93, .var 94, .var 95, .var 96], .agg [.var 98, .var 99, .var 100, .var 101, .var 102, .var 103, .var 104, .var 105, .var 106, .var 107, .var 108, .var 109, .var 110, .var 111, .var 112, .var 113, .var 114, .var 115], .agg [.var 118, .var 119, .var 120, .var 121, .var 122, .var 123, .var 124, .var 125, .var 126, .var 127, .var 128, .var 129, .var 130, .var 131, .var 132, .var 133, .var 134, .var 135, .var 136, .var 137, .var 138, .var 139, .var 140, .var 141, .var 142, .var 143, .var 144, .var 145, .var 146, .var 147, .var 148, .var 149, .var 150, .var 151, .var 152, .var 153]] [.agg 3] <|
    .call F.penumbraref03_Mul [.agg [.var 73, .var 74, .var 75], .agg [.var 154, .var 155, .var 156]] [.agg 3] <|
    .prim (.bin .add) [.var 1, .int .i64 (1)] <|
    .jump 0 [.var 0, .var 160, .var 2, .var 3, .var 4, .var 5, .var 6, .var 7, .var 8, .var 9, .var 10, .var 11, .var 12, .var 13, .var 14, .var 15, .var 16, .var 17, .var 18, .var 19, .var 20, .var 21, .var 22, .var 23, .var 24, .var 25, .var 26, .var 27, .var 28, .var 29, .var 30, .var 31, .var 32, .var 33, .var 34, .var 35, .var 36, .var 37, .var 38, .var 39, .var 40, .var 41, .var 42, .var 43, .var 44, .var 45, .var 46, .var 47, .var 48, .var 49, .var 50, .var 51, .var 52, .var 53, .var 54, .var 55, .var 56, .var 57, .var 58, .var 59, .var 60, .var 61, .var 62, .var 63, .var 64, .var 65, .var 66, .var 67, .var 68, .var 69, .var 70, .var 71, .var 72, .var 157, .var 158, .var 159]) (
    .ret [.agg [.var 73, .var 74, .var 75]])))

def ir_penumbraref18_B : IR :=
 .prim .len [.var 3] <|
 .prim (.bin .eql) [.var 71, .var 72] <|
 .ite (.var 73) (
  .call F.penumbraref03_One [] [.agg 3] <|
  .ret [.agg [.var 74, .var 75, .var 76]]) (
  .prim (.bin .sub) [.var 72, .int .i64 (1)] <|
  .prim (.inb 18) [.var 3, .var 74] <|
  .prim (.get 18 0) [.var 3, .var 74] <|
  .prim (.get 18 1) [.var 3, .var 74] <|
  .prim (.get 18 2) [.var 3, .var 74] <|
  .prim (.get 18 3) [.var 3, .var 74] <|
  .prim (.get 18 4) [.var 3, .var 74] <|
  .prim (.get 18 5) [.var 3, .var 74] <|
  .prim (.get 18 6) [.var 3, .var 74] <|
  .prim (.get 18 7) [.var 3, .var 74] <|
  .prim (.get 18 8) [.var 3, .var 74] <|
  .prim (.get 18 9) [.var 3, .var 74] <|
  .prim (.get 18 10) [.var 3, .var 74] <|
  .prim (.get 18 11) [.var 3, .var 74] <|
  .prim (.get 18 12) [.var 3, .var 74] <|
  .prim (.get 18 13) [.var 3, .var 74] <|
  .prim (.get 18 14) [.var 3, .var 74] <|
  .prim (.get 18 15) [.var 3, .var 74] <|
  .prim (.get 18 16) [.var 3, .var 74] <|
  .prim (.get 18 17) [.var 3, .var 74] <|
  .call F.penumbraref16_Film [.agg [.var 45, .var 46, .var 47, .var 48, .var 49, .var 50, .var 51, .var 52, .var 53, .var 54, .var 55, .var 56, .var 57, .var 58, .var 59, .var 60, .var 61, .var 62, .var 63, .var 64, .var 65, .var 66, .var 67], .agg [.var 76, .var 77, .var 78, .var 79, .var 80, .var 81, .var 82, .var 83, .var 84, .var 85, .var 86, .var 87, .var 88, .var 89, .var 90, .var 91, .var 92, .var 93], .agg [.var 5, .var 6, .var 7, .var 8, .var 9, .var 10, .var 11, .var 12, .var 13, .var 14, .var 15, .var 16, .var 17, .var 18, .var 19, .var 20, .var 21, .var 22, .var 23, .var 24, .var 25, .var 26, .var 27, .var 28, .var 29, .var 30, .var 31, .var 32, .var 33, .var 34, .var 35, .var 36, .var 37, .var 38, .var 39, .var 40]] [.one, .agg 3, .one] <|
  .prim (.bin .sub) [.var 72, .int .i64 (2)] <|
  .loop [.var 71, .var 99, .var 0, .var 1, .var 2, .var 3, .var 4, .var 5, .var 6, .var 7, .var 8, .var 9, .var 10, .var 11, .var 12, .var 13, .var 14, .var 15, .var 16, .var 17, .var 18, .var 19, .var 20, .var 21, .var 22, .var 23, .var 24, .var 25, .var 26, .var 27, .var 28, .var 29, .var 30, .var 31, .var 32, .var 33, .var 34, .var 35, .var 36, .var 37, .var 38, .var 39, .var 40, .var 41, .var 42, .var 43, .var 44, .var 45, .var 46, .var 47, .var 48, .var 49, .var 50, .var 51, .var 52, .var 53, .var 54, .var 55, .var 56, .var 57, .var 58, .var 59, .var 60, .var 61, .var 62, .var 63, .var 64, .var 65, .var 66, .var 67, .var 68, .var 69, .var 70, .var 95, .var 96, .var 97] (
   .prim (.bin .geq) [.var 1, .var 0] <|
   .ite (.var 76) (
    .prim (.inb 40) [.var 6, .var 1] <|
    .prim (.get 40 0) [.var 6, .var 1] <|
    .prim (.get 40 1) [.var 6, .var 1] <|
    .prim (.get 40 2) [.var 6, .var 1] <|
    .prim (.get 40 3) [.var 6, .var 1] <|
    .prim (.get 40 4) [.var 6, .var 1] <|
    .prim (.get 40 5) [.var 6, .var 1] <|
    .prim (.get 40 6) [.var 6, .var 1] <|
    .prim (.get 40 7) [.var 6, .var 1] <|
    .prim (.get 40 8) [.var 6, .var 1] <|
    .prim (.get 40 9) [.var 6, .var 1] <|
    .prim (.get 40 10) [.var 6, .var 1] <|
    .prim (.get 40 11) [.var 6, .var 1] <|
    .prim (.get 40 12) [.var 6, .var 1] <|
    .prim (.get 40 13) [.var 6, .var 1] <|
    .prim (.get 40 14) [.var 6, .var 1] <|
    .prim (.get 40 15) [.var 6, .var 1] <|
    .prim (.get 40 16) [.var 6, .var 1] <|
    .prim (.get 40 17) [.var 6, .var 1] <|
    .prim (.get 40 18) [.var 6, .var 1] <|
    .prim (.get 40 19) [.var 6, .var 1] <|
    .prim (.get 40 20) [.var 6, .var 1] <|
    .prim (.get 40 21) [.var 6, .var 1] <|
    .prim (.get 40 22) [.var 6, .var 1] <|
    .prim (.get 40 23) [.var 6, .var 1] <|
    .prim (.get 40 24) [.var 6, .var 1] <|
    .prim (.get 40 25) [.var 6, .var 1] <|
    .prim (.get 40 26) [.var 6, .var 1] <|
    .prim (.get 40 27) [.var 6, .var 1] <|
    .prim (.get 40 28) [.var 6, .var 1] <|
    .prim (.get 40 29) [.var 6, .var 1] <|
    .prim (.get 40 30) [.var 6, .var 1] <|
    .prim (.get 40 31) [.var 6, .var 1] <|
    .prim (.get 40 32) [.var 6, .var 1] <|
    .prim (.get 40 33) [.var 6, .var 1] <|
    .prim (.get 40 34) [.var 6, .var 1] <|
    .prim (.get 40 35) [.var 6, .var 1] <|
    .call F.penumbraref07_Inverse [.agg [.var 78, .var 79, .var 80, .var 81, .var 82, .var 83, .var 84, .var 85, .var 86, .var 87, .var 88, .var 89, .var 90, .var 91, .var 92, .var 93, .var 94, .var 95, .var 96, .var 97, .var 98, .var 99, .var 100, .var 101, .var 102, .var 103, .var 104, .var 105, .var 106, .var 107, .var 108, .var 109, .var 110, .var 111, .var 112, .var 113]] [.agg 36, .one] <|
    .prim .not [.var 150] <|
    .ite (.var 151) (
     .call F.penumbraref03_Zero [] [.agg 3] <|
     .ret [.agg [.var 152, .var 153, .var 154]]) (
     .prim (.bin .add) [.var 1, .int .i64 (1)] <|
     .prim (.inb 18) [.var 5, .var 152] <|
     .prim (.get 18 0) [.var 5, .var 152] <|
     .prim (.get 18 1) [.var 5, .var 152] <|
     .prim (.get 18 2) [.var 5, .var 152] <|
     .prim (.get 18 3) [.var 5, .var 152] <|
     .prim (.get 18 4) [.var 5, .var 152] <|
     .prim (.get 18 5) [.var 5, .var 152] <|
     .prim (.get 18 6) [.var 5, .var 152] <|
     .prim (.get 18 7) [.var 5, .var 152] <|
     .prim (.get 18 8) [.var 5, .var 152] <|
     .prim (.get 18 9) [.var 5, .var 152] <|
     .prim (.get 18 10) [.var 5, .var 152] <|
     .prim (.get 18 11) [.var 5, .var 152] <|
     .prim (.get 18 12) [.var 5, .var 152] <|
     .prim (.get 18 13) [.var 5, .var 152] <|
     .prim (.get 18 14) [.var 5, .var 152] <|
     .prim (.get 18 15) [.var 5, .var 152] <|
     .prim (.get 18 16) [.var 5, .var 152] <|
     .prim (.get 18 17) [.var 5, .var 152] <|
     .prim (.inb 18) [.var 5, .var 1] <|
     .prim (.get 18 0) [.var 5, .var 1] <|
     .prim (.get 18 1) [.var 5, .var 1] <|
     .prim (.get 18 2) [.var 5, .var 1] <|
     .prim (.get 18 3) [.var 5, .var 1] <|
     .prim (.get 18 4) [.var 5, .var 1] <|
     .prim (.get 18 5) [.var 5, .var 1] <|
     .prim (.get 18 6) [.var 5, .var 1] <|
     .prim (.get 18 7) [.var 5, .var 1] <|
     .prim (.get 18 8) [.var 5, .var 1] <|
     .prim (.get 18 9) [.var 5, .var 1] <|
     .prim (.get 18 10) [.var 5, .var 1] <|
     .prim (.get 18 11) [.var 5, .var 1] <|
     .prim (.get 18 12) [.var 5, .var 1] <|
     .prim (.get 18 13) [.var 5, .var 1] <|
     .prim (.get 18 14) [.var 5, .var 1] <|
     .prim (.get 18 15) [.var 5, .var 1] <|
     .prim (.get 18 16) [.var 5, .var 1] <|
     .prim (.get 18 17) [.var 5, .var 1] <|
     .call F.penumbraref16_Ahead [.agg [.var 154, .var 155, .var 156, .var 157, .var 158, .var 159, .var 160, .var 161, .var 162, .var 163, .var 164, .var 165, .var 166, .var 167, .var 168, .var 169, .var 170, .var 171], .agg [.var 173, .var 174, .var 175, .var 176, .var 177, .var 178, .var 179, .var 180, .var 181, .var 182, .var 183, .var 184, .var 185, .var 186, .var 187, .var 188, .var 189, .var 190], .agg [.var 114, .var 115, .var 116, .var 117, .var 118, .var 119, .var 120, .var 121, .var 122, .var 123, .var 124, .var 125, .var 126, .var 127, .var 128, .var 129, .var 130, .var 131, .var 132, .var 133, .var 134, .var 135, .var 136, .var 137, .var 138, .var 139, .var 140, .var 141, .var 142, .var 143, .var 144, .var 145, .var 146, .var 147, .var 148, .var 149]] [.agg 3] <|
     .call F.penumbraref03_Mul [.agg [.var 73, .var 74, .var 75], .agg [.var 191, .var 192, .var 193]] [.agg 3] <|
     .prim (.bin .sub) [.var 1, .int .i64 (1)] <|
     .jump 0 [.var 0, .var 197, .var 2, .var 3, .var 4, .var 5, .var 6, .var 7, .var 8, .var 9, .var 10, .var 11, .var 12, .var 13, .var 14, .var 15, .var 16, .var 17, .var 18, .var 19, .var 20, .var 21, .var 22, .var 23, .var 24, .var 25, .var 26, .var 27, .var 28, .var 29, .var 30, .var 31, .var 32, .var 33, .var 34, .var 35, .var 36, .var 37, .var 38, .var 39, .var 40, .var 41, .var 42, .var 43, .var 44, .var 45, .var 46, .var 47, .var 48, .var 49, .var 50, .var 51, .var 52, .var 53, .var 54, .var 55, .var 56, .var 57, .var 58, .var 59, .var 60, .var 61, .var 62, .var 63, .var 64, .var 65, .var 66, .var 67, .var 68, .var 69, .var 70, .var 71, .var 72, .var 194, .var 195, .var 196])) (
    .ret [.agg [.var 73, .var 74, .var 75]])))

def ir_penumbraref18_join : IR :=
 .prim .len [.var 3] <|
 .prim (.bin .sub) [.var 72, .int .i64 (1)] <|
 .prim (.inb 18) [.var 3, .var 73] <|
 .prim (.get 18 0) [.var 3, .var 73] <|
 .prim (.get 18 1) [.var 3, .var 73] <|
 .prim (.get 18 2) [.var 3, .var 73] <|
 .prim (.get 18 3) [.var 3, .var 73] <|
 .prim (.get 18 4) [.var 3, .var 73] <|
 .prim (.get 18 5) [.var 3, .var 73] <|
 .prim (.get 18 6) [.var 3, .var 73] <|
 .prim (.get 18 7) [.var 3, .var 73] <|
 .prim (.get 18 8) [.var 3, .var 73] <|
 .prim (.get 18 9) [.var 3, .var 73] <|
 .prim (.get 18 10) [.var 3, .var 73] <|
 .prim (.get 18 11) [.var 3, .var 73] <|
 .prim (.get 18 12) [.var 3, .var 73] <|
 .prim (.get 18 13) [.var 3, .var 73] <|
 .prim (.get 18 14) [.var 3, .var 73] <|
 .prim (.get 18 15) [.var 3, .var 73] <|
 .prim (.get 18 16) [.var 3, .var 73] <|
 .prim (.get 18 17) [.var 3, .var 73] <|
 .call F.penumbraref16_Film [.agg [.var 45, .var 46, .var 47, .var 48, .var 49, .var 50, .var 51, .var 52, .var 53, .var 54, .var 55, .var 56, .var 57, .var 58, .var 59, .var 60, .var 61, .var 62, .var 63, .var 64, .var 65, .var 66, .var 67], .agg [.var 75, .var 76, .var 77, .var 78, .var 79, .var 80, .var 81, .var 82, .var 83, .var 84, .var 85, .var 86, .var 87, .var 88, .var 89, .var 90, .var 91, .var 92], .agg [.var 5, .var 6, .var 7, .var 8, .var 9, .var 10, .var 11, .var 12, .var 13, .var 14, .var 15, .var 16, .var 17, .var 18, .var 19, .var 20, .var 21, .var 22, .var 23, .var 24, .var 25, .var 26, .var 27, .var 28, .var 29, .var 30, .var 31, .var 32, .var 33, .var 34, .var 35, .var 36, .var 37, .var 38, .var 39, .var 40]] [.one, .agg 3, .one] <|
 .prim (.bin .eql) [.var 71, .var 72] <|
 .ite (.var 98) (
  .prim (.bin .neq) [.var 41, .int .i64 (0)] <|
  .ite (.var 99) (
   .call F.penumbraref03_Zero [] [.agg 3] <|
   .ret [.agg [.var 100, .var 101, .var 102]]) (
   .prim .not [.var 97] <|
   .ite (.var 100) (
    .call F.penumbraref03_Zero [] [.agg 3] <|
    .ret [.agg [.var 101, .var 102, .var 103]]) (
    .prim (.bin .gtr) [.var 71, .int .i64 (0)] <|
    .ite (.var 101) (
     .prim (.bin .lss) [.var 71, .var 72] <|
     .ite (.var 102) (
      .prim (.bin .sub) [.var 71, .int .i64 (1)] <|
      .prim (.inb 40) [.var 4, .var 103] <|
      .prim (.get 40 36) [.var 4, .var 103] <|
      .prim (.bin .neq) [.var 105, .int .i64 (0)] <|
      .ite (.var 106) (
       .call F.penumbraref03_Zero [] [.agg 3] <|
       .ret [.agg [.var 107, .var 108, .var 109]]) (
       .call F.penumbraref18_A [.agg [.var 0, .var 1, .var 2, .var 3, .var 4, .var 5, .var 6, .var 7, .var 8, .var 9, .var 10, .var 11, .var 12, .var 13, .var 14, .var 15, .var 16, .var 17, .var 18, .var 19, .var 20, .var 21, .var 22, .var 23, .var 24, .var 25, .var 26, .var 27, .var 28, .var 29, .var 30, .var 31, .var 32, .var 33, .var 34, .var 35, .var 36, .var 37, .var 38, .var 39, .var 40, .var 41, .var 42, .var 43, .var 44, .var 45, .var 46, .var 47, .var 48, .var 49, .var 50, .var 51, .var 52, .var 53, .var 54, .var 55, .var 56, .var 57, .var 58, .var 59, .var 60, .var 61, .var 62, .var 63, .var 64, .var 65, .var 66, .var 67, .var 68, .var 69, .var 70], .one (.var 71)] [.agg 3] <|
       .call F.penumbraref18_B [.agg [.var 0, .var 1, .var 2, .var 3, .var 4, .var 5, .var 6, .var 7, .var 8, .var 9, .var 10, .var 11, .var 12, .var 13, .var 14, .var 15, .var 16, .var 17, .var 18, .var 19, .var 20, .var 21, .var 22, .var 23, .var 24, .var 25, .var 26, .var 27, .var 28, .var 29, .var 30, .var 31, .var 32, .var 33, .var 34, .var 35, .var 36, .var 37, .var 38, .var 39, .var 40, .var 41, .var 42, .var 43, .var 44, .var 45, .var 46, .var 47, .var 48, .var 49, .var 50, .var 51, .var 52, .var 53, .var 54, .var 55, .var 56, .var 57, .var 58, .var 59, .var 60, .var 61, .var 62, .var 63, .var 64, .var 65, .var 66, .var 67, .var 68, .var 69, .var 70], .one (.var 71)] [.agg 3] <|
       .call F.penumbraref03_Mul [.agg [.var 107, .var 108, .var 109], .agg [.var 110, .var 111, .var 112]] [.agg 3] <|
       .prim (.bin .eql) [.var 71, .var 72] <|
       .ite (.var 116) (
        .prim (.bin .mul) [.var 63, .var 64] <|
        .call F.penumbraref03_Of [.one (.var 117), .one (.int .i64 (1))] [.agg 3] <|
        .call F.penumbraref03_Mul [.agg [.var 113, .var 114, .var 115], .agg [.var 118, .var 119, .var 120]] [.agg 3] <|
        .ret [.agg [.var 121, .var 122, .var 123]]) (
        .ret [.agg [.var 113, .var 114, .var 115]]))) (
      .call F.penumbraref18_A [.agg [.var 0, .var 1, .var 2, .var 3, .var 4, .var 5, .var 6, .var 7, .var 8, .var 9, .var 10, .var 11, .var 12, .var 13, .var 14, .var 15, .var 16, .var 17, .var 18, .var 19, .var 20, .var 21, .var 22, .var 23, .var 24, .var 25, .var 26, .var 27, .var 28, .var 29, .var 30, .var 31, .var 32, .var 33, .var 34, .var 35, .var 36, .var 37, .var 38, .var 39, .var 40, .var 41, .var 42, .var 43, .var 44, .var 45, .var 46, .var 47, .var 48, .var 49, .var 50, .var 51, .var 52, .var 53, .var 54, .var 55, .var 56, .var 57, .var 58, .var 59, .var 60, .var 61, .var 62, .var 63, .var 64, .var 65, .var 66, .var 67, .var 68, .var 69, .var 70], .one (.var 71)] [.agg 3] <|
      .call F.penumbraref18_B [.agg [.var 0, .var 1, .var 2, .var 3, .var 4, .var 5, .var 6, .var 7, .var 8, .var 9, .var 10, .var 11, .var 12, .var 13, .var 14, .var 15, .var 16, .var 17, .var 18, .var 19, .var 20, .var 21, .var 22, .var 23, .var 24, .var 25, .var 26, .var 27, .var 28, .var 29, .var 30, .var 31, .var 32, .var 33, .var 34, .var 35, .var 36, .var 37, .var 38, .var 39, .var 40, .var 41, .var 42, .var 43, .var 44, .var 45, .var 46, .var 47, .var 48, .var 49, .var 50, .var 51, .var 52, .var 53, .var 54, .var 55, .var 56, .var 57, .var 58, .var 59, .var 60, .var 61, .var 62, .var 63, .var 64, .var 65, .var 66, .var 67, .var 68, .var 69, .var 70], .one (.var 71)] [.agg 3] <|
      .call F.penumbraref03_Mul [.agg [.var 103, .var 104, .var 105], .agg [.var 106, .var 107, .var 108]] [.agg 3] <|
      .prim (.bin .eql) [.var 71, .var 72] <|
      .ite (.var 112) (
       .prim (.bin .mul) [.var 63, .var 64] <|
       .call F.penumbraref03_Of [.one (.var 113), .one (.int .i64 (1))] [.agg 3] <|
       .call F.penumbraref03_Mul [.agg [.var 109, .var 110, .var 111], .agg [.var 114, .var 115, .var 116]] [.agg 3] <|
       .ret [.agg [.var 117, .var 118, .var 119]]) (
       .ret [.agg [.var 109, .var 110, .var 111]]))) (
     .call F.penumbraref18_A [.agg [.var 0, .var 1, .var 2, .var 3, .var 4, .var 5, .var 6, .var 7, .var 8, .var 9, .var 10, .var 11, .var 12, .var 13, .var 14, .var 15, .var 16, .var 17, .var 18, .var 19, .var 20, .var 21, .var 22, .var 23, .var 24, .var 25, .var 26, .var 27, .var 28, .var 29, .var 30, .var 31, .var 32, .var 33, .var 34, .var 35, .var 36, .var 37, .var 38, .var 39, .var 40, .var 41, .var 42, .var 43, .var 44, .var 45, .var 46, .var 47, .var 48, .var 49, .var 50, .var 51, .var 52, .var 53, .var 54, .var 55, .var 56, .var 57, .var 58, .var 59, .var 60, .var 61, .var 62, .var 63, .var 64, .var 65, .var 66, .var 67, .var 68, .var 69, .var 70], .one (.var 71)] [.agg 3] <|
     .call F.penumbraref18_B [.agg [.var 0, .var 1, .var 2, .var 3, .var 4, .var 5, .var 6, .var 7, .var 8, .var 9, .var 10, .var 11, .var 12, .var 13, .var 14, .var 15, .var 16, .var 17, .var 18, .var 19, .var 20, .var 21, .var 22, .var 23, .var 24, .var 25, .var 26, .var 27, .var 28, .var 29, .var 30, .var 31, .var 32, .var 33, .var 34, .var 35, .var 36, .var 37, .var 38, .var 39, .var 40, .var 41, .var 42, .var 43, .var 44, .var 45, .var 46, .var 47, .var 48, .var 49, .var 50, .var 51, .var 52, .var 53, .var 54, .var 55, .var 56, .var 57, .var 58, .var 59, .var 60, .var 61, .var 62, .var 63, .var 64, .var 65, .var 66, .var 67, .var 68, .var 69, .var 70], .one (.var 71)] [.agg 3] <|
     .call F.penumbraref03_Mul [.agg [.var 102, .var 103, .var 104], .agg [.var 105, .var 106, .var 107]] [.agg 3] <|
     .prim (.bin .eql) [.var 71, .var 72] <|
     .ite (.var 111) (
      .prim (.bin .mul) [.var 63, .var 64] <|
      .call F.penumbraref03_Of [.one (.var 112), .one (.int .i64 (1))] [.agg 3] <|
      .call F.penumbraref03_Mul [.agg [.var 108, .var 109, .var 110], .agg [.var 113, .var 114, .var 115]] [.agg 3] <|
      .ret [.agg [.var 116, .var 117, .var 118]]) (
      .ret [.agg [.var 108, .var 109, .var 110]]))))) (
  .prim (.bin .gtr) [.var 71, .int .i64 (0)] <|
  .ite (.var 99) (
   .prim (.bin .lss) [.var 71, .var 72] <|
   .ite (.var 100) (
    .prim (.bin .sub) [.var 71, .int .i64 (1)] <|
    .prim (.inb 40) [.var 4, .var 101] <|
    .prim (.get 40 36) [.var 4, .var 101] <|
    .prim (.bin .neq) [.var 103, .int .i64 (0)] <|
    .ite (.var 104) (
     .call F.penumbraref03_Zero [] [.agg 3] <|
     .ret [.agg [.var 105, .var 106, .var 107]]) (
     .call F.penumbraref18_A [.agg [.var 0, .var 1, .var 2, .var 3, .var 4, .var 5, .var 6, .var 7, .var 8, .var 9, .var 10, .var 11, .var 12, .var 13, .var 14, .var 15, .var 16, .var 17, .var 18, .var 19, .var 20, .var 21, .var 22, .var 23, .var 24, .var 25, .var 26, .var 27, .var 28, .var 29, .var 30, .var 31, .var 32, .var 33, .var 34, .var 35, .var 36, .var 37, .var 38, .var 39, .var 40, .var 41, .var 42, .var 43, .var 44, .var 45, .var 46, .var 47, .var 48, .var 49, .var 50, .var 51, .var 52, .var 53, .var 54, .var 55, .var 56, .var 57, .var 58, .var 59, .var 60, .var 61, .var 62, .var 63, .var 64, .var 65, .var 66, .var 67, .var 68, .var 69, .var 70], .one (.var 71)] [.agg 3] <|
     .call F.penumbraref18_B [.agg [.var 0, .var 1, .var 2, .var 3, .var 4, .var 5, .var 6, .var 7, .var 8, .var 9, .var 10, .var 11, .var 12, .var 13, .var 14, .var 15, .var 16, .var 17, .var 18, .var 19, .var 20, .var 21, .var 22, .var 23, .var 24, .var 25, .var 26, .var 27, .var 28, .var 29, .var 30, .var 31, .var 32, .var 33, .var 34, .var 35, .var 36, .var 37, .var 38, .var 39, .var 40, .var 41, .var 42, .var 43, .var 44, .var 45, .var 46, .var 47, .var 48, .var 49, .var 50, .var 51, .var 52, .var 53, .var 54, .var 55, .var 56, .var 57, .var 58, .var 59, .var 60, .var 61, .var 62, .var 63, .var 64, .var 65, .var 66, .var 67, .var 68, .var 69, .var 70], .one (.var 71)] [.agg 3] <|
     .call F.penumbraref03_Mul [.agg [.var 105, .var 106, .var 107], .agg [.var 108, .var 109, .var 110]] [.agg 3] <|
     .prim (.bin .eql) [.var 71, .var 72] <|
     .ite (.var 114) (
      .prim (.bin .mul) [.var 63, .var 64] <|
      .call F.penumbraref03_Of [.one (.var 115), .one (.int .i64 (1))] [.agg 3] <|
      .call F.penumbraref03_Mul [.agg [.var 111, .var 112, .var 113], .agg [.var 116, .var 117, .var 118]] [.agg 3] <|
      .ret [.agg [.var 119, .var 120, .var 121]]) (
      .ret [.agg [.var 111, .var 112, .var 113]]))) (
    .call F.penumbraref18_A [.agg [.var 0, .var 1, .var 2, .var 3, .var 4, .var 5, .var 6, .var 7, .var 8, .var 9, .var 10, .var 11, .var 12, .var 13, .var 14, .var 15, .var 16, .var 17, .var 18, .var 19, .var 20, .var 21, .var 22, .var 23, .var 24, .var 25, .var 26, .var 27, .var 28, .var 29, .var 30, .var 31, .var 32, .var 33, .var 34, .var 35, .var 36, .var 37, .var 38, .var 39, .var 40, .var 41, .var 42, .var 43, .var 44, .var 45, .var 46, .var 47, .var 48, .var 49, .var 50, .var 51, .var 52, .var 53, .var 54, .var 55, .var 56, .var 57, .var 58, .var 59, .var 60, .var 61, .var 62, .var 63, .var 64, .var 65, .var 66, .var 67, .var 68, .var 69, .var 70], .one (.var 71)] [.agg 3] <|
    .call F.penumbraref18_B [.agg [.var 0, .var 1, .var 2, .var 3, .var 4, .var 5, .var 6, .var 7, .var 8, .var 9, .var 10, .var 11, .var 12, .var 13, .var 14, .var 15, .var 16, .var 17, .var 18, .var 19, .var 20, .var 21, .var 22, .var 23, .var 24, .var 25, .var 26, .var 27, .var 28, .var 29, .var 30, .var 31, .var 32, .var 33, .var 34, .var 35, .var 36, .var 37, .var 38, .var 39, .var 40, .var 41, .var 42, .var 43, .var 44, .var 45, .var 46, .var 47, .var 48, .var 49, .var 50, .var 51, .var 52, .var 53, .var 54, .var 55, .var 56, .var 57, .var 58, .var 59, .var 60, .var 61, .var 62, .var 63, .var 64, .var 65, .var 66, .var 67, .var 68, .var 69, .var 70], .one (.var 71)] [.agg 3] <|
    .call F.penumbraref03_Mul [.agg [.var 101, .var 102, .var 103], .agg [.var 104, .var 105, .var 106]] [.agg 3] <|
    .prim (.bin .eql) [.var 71, .var 72] <|
    .ite (.var 110) (
     .prim (.bin .mul) [.var 63, .var 64] <|
     .call F.penumbraref03_Of [.one (.var 111), .one (.int .i64 (1))] [.agg 3] <|
     .call F.penumbraref03_Mul [.agg [.var 107, .var 108, .var 109], .agg [.var 112, .var 113, .var 114]] [.agg 3] <|
     .ret [.agg [.var 115, .var 116, .var 117]]) (
     .ret [.agg [.var 107, .var 108, .var 109]]))) (
   .call F.penumbraref18_A [.agg [.var 0, .var 1, .var 2, .var 3, .var 4, .var 5, .var 6, .var 7, .var 8, .var 9, .var 10, .var 11, .var 12, .var 13, .var 14, .var 15, .var 16, .var 17, .var 18, .var 19, .var 20, .var 21, .var 22, .var 23, .var 24, .var 25, .var 26, .var 27, .var 28, .var 29, .var 30, .var 31, .var 32, .var 33, .var 34, .var 35, .var 36, .var 37, .var 38, .var 39, .var 40, .var 41, .var 42, .var 43, .var 44, .var 45, .var 46, .var 47, .var 48, .var 49, .var 50, .var 51, .var 52, .var 53, .var 54, .var 55, .var 56, .var 57, .var 58, .var 59, .var 60, .var 61, .var 62, .var 63, .var 64, .var 65, .var 66, .var 67, .var 68, .var 69, .var 70], .one (.var 71)] [.agg 3] <|
   .call F.penumbraref18_B [.agg [.var 0, .var 1, .var 2, .var 3, .var 4, .var 5, .var 6, .var 7, .var 8, .var 9, .var 10, .var 11, .var 12, .var 13, .var 14, .var 15, .var 16, .var 17, .var 18, .var 19, .var 20, .var 21, .var 22, .var 23, .var 24, .var 25, .var 26, .var 27, .var 28, .var 29, .var 30, .var 31, .var 32, .var 33, .var 34, .var 35, .var 36, .var 37, .var 38, .var 39, .var 40, .var 41, .var 42, .var 43, .var 44, .var 45, .var 46, .var 47, .var 48, .var 49, .var 50, .var 51, .var 52, .var 53, .var 54, .var 55, .var 56, .var 57, .var 58, .var 59, .var 60, .var 61, .var 62, .var 63, .var 64, .var 65, .var 66, .var 67, .var 68, .var 69, .var 70], .one (.var 71)] [.agg 3] <|
   .call F.penumbraref03_Mul [.agg [.var 100, .var 101, .var 102], .agg [.var 103, .var 104, .var 105]] [.agg 3] <|
   .prim (.bin .eql) [.var 71, .var 72] <|
   .ite (.var 109) (
    .prim (.bin .mul) [.var 63, .var 64] <|
    .call F.penumbraref03_Of [.one (.var 110), .one (.int .i64 (1))] [.agg 3] <|
    .call F.penumbraref03_Mul [.agg [.var 106, .var 107, .var 108], .agg [.var 111, .var 112, .var 113]] [.agg 3] <|
    .ret [.agg [.var 114, .var 115, .var 116]]) (
    .ret [.agg [.var 106, .var 107, .var 108]])))

def ir_penumbraref18_Densities : IR :=
 .call F.penumbraref18_May [.agg [.var 0, .var 1, .var 2, .var 3, .var 4, .var 5, .var 6, .var 7, .var 8, .var 9, .var 10, .var 11, .var 12, .var 13, .var 14, .var 15, .var 16, .var 17, .var 18, .var 19, .var 20, .var 21, .var 22, .var 23, .var 24, .var 25, .var 26, .var 27, .var 28, .var 29, .var 30, .var 31, .var 32, .var 33, .var 34, .var 35, .var 36, .var 37, .var 38, .var 39, .var 40, .var 41, .var 42, .var 43, .var 44, .var 45, .var 46, .var 47, .var 48, .var 49, .var 50, .var 51, .var 52, .var 53, .var 54, .var 55, .var 56, .var 57, .var 58, .var 59, .var 60, .var 61, .var 62, .var 63, .var 64, .var 65, .var 66, .var 67, .var 68, .var 69, .var 70]] [.one] <|
 .prim .not [.var 71] <|
 .ite (.var 72) (
  .ret [.one (.nil), .one (.nil)]) (
  .prim .len [.var 3] <|
  .prim (.mk 0) [] <|
  .prim (.mk 0) [] <|
  .loop [.var 73, .int .i64 (0), .var 0, .var 1, .var 2, .var 3, .var 4, .var 5, .var 6, .var 7, .var 8, .var 9, .var 10, .var 11, .var 12, .var 13, .var 14, .var 15, .var 16, .var 17, .var 18, .var 19, .var 20, .var 21, .var 22, .var 23, .var 24, .var 25, .var 26, .var 27, .var 28, .var 29, .var 30, .var 31, .var 32, .var 33, .var 34, .var 35, .var 36, .var 37, .var 38, .var 39, .var 40, .var 41, .var 42, .var 43, .var 44, .var 45, .var 46, .var 47, .var 48, .var 49, .var 50, .var 51, .var 52, .var 53, .var 54, .var 55, .var 56, .var 57, .var 58, .var 59, .var 60, .var 61, .var 62, .var 63, .var 64, .var 65, .var 66, .var 67, .var 68, .var 69, .var 70, .var 74, .var 75] (
   .prim (.bin .leq) [.var 1, .var 0] <|
   .ite (.var 75) (
    .call F.penumbraref18_join [.agg [.var 2, .var 3, .var 4, .var 5, .var 6, .var 7, .var 8, .var 9, .var 10, .var 11, .var 12, .var 13, .var 14, .var 15, .var 16, .var 17, .var 18, .var 19, .var 20, .var 21, .var 22, .var 23, .var 24, .var 25, .var 26, .var 27, .var 28, .var 29, .var 30, .var 31, .var 32, .var 33, .var 34, .var 35, .var 36, .var 37, .var 38, .var 39, .var 40, .var 41, .var 42, .var 43, .var 44, .var 45, .var 46, .var 47, .var 48, .var 49, .var 50, .var 51, .var 52, .var 53, .var 54, .var 55, .var 56, .var 57, .var 58, .var 59, .var 60, .var 61, .var 62, .var 63, .var 64, .var 65, .var 66, .var 67, .var 68, .var 69, .var 70, .var 71, .var 72], .one (.var 1)] [.agg 3] <|
    .prim (.mk 1) [.var 76, .var 77, .var 78] <|
    .prim (.app 3 56) [.var 73, .var 79] <|
    .prim (.bin .add) [.var 1, .int .i64 (1)] <|
    .jump 0 [.var 0, .var 81, .var 2, .var 3, .var 4, .var 5, .var 6, .var 7, .var 8, .var 9, .var 10, .var 11, .var 12, .var 13, .var 14, .var 15, .var 16, .var 17, .var 18, .var 19, .var 20, .var 21, .var 22, .var 23, .var 24, .var 25, .var 26, .var 27, .var 28, .var 29, .var 30, .var 31, .var 32, .var 33, .var 34, .var 35, .var 36, .var 37, .var 38, .var 39, .var 40, .var 41, .var 42, .var 43, .var 44, .var 45, .var 46, .var 47, .var 48, .var 49, .var 50, .var 51, .var 52, .var 53, .var 54, .var 55, .var 56, .var 57, .var 58, .var 59, .var 60, .var 61, .var 62, .var 63, .var 64, .var 65, .var 66, .var 67, .var 68, .var 69, .var 70, .var 71, .var 72, .var 80, .var 74]) (
    .loop [.var 0, .int .i64 (1), .var 2, .var 3, .var 4, .var 5, .var 6, .var 7, .var 8, .var 9, .var 10, .var 11, .var 12, .var 13, .var 14, .var 15, .var 16, .var 17, .var 18, .var 19, .var 20, .var 21, .var 22, .var 23, .var 24, .var 25, .var 26, .var 27, .var 28, .var 29, .var 30, .var 31, .var 32, .var 33, .var 34, .var 35, .var 36, .var 37, .var 38, .var 39, .var 40, .var 41, .var 42, .var 43, .var 44, .var 45, .var 46, .var 47, .var 48, .var 49, .var 50, .var 51, .var 52, .var 53, .var 54, .var 55, .var 56, .var 57, .var 58, .var 59, .var 60, .var 61, .var 62, .var 63, .var 64, .var 65, .var 66, .var 67, .var 68, .var 69, .var 70, .var 71, .var 72, .var 73, .var 74] (
     .prim (.bin .lss) [.var 1, .var 0] <|
     .ite (.var 75) (
      .prim (.bin .add) [.var 1, .int .i64 (1)] <|
      .call F.penumbraref18_A [.agg [.var 2, .var 3, .var 4, .var 5, .var 6, .var 7, .var 8, .var 9, .var 10, .var 11, .var 12, .var 13, .var 14, .var 15, .var 16, .var 17, .var 18, .var 19, .var 20, .var 21, .var 22, .var 23, .var 24, .var 25, .var 26, .var 27, .var 28, .var 29, .var 30, .var 31, .var 32, .var 33, .var 34, .var 35, .var 36, .var 37, .var 38, .var 39, .var 40, .var 41, .var 42, .var 43, .var 44, .var 45, .var 46, .var 47, .var 48, .var 49, .var 50, .var 51, .var 52, .var 53, .var 54, .var 55, .var 56, .var 57, .var 58, .var 59, .var 60, .var 61, .var 62, .var 63, .var 64, .var 65, .var 66, .var 67, .var 68, .var 69, .var 70, .var 71, .var 72], .one (.var 76)] [.agg 3] <|
      .call F.penumbraref18_B [.agg [.var 2, .var 3, .var 4, .var 5, .var 6, .var 7, .var 8, .var 9, .var 10, .var 11, .var 12, .var 13, .var 14, .var 15, .var 16, .var 17, .var 18, .var 19, .var 20, .var 21, .var 22, .var 23, .var 24, .var 25, .var 26, .var 27, .var 28, .var 29, .var 30, .var 31, .var 32, .var 33, .var 34, .var 35, .var 36, .var 37, .var 38, .var 39, .var 40, .var 41, .var 42, .var 43, .var 44, .var 45, .var 46, .var 47, .var 48, .var 49, .var 50, .var 51, .var 52, .var 53, .var 54, .var 55, .var 56, .var 57, .var 58, .var 59, .var 60, .var 61, .var 62, .var 63, .var 64, .var 65, .var 66, .var 67, .var 68, .var 69, .var 70, .var 71, .var 72], .one (.var 1)] [.agg 3] <|
      .call F.penumbraref03_Mul [.agg [.var 77, .var 78, .var 79], .agg [.var 80, .var 81, .var 82]] [.agg 3] <|
      .call F.penumbraref03_Mul [.agg [.var 70, .var 71, .var 72], .agg [.var 83, .var 84, .var 85]] [.agg 3] <|
      .prim (.mk 1) [.var 86, .var 87, .var 88] <|
      .prim (.app 3 56) [.var 74, .var 89] <|
      .prim (.bin .add) [.var 1, .int .i64 (1)] <|
      .jump 1 [.var 0, .var 91, .var 2, .var 3, .var 4, .var 5, .var 6, .var 7, .var 8, .var 9, .var 10, .var 11, .var 12, .var 13, .var 14, .var 15, .var 16, .var 17, .var 18, .var 19, .var 20, .var 21, .var 22, .var 23, .var 24, .var 25, .var 26, .var 27, .var 28, .var 29, .var 30, .var 31, .var 32, .var 33, .var 34, .var 35, .var 36, .var 37, .var 38, .var 39, .var 40, .var 41, .var 42, .var 43, .var 44, .var 45, .var 46, .var 47, .var 48, .var 49, .var 50, .var 51, .var 52, .var 53, .var 54, .var 55, .var 56, .var 57, .var 58, .var 59, .var 60, .var 61, .var 62, .var 63, .var 64, .var 65, .var 66, .var 67, .var 68, .var 69, .var 70, .var 71, .var 72, .var 73, .var 90]) (
      .ret [.one (.var 73), .one (.var 74)])))))

theorem tree_penumbraref18_May : symFunc Go.Proofs.Tryz.prog H0 400 F.penumbraref18_May [.agg 71] = some ir_penumbraref18_May := by kernel_rfl
theorem tree_penumbraref18_A : symFunc Go.Proofs.Tryz.prog ⟨fun f => [].contains f, fun f i => if f = 16 ∧ i = 5 then [⟨[(1, .s (.one (.at (.var 0)))), (2, .s (.one (.lp 0 0))), (4, .s (.one (.lp 1 0))), (5, .s (.one (.lp 2 0))), (6, .s (.one (.at (.var 1))))], [], [(0, .box [.at (.var 2), .at (.var 3), .at (.var 4), .at (.var 5), .at (.var 6), .at (.var 7), .at (.var 8), .at (.var 9), .at (.var 10), .at (.var 11), .at (.var 12), .at (.var 13), .at (.var 14), .at (.var 15), .at (.var 16), .at (.var 17), .at (.var 18), .at (.var 19), .at (.var 20), .at (.var 21), .at (.var 22), .at (.var 23), .at (.var 24), .at (.var 25), .at (.var 26), .at (.var 27), .at (.var 28), .at (.var 29), .at (.var 30), .at (.var 31), .at (.var 32), .at (.var 33), .at (.var 34), .at (.var 35), .at (.var 36), .at (.var 37), .at (.var 38), .at (.var 39), .at (.var 40), .at (.var 41), .at (.var 42), .at (.var 43), .at (.var 44), .at (.var 45), .at (.var 46), .at (.var 47), .at (.var 48), .at (.var 49), .at (.var 50), .at (.var 51), .at (.var 52), .at (.var 53), .at (.var 54), .at (.var 55), .at (.var 56), .at (.var 57), .at (.var 58), .at (.var 59), .at (.var 60), .at (.var 61), .at (.var 62), .at (.var 63), .at (.var 64), .at (.var 65), .at (.var 66), .at (.var 67), .at (.var 68), .at (.var 69), .at (.var 70), .at (.var 71), .at (.var 72)] 36 false), (1, .box [.at (.bol false), .nils, .nils] 24 false), (2, .box [.at (.var 73), .at (.var 74), .at (.var 75)] 24 false)], 3, 76⟩] else [], fun f i => [], fun f => [].contains f, fun f => none⟩ 400 F.penumbraref18_A [.agg 71, .one] = some ir_penumbraref18_A := by kernel_rfl
theorem tree_penumbraref18_B : symFunc Go.Proofs.Tryz.prog ⟨fun f => [].contains f, fun f i => if f = 17 ∧ i = 6 then [⟨[(1, .s (.one (.at (.var 0)))), (2, .s (.one (.lp 0 0))), (4, .s (.one (.lp 1 0))), (7, .s (.one (.lp 2 0))), (9, .s (.one (.at (.var 1))))], [], [(0, .box [.at (.var 2), .at (.var 3), .at (.var 4), .at (.var 5), .at (.var 6), .at (.var 7), .at (.var 8), .at (.var 9), .at (.var 10), .at (.var 11), .at (.var 12), .at (.var 13), .at (.var 14), .at (.var 15), .at (.var 16), .at (.var 17), .at (.var 18), .at (.var 19), .at (.var 20), .at (.var 21), .at (.var 22), .at (.var 23), .at (.var 24), .at (.var 25), .at (.var 26), .at (.var 27), .at (.var 28), .at (.var 29), .at (.var 30), .at (.var 31), .at (.var 32), .at (.var 33), .at (.var 34), .at (.var 35), .at (.var 36), .at (.var 37), .at (.var 38), .at (.var 39), .at (.var 40), .at (.var 41), .at (.var 42), .at (.var 43), .at (.var 44), .at (.var 45), .at (.var 46), .at (.var 47), .at (.var 48), .at (.var 49), .at (.var 50), .at (.var 51), .at (.var 52), .at (.var 53), .at (.var 54), .at (.var 55), .at (.var 56), .at (.var 57), .at (.var 58), .at (.var 59), .at (.var 60), .at (.var 61), .at (.var 62), .at (.var 63), .at (.var 64), .at (.var 65), .at (.var 66), .at (.var 67), .at (.var 68), .at (.var 69), .at (.var 70), .at (.var 71), .at (.var 72)] 36 false), (1, .box [.at (.bol false), .nils, .nils] 24 false), (2, .box [.at (.var 73), .at (.var 74), .at (.var 75)] 24 false)], 3, 76⟩] else [], fun f i => [], fun f => [].contains f, fun f => none⟩ 400 F.penumbraref18_B [.agg 71, .one] = some ir_penumbraref18_B := by kernel_rfl
theorem tree_penumbraref18_join : symFunc Go.Proofs.Tryz.prog H0 400 F.penumbraref18_join [.agg 71, .one] = some ir_penumbraref18_join := by kernel_rfl
theorem tree_penumbraref18_Densities : symFunc Go.Proofs.Tryz.prog ⟨fun f => [].contains f, fun f i => if f = 5 ∧ i = 7 then [⟨[(1, .s (.one (.lp 0 0))), (4, .s (.one (.at (.var 0)))), (5, .s (.one (.own 1))), (6, .s (.one (.own 2))), (7, .s (.one (.at (.var 1))))], [], [(0, .box [.at (.var 2), .at (.var 3), .at (.var 4), .at (.var 5), .at (.var 6), .at (.var 7), .at (.var 8), .at (.var 9), .at (.var 10), .at (.var 11), .at (.var 12), .at (.var 13), .at (.var 14), .at (.var 15), .at (.var 16), .at (.var 17), .at (.var 18), .at (.var 19), .at (.var 20), .at (.var 21), .at (.var 22), .at (.var 23), .at (.var 24), .at (.var 25), .at (.var 26), .at (.var 27), .at (.var 28), .at (.var 29), .at (.var 30), .at (.var 31), .at (.var 32), .at (.var 33), .at (.var 34), .at (.var 35), .at (.var 36), .at (.var 37), .at (.var 38), .at (.var 39), .at (.var 40), .at (.var 41), .at (.var 42), .at (.var 43), .at (.var 44), .at (.var 45), .at (.var 46), .at (.var 47), .at (.var 48), .at (.var 49), .at (.var 50), .at (.var 51), .at (.var 52), .at (.var 53), .at (.var 54), .at (.var 55), .at (.var 56), .at (.var 57), .at (.var 58), .at (.var 59), .at (.var 60), .at (.var 61), .at (.var 62), .at (.var 63), .at (.var 64), .at (.var 65), .at (.var 66), .at (.var 67), .at (.var 68), .at (.var 69), .at (.var 70), .at (.var 71), .at (.var 72)] 36 false), (1, .own (.var 73) 3 24), (2, .own (.var 74) 3 24)], 3, 75⟩] else if f = 5 ∧ i = 11 then [⟨[(1, .s (.one (.lp 0 0))), (4, .s (.one (.at (.var 0)))), (5, .s (.one (.own 1))), (6, .s (.one (.own 2))), (8, .s (.one (.at (.var 1))))], [], [(0, .box [.at (.var 2), .at (.var 3), .at (.var 4), .at (.var 5), .at (.var 6), .at (.var 7), .at (.var 8), .at (.var 9), .at (.var 10), .at (.var 11), .at (.var 12), .at (.var 13), .at (.var 14), .at (.var 15), .at (.var 16), .at (.var 17), .at (.var 18), .at (.var 19), .at (.var 20), .at (.var 21), .at (.var 22), .at (.var 23), .at (.var 24), .at (.var 25), .at (.var 26), .at (.var 27), .at (.var 28), .at (.var 29), .at (.var 30), .at (.var 31), .at (.var 32), .at (.var 33), .at (.var 34), .at (.var 35), .at (.var 36), .at (.var 37), .at (.var 38), .at (.var 39), .at (.var 40), .at (.var 41), .at (.var 42), .at (.var 43), .at (.var 44), .at (.var 45), .at (.var 46), .at (.var 47), .at (.var 48), .at (.var 49), .at (.var 50), .at (.var 51), .at (.var 52), .at (.var 53), .at (.var 54), .at (.var 55), .at (.var 56), .at (.var 57), .at (.var 58), .at (.var 59), .at (.var 60), .at (.var 61), .at (.var 62), .at (.var 63), .at (.var 64), .at (.var 65), .at (.var 66), .at (.var 67), .at (.var 68), .at (.var 69), .at (.var 70), .at (.var 71), .at (.var 72)] 36 false), (1, .own (.var 73) 3 24), (2, .own (.var 74) 3 24)], 3, 75⟩] else [], fun f i => [], fun f => [].contains f, fun f => none⟩ 400 F.penumbraref18_Densities [.agg 71] = some ir_penumbraref18_Densities := by kernel_rfl
end Go.Px
namespace Go.Px.Na
open Go.RowKit
open Go.Proofs.Tryz (prog)
section
variable {r : RP} {p : Pa}
theorem fr_May {L : Nat} (h : NP L r p) : PureCalls prog F.penumbraref18_May [.agg r.c] [.one (.bool (decide p.may))] := by
  refine symFunc_sound hmix tree_penumbraref18_May (by kernel_rfl) rfl ?_
  unfold ir_penumbraref18_May
  simp only [RP.c, RP.tl, RE.c, RCam.c]
  simp only [JJ]
  have hn : r.sp.length = p.n := h.spn
  have he := h.edn
  rw [h.cam.w, h.cam.h]
  have no : ∀ {As : List (List DV → Prop)} {ρ : List DV}, ¬p.may → IRwp prog As ρ (.ret [.one (.bol false)]) (fun x => x = [AV.one (.bool (decide p.may))]) := fun {_ _} hn => ret_step (by rw [decide_eq_false hn]; rfl)
  refine primS (.int .i64 (p.n : Int)) (by rw [← hn]; rfl) ?_
  refine primS (.bool (decide _)) d_geq ?_
  refine itD rfl (fun c1 => ?_) (fun c1 => no fun z => c1 (by have := z.1.1; omega))
  refine primS (.bool (decide _)) d_leq ?_
  refine itD rfl (fun c2 => ?_) (fun c2 => no fun z => c2 (by have := z.1.2; omega))
  refine primS (.int .i64 (p.ed.length : Int)) (by rw [← he]; rfl) ?_
  refine primS (.int .i64 ((p.n : Int) - 1)) (d_sub64 (by omega) (by omega)) ?_
  refine primS (.bool (decide _)) d_eql ?_
  refine itD rfl (fun c3 => ?_) (fun c3 => no fun z => c3 (by have := z.2.1; omega))
  refine primS (.bool (decide _)) d_geq ?_
  refine itD rfl (fun c4 => ?_) (fun c4 => no fun z => c4 z.2.2.1.1)
  refine primS (.bool (decide _)) d_leq ?_
  refine itD rfl (fun c5 => ?_) (fun c5 => no fun z => c5 z.2.2.1.2)
  refine primS (.bool (decide _)) d_geq ?_
  refine itD rfl (fun c6 => ?_) (fun c6 => no fun z => c6 z.2.2.2.1)
  refine primS (.bool (decide (p.cam.h ≤ 16))) d_leq ?_
  refine ret_step ?_
  rw [show decide p.may = decide (p.cam.h ≤ 16) from decide_eq_decide.2 ⟨fun z => z.2.2.2.2, fun z => ⟨⟨by omega, by omega⟩, by omega, ⟨c4, c5⟩, c6, z⟩⟩]
  rfl

/-! ### From the light -/
theorem fr_A (h : NP 1048576 r p) (hm : p.may) {s : Nat} (hs : s ≤ p.n) : PureCalls prog F.penumbraref18_A [.agg r.c, .one (.int .i64 (s : Int))] [.agg (gD [p.a s])] := by
  refine symFunc_sound hmix tree_penumbraref18_A (by kernel_rfl) rfl ?_
  unfold ir_penumbraref18_A
  obtain ⟨⟨h1, h16⟩, hE, -, -⟩ := hm
  have hn : r.sp.length = p.n := h.spn
  have he := h.edn
  have hS := h.sm
  simp only [RP.c, RP.tl, RE.c, RCam.c]
  simp only [JJ]
  refine primS (.bool (decide _)) d_eql ?_
  refine itD rfl (fun c1 => ?_) (fun c1 => ?_)
  · refine cs1 f_R3_One ?_
    simp only [JJ]
    exact ret_step (by rw [show s = 0 by omega, show p.a 0 = 1 from rfl]; rfl)
  refine cs1 (f_R3_Read h.start (by decide)) ?_
  simp only [JJ]
  refine loop_st (fun i : Nat => [.int .i64 (s : Int), .int .i64 ((i + 1 : Nat) : Int)] ++ gW [r.start] ++ [spl r.sp, edl r.ed] ++ r.tl ++ gD [p.a (i + 1)]) (fun i => i + 1 ≤ s) (fun i => s - i) 0 (by omega) rfl (fun _ => rfl) fun i hi X hX => ?_
  simp only [RP.tl, RE.c, RCam.c]
  simp only [JJ]
  refine primS (.bool (decide _)) d_lss ?_
  refine itD rfl (fun c2 => ?_) (fun c2 => ?_)
  · have hlt : i + 1 < s := by omega
    obtain ⟨e, he', hE'⟩ := h.ed' (i := i) (by omega)
    obtain ⟨a, ha, hA⟩ := h.sp' (i := i) (by omega)
    obtain ⟨b, hb, hB⟩ := h.sp' (i := i + 1) (by omega)
    have n0 := Num.of (hS.a' (i := i + 1) (by omega))
    refine primS (.int .i64 (i : Int)) ((d_sub64 (by omega) (by omega)).trans (by congr 2; omega)) ?_
    refine primS (.bool true) (spl_inb (by omega)) ?_
    try simp only [JJ]
    refine get_sp (x := .var 5) (i := .var 77) ha (fun _ => rfl) (fun _ => rfl) ?_
    simp only [JJ]
    refine primS (.bool true) (spl_inb (by omega)) ?_
    try simp only [JJ]
    refine get_sp (x := .var 5) (i := .var 1) hb (fun _ => rfl) (fun _ => rfl) ?_
    simp only [JJ]
    refine primS (.int .i64 (i : Int)) ((d_sub64 (by omega) (by omega)).trans (by congr 2; omega)) ?_
    refine primS (.bool true) (edl_inb (by omega)) ?_
    try simp only [JJ]
    refine get_em (x := .var 6) (i := .var 116) he' (fun _ => rfl) (fun _ => rfl) ?_
    simp only [JJ]
    refine cs1 (fr_Ahead hA hB hE'.map (by decide)) ?_
    simp only [JJ]
    have n1 := Num.of (SS.ahd2 hA.sm hB.sm hE'.map.sm)
    refine cs1 (f_R3_Mul n0 n1 (by decide)) ?_
    rw [show p.a (i + 1) * ahd (p.s i) (p.s (i + 1)) (p.e i).map = p.a (i + 2) from rfl]
    simp only [JJ]
    refine primS (.int .i64 ((i + 1 + 1 : Nat) : Int)) ((d_add64 (by omega) (by omega)).trans (by simp)) ?_
    exact jump_step rfl (hX (i + 1) (by omega) (by omega))
  · obtain rfl : s = i + 1 := by omega
    exact ret_step rfl

/-! ### From the eye -/
theorem b_zero {j : Nat} (hj : j + 2 ≤ p.n) (hd : (p.e j).map.det = 0) : ∀ (m i : Nat), i + m = j → p.b i = 0
  | 0, i, hi => by
    have := b_step (p := p) (k := p.n - 2 - i) (j := i) (by omega)
    rw [this, if_pos (by rw [show i = j by omega]; exact hd)]
  | m + 1, i, hi => by
    have hz := b_zero hj hd m (i + 1) (by omega)
    have := b_step (p := p) (k := p.n - 2 - i) (j := i) (by omega)
    rw [this]
    split
    · rfl
    · rw [hz, Rat.zero_mul]
theorem fr_B (h : NP 1048576 r p) (hm : p.may) {s : Nat} (hs : s ≤ p.n) : PureCalls prog F.penumbraref18_B [.agg r.c, .one (.int .i64 (s : Int))] [.agg (gD [p.b s])] := by
  refine symFunc_sound hmix tree_penumbraref18_B (by kernel_rfl) rfl ?_
  unfold ir_penumbraref18_B
  obtain ⟨⟨h1, h16⟩, hE, -, -⟩ := hm
  have hn : r.sp.length = p.n := h.spn
  have he := h.edn
  have hS := h.sm
  simp only [RP.c, RP.tl, RE.c, RCam.c]
  simp only [JJ]
  refine primS (.int .i64 (p.n : Int)) (by rw [← hn]; rfl) ?_
  refine primS (.bool (decide _)) d_eql ?_
  refine itD rfl (fun c1 => ?_) (fun c1 => ?_)
  · refine cs1 f_R3_One ?_
    simp only [JJ]
    exact ret_step (by rw [show p.b s = 1 by rw [Pa.b, show p.n - s = 0 by omega]; rfl]; rfl)
  refine primS (.int .i64 ((p.n - 1 : Nat) : Int)) ((d_sub64 (by omega) (by omega)).trans (by congr 2; omega)) ?_
  obtain ⟨a, ha, hA⟩ := h.sp' (i := p.n - 1) (by omega)
  refine primS (.bool true) (spl_inb (by omega)) ?_
  try simp only [JJ]
  refine get_sp (x := .var 3) (i := .var 74) ha (fun _ => rfl) (fun _ => rfl) ?_
  simp only [JJ]
  refine call_step (fr_Film h.cam hA h.last.map (by decide)) rfl ?_
  rw [show p.cam.val (p.s (p.n - 1)) p.last.map = p.film from rfl]
  simp only [JJ]
  refine primS (.int .i64 ((p.n : Int) - 2)) (d_sub64 (by omega) (by omega)) ?_
  have hf : p.b (p.n - 1) = p.film := by rw [Pa.b, show p.n - (p.n - 1) = 1 by omega]; rfl
  refine loop_st (fun k : Nat => [.int .i64 (s : Int), .int .i64 ((p.n : Int) - 2 - k)] ++ gW [r.start] ++ [spl r.sp, edl r.ed] ++ r.tl ++ gD [p.b (p.n - 1 - k)]) (fun k => k + s + 1 ≤ p.n) (fun k => p.n - k) 0 (by omega) (by simp only [Int.ofNat_zero, Int.sub_zero, Nat.sub_zero, hf]; rfl) (fun _ => rfl) fun k hk X hX => ?_
  simp only [RP.tl, RE.c, RCam.c]
  simp only [JJ]
  refine primS (.bool (decide _)) d_geq ?_
  refine itD rfl (fun c2 => ?_) (fun c2 => ?_)
  · obtain ⟨j, hj⟩ : ∃ j : Nat, (p.n : Int) - 2 - k = (j : Int) := ⟨p.n - 2 - k, by omega⟩
    have hj2 : j + 2 + k = p.n := by omega
    have hX' := hX (k + 1) (by omega) (by omega)
    rw [show (p.n : Int) - 2 - ((k + 1 : Nat) : Int) = (j : Int) - 1 by omega, show p.n - 1 - (k + 1) = j by omega] at hX'
    rw [hj, show p.n - 1 - k = j + 1 by omega]
    obtain ⟨e, he', hE'⟩ := h.ed' (i := j) (by omega)
    obtain ⟨a, ha, hA⟩ := h.sp' (i := j) (by omega)
    obtain ⟨b, hb, hB⟩ := h.sp' (i := j + 1) (by omega)
    have n0 := Num.of (hS.b h16 (j + 1))
    have nI := NM.of hE'.map.sm.inv
    refine primS (.bool true) (edl_inb (by omega)) ?_
    try simp only [JJ]
    refine get_em (x := .var 6) (i := .var 1) he' (fun _ => rfl) (fun _ => rfl) ?_
    simp only [JJ]
    have hb1 := b_step hj2
    by_cases hd : (p.e j).map.det = 0
    · refine call_step (fr_Inverse_n hd hE'.map (by decide)) rfl ?_
      simp only [JJ]
      refine primS (.bool true) rfl ?_
      refine itT rfl ?_
      refine cs1 f_R3_Zero ?_
      simp only [JJ]
      exact ret_step (by rw [b_zero (by omega) hd (j - s) s (by omega)]; rfl)
    · rw [if_neg hd] at hb1
      refine call_step (fr_Inverse_t hd hE'.map (by decide)) rfl ?_
      simp only [JJ]
      refine primS (.bool false) rfl ?_
      refine itF rfl ?_
      refine primS (.int .i64 ((j + 1 : Nat) : Int)) ((d_add64 (by omega) (by omega)).trans (by simp)) ?_
      refine primS (.bool true) (spl_inb (by omega)) ?_
      try simp only [JJ]
      refine get_sp (x := .var 5) (i := .var 152) hb (fun _ => rfl) (fun _ => rfl) ?_
      simp only [JJ]
      refine primS (.bool true) (spl_inb (by omega)) ?_
      try simp only [JJ]
      refine get_sp (x := .var 5) (i := .var 1) ha (fun _ => rfl) (fun _ => rfl) ?_
      simp only [JJ]
      refine cs1 (fr_Ahead hB hA nI (by decide)) ?_
      simp only [JJ]
      have n1 := Num.of (SS.ahd2 hB.sm hA.sm nI.sm)
      refine cs1 (f_R3_Mul n0 n1 (by decide)) ?_
      rw [← hb1]
      simp only [JJ]
      refine primS (.int .i64 ((j : Int) - 1)) (d_sub64 (by omega) (by omega)) ?_
      exact jump_step rfl hX'
  · obtain rfl : s = p.n - 1 - k := by omega
    exact ret_step rfl

/-! ### One way to join -/
theorem fr_join (h : NP 1048576 r p) (hm : p.may) {s : Nat} (hs : s ≤ p.n) : PureCalls prog F.penumbraref18_join [.agg r.c, .one (.int .i64 (s : Int))] [.agg (gD [p.q s])] := by
  refine symFunc_sound hmix tree_penumbraref18_join (by kernel_rfl) rfl ?_
  unfold ir_penumbraref18_join
  have kA := fr_A h hm hs
  have kB := fr_B h hm hs
  obtain ⟨⟨h1, h16⟩, hE, ⟨hw1, hw2⟩, hh1, hh2⟩ := hm
  have hn : r.sp.length = p.n := h.spn
  have he := h.edn
  have hS := h.sm
  have nA := Num.of (hS.a' (i := s) (by omega))
  have nB := Num.of (hS.b h16 s)
  have nAB := Num.of (nA.sm.mul nB.sm)
  have b0 : 1 ≤ p.cam.w * p.cam.h := by have := Int.mul_le_mul hw1 hh1 (by decide) (by omega); omega
  have b1 : p.cam.w * p.cam.h ≤ 256 := Int.le_trans (Int.mul_le_mul hw2 hh2 (by omega) (by omega)) (by decide)
  have hwh : Prim.den (.bin .mul) [.int .i64 r.cam.w, .int .i64 r.cam.h] = some (.int .i64 (p.cam.w * p.cam.h)) := by
    rw [h.cam.w, h.cam.h]; exact d_mul64 (by omega) (by omega)
  have nW : Num 1 (cr ((p.cam.w * p.cam.h : Int) : Rat)) ((p.cam.w * p.cam.h : Int) : Rat) := Num.of (Sm_int (by omega) (by omega))
  have hlast := h.last.hops
  simp only [RP.c, RP.tl, RE.c, RCam.c] at kA kB ⊢
  simp only [JJ]
  refine primS (.int .i64 (p.n : Int)) (by rw [← hn]; rfl) ?_
  refine primS (.int .i64 ((p.n - 1 : Nat) : Int)) ((d_sub64 (by omega) (by omega)).trans (by congr 2; omega)) ?_
  obtain ⟨a, ha, hA⟩ := h.sp' (i := p.n - 1) (by omega)
  refine primS (.bool true) (spl_inb (by omega)) ?_
  try simp only [JJ]
  refine get_sp (x := .var 3) (i := .var 73) ha (fun _ => rfl) (fun _ => rfl) ?_
  simp only [JJ]
  refine call_step (fr_Film h.cam hA h.last.map (by decide)) rfl ?_
  rw [show decide (p.cam.on (p.s (p.n - 1)) p.last.map) = decide p.on from rfl]
  simp only [JJ]
  refine primS (.bool (decide ((s : Int) = (p.n : Int)))) d_eql ?_
  refine itD rfl (fun c1 => ?_) (fun c1 => ?_)
  · have hsn : s = p.n := by omega
    refine primS (.bool (decide (r.last.hops ≠ 0))) d_neq ?_
    refine itD rfl (fun c2 => ?_) (fun c2 => ?_)
    · refine cs1 f_R3_Zero ?_
      simp only [JJ]
      exact ret_step (by rw [show p.q s = 0 by rw [Pa.q, if_neg (by omega), if_neg (by omega), if_neg (fun z => c2 (by rw [hlast]; exact z.2.1))]]; rfl)
    · refine primS (.bool (!_)) rfl ?_
      refine itN rfl (fun c3 => ?_) (fun c3 => ?_)
      · refine cs1 f_R3_Zero ?_
        simp only [JJ]
        exact ret_step (by rw [show p.q s = 0 by rw [Pa.q, if_neg (by omega), if_neg (by omega), if_neg (fun z => c3 z.2.2)]]; rfl)
      · refine primS (.bool true) (d_gtr.trans (by rw [decide_eq_true (by omega)])) ?_
        refine itT rfl ?_
        refine primS (.bool false) (d_lss.trans (by rw [decide_eq_false (by omega)])) ?_
        refine itF rfl ?_
        refine cs1 kA ?_
        simp only [JJ]
        refine cs1 kB ?_
        simp only [JJ]
        refine cs1 (f_R3_Mul nA nB (by decide)) ?_
        simp only [JJ]
        refine primS (.bool true) (d_eql.trans (by rw [decide_eq_true (by omega)])) ?_
        refine itT rfl ?_
        refine primS (.int .i64 (p.cam.w * p.cam.h)) hwh ?_
        try simp only [JJ]
        refine cs1 (n_penumbraref03_Of (k0 := ((p.cam.w * p.cam.h : Int) : Rat)) (p.cam.w * p.cam.h) 1 (by omega) (by omega) (by decide) (by decide) (ofQ_1 _).symm) ?_
        simp only [JJ]
        refine cs1 (f_R3_Mul nAB nW (by decide)) ?_
        simp only [JJ]
        exact ret_step (by rw [show p.q s = p.a s * p.b s * ((p.cam.w * p.cam.h : Int) : Rat) by
          rw [Pa.q, if_neg (by omega), if_neg (by omega), if_pos ⟨hsn, by rw [← hlast]; exact Classical.not_not.1 c2, c3⟩, hsn, show p.b p.n = 1 by rw [Pa.b, Nat.sub_self]; rfl, Rat.mul_one]]; rfl)
  · refine primS (.bool (decide _)) d_gtr ?_
    refine itD rfl (fun c2 => ?_) (fun c2 => ?_)
    · obtain ⟨i, rfl⟩ : ∃ i, s = i + 1 := ⟨s - 1, by omega⟩
      obtain ⟨e, he', hE'⟩ := h.ed' (i := i) (by omega)
      refine primS (.bool true) (d_lss.trans (by rw [decide_eq_true (by omega)])) ?_
      refine itT rfl ?_
      refine primS (.int .i64 (i : Int)) ((d_sub64 (by omega) (by omega)).trans (by congr 2; omega)) ?_
      refine primS (.bool true) (edl_inb (by omega)) ?_
      refine primS (.int .i64 e.hops) (ed_hops he') ?_
      refine primS (.bool (decide (e.hops ≠ 0))) d_neq ?_
      refine itD rfl (fun c3 => ?_) (fun c3 => ?_)
      · try simp only [JJ]
        refine cs1 f_R3_Zero ?_
        simp only [JJ]
        exact ret_step (by rw [show p.q (i + 1) = 0 by rw [Pa.q, if_neg (by omega), if_neg (fun z => c3 (by rw [hE'.hops]; exact z.2)), if_neg (by omega)]]; rfl)
      · have c3 := Classical.not_not.1 c3
        try simp only [JJ]
        refine cs1 kA ?_
        simp only [JJ]
        refine cs1 kB ?_
        simp only [JJ]
        refine cs1 (f_R3_Mul nA nB (by decide)) ?_
        simp only [JJ]
        refine primS (.bool false) (d_eql.trans (by rw [decide_eq_false (by omega)])) ?_
        refine itF rfl ?_
        exact ret_step (by rw [show p.q (i + 1) = p.a (i + 1) * p.b (i + 1) by rw [Pa.q, if_neg (by omega), if_pos ⟨by omega, by rw [Nat.add_sub_cancel, ← hE'.hops]; exact c3⟩]]; rfl)
    · obtain rfl : s = 0 := by omega
      try simp only [JJ]
      refine cs1 kA ?_
      simp only [JJ]
      refine cs1 kB ?_
      simp only [JJ]
      refine cs1 (f_R3_Mul nA nB (by decide)) ?_
      simp only [JJ]
      refine primS (.bool false) (d_eql.trans (by rw [decide_eq_false (by omega)])) ?_
      refine itF rfl ?_
      exact ret_step (by rw [show p.q 0 = p.a 0 * p.b 0 by rw [Pa.q, if_pos rfl, show p.a 0 = 1 from rfl, Rat.one_mul]]; rfl)

/-! ### All ways -/
theorem rowQ_s {i : Nat} : p.rowQ (i + 1) = p.rowQ i ++ [cr (p.q i)] := by rw [Pa.rowQ, List.range_succ, List.map_append]; rfl
theorem rowM_s {i : Nat} : p.rowM (i + 1) = p.rowM i ++ [cr (p.m (i + 1))] := by rw [Pa.rowM, List.range_succ, List.map_append]; rfl
theorem fr_Densities (h : NP 1048576 r p) : PureCalls prog F.penumbraref18_Densities [.agg r.c] [.one (rl (if p.may then p.rowQ (p.n + 1) else [])), .one (rl (if p.may then p.rowM (p.n - 1) else []))] := by
  refine symFunc_sound hmix tree_penumbraref18_Densities (by kernel_rfl) rfl ?_
  unfold ir_penumbraref18_Densities
  have hn : r.sp.length = p.n := h.spn
  have he := h.edn
  have hS := h.sm
  have kM := fr_May h
  have kj := fun s hm (hs : s ≤ p.n) => fr_join h hm hs
  have ka := fun s hm (hs : s ≤ p.n) => fr_A h hm hs
  have kb := fun s hm (hs : s ≤ p.n) => fr_B h hm hs
  simp only [RP.c, RP.tl, RE.c, RCam.c] at kM kj ka kb ⊢
  simp only [JJ]
  refine call_step kM rfl ?_
  try simp only [JJ]
  refine primS (.bool (!_)) rfl ?_
  refine itN rfl (fun c0 => ?_) (fun c0 => ?_)
  · rw [if_neg c0, if_neg c0]
    exact ret_step rfl
  rw [if_pos c0, if_pos c0]
  have hm := c0
  obtain ⟨⟨h1, h16⟩, hE, ⟨hw1, hw2⟩, hh1, hh2⟩ := c0
  refine primS (.int .i64 (p.n : Int)) (by rw [← hn]; rfl) ?_
  refine primS (rl (p.rowQ 0)) rfl ?_
  refine primS (rl (p.rowM 0)) rfl ?_
  refine loop_st (fun i : Nat => [.int .i64 (p.n : Int), .int .i64 (i : Int)] ++ gW [r.start] ++ [spl r.sp, edl r.ed] ++ r.tl ++ [rl (p.rowQ i), rl (p.rowM 0)]) (fun i => i ≤ p.n + 1) (fun i => p.n + 1 - i) 0 (Nat.zero_le _) rfl (fun _ => rfl) fun i hi X hX => ?_
  simp only [RP.tl, RE.c, RCam.c]
  simp only [JJ]
  refine primS (.bool (decide _)) d_leq ?_
  refine itD rfl (fun c1 => ?_) (fun c1 => ?_)
  · have hX' := hX (i + 1) (by omega) (by omega)
    try simp only [JJ]
    refine cs1 (kj i hm (by omega)) ?_
    simp only [JJ]
    refine primS (rl [cr (p.q i)]) rfl ?_
    refine primS (rl (p.rowQ i ++ [cr (p.q i)])) (rl_app (by rw [rowQ_len]; simp; omega)) ?_
    rw [← rowQ_s]
    refine primS (.int .i64 ((i + 1 : Nat) : Int)) ((d_add64 (by omega) (by omega)).trans (by simp)) ?_
    exact jump_step rfl hX'
  · obtain rfl : i = p.n + 1 := by omega
    refine loop_st (fun i : Nat => [.int .i64 (p.n : Int), .int .i64 ((i + 1 : Nat) : Int)] ++ gW [r.start] ++ [spl r.sp, edl r.ed] ++ r.tl ++ [rl (p.rowQ (p.n + 1)), rl (p.rowM i)]) (fun i => i + 1 ≤ p.n) (fun i => p.n - i) 0 (by omega) rfl (fun _ => rfl) fun i hi Y hY => ?_
    simp only [RP.tl, RE.c, RCam.c]
    simp only [JJ]
    refine primS (.bool (decide _)) d_lss ?_
    refine itD rfl (fun c2 => ?_) (fun c2 => ?_)
    · have hY' := hY (i + 1) (by omega) (by omega)
      have nA := Num.of (hS.a' (i := i + 2) (by omega))
      have nB := Num.of (hS.b h16 (i + 1))
      have nAB := Num.of (nA.sm.mul nB.sm)
      refine primS (.int .i64 ((i + 2 : Nat) : Int)) ((d_add64 (by omega) (by omega)).trans (by simp; omega)) ?_
      try simp only [JJ]
      refine cs1 (ka (i + 2) hm (by omega)) ?_
      simp only [JJ]
      refine cs1 (kb (i + 1) hm (by omega)) ?_
      simp only [JJ]
      refine cs1 (f_R3_Mul nA nB (by decide)) ?_
      simp only [JJ]
      refine cs1 (f_R3_Mul h.merge nAB (by decide)) ?_
      rw [show p.merge * (p.a (i + 2) * p.b (i + 1)) = p.m (i + 1) from (Rat.mul_assoc _ _ _).symm]
      simp only [JJ]
      refine primS (rl [cr (p.m (i + 1))]) rfl ?_
      refine primS (rl (p.rowM i ++ [cr (p.m (i + 1))])) (rl_app (by rw [rowM_len]; simp; omega)) ?_
      rw [← rowM_s]
      refine primS (.int .i64 ((i + 1 + 1 : Nat) : Int)) ((d_add64 (by omega) (by omega)).trans (by simp)) ?_
      exact jump_step rfl hY'
    · obtain rfl : i = p.n - 1 := by omega
      exact ret_step rfl
end
end Go.Px.Na

/- Fz: on which pixel a spot is seen, and how densely: the document's answer. -/
import Derived.Test.YtnohcccgfefnkaaGreatFf
set_option maxRecDepth 20000
set_option maxHeartbeats 40000000
set_option linter.unusedVariables false
set_option linter.unusedSimpArgs false
namespace Go.Px
open Go.RowKit
def ir_penumbraref05_Dot : IR :=
 .call F.penumbraref03_Mul [.agg [.var 0, .var 1, .var 2], .agg [.var 9, .var 10, .var 11]] [.agg 3] <|
 .call F.penumbraref03_Mul [.agg [.var 3, .var 4, .var 5], .agg [.var 12, .var 13, .var 14]] [.agg 3] <|
 .call F.penumbraref03_Add [.agg [.var 18, .var 19, .var 20], .agg [.var 21, .var 22, .var 23]] [.agg 3] <|
 .call F.penumbraref03_Mul [.agg [.var 6, .var 7, .var 8], .agg [.var 15, .var 16, .var 17]] [.agg 3] <|
 .call F.penumbraref03_Add [.agg [.var 24, .var 25, .var 26], .agg [.var 27, .var 28, .var 29]] [.agg 3] <|
 .ret [.agg [.var 30, .var 31, .var 32]]

def ir_penumbraref05_Sub : IR :=
 .call F.penumbraref03_Sub [.agg [.var 0, .var 1, .var 2], .agg [.var 9, .var 10, .var 11]] [.agg 3] <|
 .call F.penumbraref03_Sub [.agg [.var 3, .var 4, .var 5], .agg [.var 12, .var 13, .var 14]] [.agg 3] <|
 .call F.penumbraref03_Sub [.agg [.var 6, .var 7, .var 8], .agg [.var 15, .var 16, .var 17]] [.agg 3] <|
 .ret [.agg [.var 18, .var 19, .var 20, .var 21, .var 22, .var 23, .var 24, .var 25, .var 26]]

def ir_penumbraref05_Add : IR :=
 .call F.penumbraref03_Add [.agg [.var 0, .var 1, .var 2], .agg [.var 9, .var 10, .var 11]] [.agg 3] <|
 .call F.penumbraref03_Add [.agg [.var 3, .var 4, .var 5], .agg [.var 12, .var 13, .var 14]] [.agg 3] <|
 .call F.penumbraref03_Add [.agg [.var 6, .var 7, .var 8], .agg [.var 15, .var 16, .var 17]] [.agg 3] <|
 .ret [.agg [.var 18, .var 19, .var 20, .var 21, .var 22, .var 23, .var 24, .var 25, .var 26]]

def ir_penumbraref05_Cross : IR :=
 .call F.penumbraref03_Mul [.agg [.var 3, .var 4, .var 5], .agg [.var 15, .var 16, .var 17]] [.agg 3] <|
 .call F.penumbraref03_Mul [.agg [.var 6, .var 7, .var 8], .agg [.var 12, .var 13, .var 14]] [.agg 3] <|
 .call F.penumbraref03_Sub [.agg [.var 18, .var 19, .var 20], .agg [.var 21, .var 22, .var 23]] [.agg 3] <|
 .call F.penumbraref03_Mul [.agg [.var 6, .var 7, .var 8], .agg [.var 9, .var 10, .var 11]] [.agg 3] <|
 .call F.penumbraref03_Mul [.agg [.var 0, .var 1, .var 2], .agg [.var 15, .var 16, .var 17]] [.agg 3] <|
 .call F.penumbraref03_Sub [.agg [.var 27, .var 28, .var 29], .agg [.var 30, .var 31, .var 32]] [.agg 3] <|
 .call F.penumbraref03_Mul [.agg [.var 0, .var 1, .var 2], .agg [.var 12, .var 13, .var 14]] [.agg 3] <|
 .call F.penumbraref03_Mul [.agg [.var 3, .var 4, .var 5], .agg [.var 9, .var 10, .var 11]] [.agg 3] <|
 .call F.penumbraref03_Sub [.agg [.var 36, .var 37, .var 38], .agg [.var 39, .var 40, .var 41]] [.agg 3] <|
 .ret [.agg [.var 24, .var 25, .var 26, .var 33, .var 34, .var 35, .var 42, .var 43, .var 44]]

def ir_penumbraref05_Scale : IR :=
 .call F.penumbraref03_Mul [.agg [.var 0, .var 1, .var 2], .agg [.var 3, .var 4, .var 5]] [.agg 3] <|
 .call F.penumbraref03_Mul [.agg [.var 0, .var 1, .var 2], .agg [.var 6, .var 7, .var 8]] [.agg 3] <|
 .call F.penumbraref03_Mul [.agg [.var 0, .var 1, .var 2], .agg [.var 9, .var 10, .var 11]] [.agg 3] <|
 .ret [.agg [.var 12, .var 13, .var 14, .var 15, .var 16, .var 17, .var 18, .var 19, .var 20]]

def ir_penumbraref05_Read : IR :=
 .call F.penumbraref03_Read [.agg [.var 0, .var 1, .var 2]] [.agg 3] <|
 .call F.penumbraref03_Read [.agg [.var 3, .var 4, .var 5]] [.agg 3] <|
 .call F.penumbraref03_Read [.agg [.var 6, .var 7, .var 8]] [.agg 3] <|
 .ret [.agg [.var 9, .var 10, .var 11, .var 12, .var 13, .var 14, .var 15, .var 16, .var 17]]

def ir_penumbraref05_Zero : IR :=
 .call F.penumbraref03_Zero [] [.agg 3] <|
 .call F.penumbraref03_Zero [] [.agg 3] <|
 .call F.penumbraref03_Zero [] [.agg 3] <|
 .ret [.agg [.var 0, .var 1, .var 2, .var 3, .var 4, .var 5, .var 6, .var 7, .var 8]]

def ir_penumbraref05_Is : IR :=
 .call F.penumbraref03_Is [.agg [.var 0, .var 1, .var 2], .agg [.var 9, .var 10, .var 11]] [.one] <|
 .ite (.var 18) (
  .call F.penumbraref03_Is [.agg [.var 3, .var 4, .var 5], .agg [.var 12, .var 13, .var 14]] [.one] <|
  .ite (.var 19) (
   .call F.penumbraref03_Is [.agg [.var 6, .var 7, .var 8], .agg [.var 15, .var 16, .var 17]] [.one] <|
   .ret [.one (.var 20)]) (
   .ret [.one (.bol false)])) (
  .ret [.one (.bol false)])

def ir_penumbraref05_Null : IR :=
 .call F.penumbraref05_Read [.agg [.var 0, .var 1, .var 2, .var 3, .var 4, .var 5, .var 6, .var 7, .var 8]] [.agg 9] <|
 .call F.penumbraref05_Zero [] [.agg 9] <|
 .call F.penumbraref05_Is [.agg [.var 9, .var 10, .var 11, .var 12, .var 13, .var 14, .var 15, .var 16, .var 17], .agg [.var 18, .var 19, .var 20, .var 21, .var 22, .var 23, .var 24, .var 25, .var 26]] [.one] <|
 .ret [.one (.var 27)]

def ir_penumbraref06_Of : IR :=
 .call F.penumbraref05_Dot [.agg [.var 0, .var 1, .var 2, .var 3, .var 4, .var 5, .var 6, .var 7, .var 8], .agg [.var 0, .var 1, .var 2, .var 3, .var 4, .var 5, .var 6, .var 7, .var 8]] [.agg 3] <|
 .call F.penumbraref03_One [] [.agg 3] <|
 .call F.penumbraref03_Is [.agg [.var 9, .var 10, .var 11], .agg [.var 12, .var 13, .var 14]] [.one] <|
 .prim .not [.var 15] <|
 .ite (.var 16) (
  .call F.penumbraref05_Zero [] [.agg 9] <|
  .call F.penumbraref05_Zero [] [.agg 9] <|
  .call F.penumbraref05_Zero [] [.agg 9] <|
  .ret [.agg [.var 17, .var 18, .var 19, .var 20, .var 21, .var 22, .var 23, .var 24, .var 25, .var 26, .var 27, .var 28, .var 29, .var 30, .var 31, .var 32, .var 33, .var 34, .var 35, .var 36, .var 37, .var 38, .var 39, .var 40, .var 41, .var 42, .var 43], .one (.bol false)]) (
  .call F.penumbraref05_Of [.one (.int .i64 (0)), .one (.int .i64 (0)), .one (.int .i64 (1))] [.agg 9] <|
  .call F.penumbraref05_Sub [.agg [.var 17, .var 18, .var 19, .var 20, .var 21, .var 22, .var 23, .var 24, .var 25], .agg [.var 0, .var 1, .var 2, .var 3, .var 4, .var 5, .var 6, .var 7, .var 8]] [.agg 9] <|
  .call F.penumbraref05_Null [.agg [.var 26, .var 27, .var 28, .var 29, .var 30, .var 31, .var 32, .var 33, .var 34]] [.one] <|
  .ite (.var 35) (
   .call F.penumbraref05_Of [.one (.int .i64 (1)), .one (.int .i64 (0)), .one (.int .i64 (0))] [.agg 9] <|
   .call F.penumbraref05_Of [.one (.int .i64 (0)), .one (.int .i64 (1)), .one (.int .i64 (0))] [.agg 9] <|
   .call F.penumbraref05_Of [.one (.int .i64 (0)), .one (.int .i64 (0)), .one (.int .i64 (1))] [.agg 9] <|
   .ret [.agg [.var 36, .var 37, .var 38, .var 39, .var 40, .var 41, .var 42, .var 43, .var 44, .var 45, .var 46, .var 47, .var 48, .var 49, .var 50, .var 51, .var 52, .var 53, .var 54, .var 55, .var 56, .var 57, .var 58, .var 59, .var 60, .var 61, .var 62], .one (.bol true)]) (
   .call F.penumbraref05_Dot [.agg [.var 26, .var 27, .var 28, .var 29, .var 30, .var 31, .var 32, .var 33, .var 34], .agg [.var 26, .var 27, .var 28, .var 29, .var 30, .var 31, .var 32, .var 33, .var 34]] [.agg 3] <|
   .call F.penumbraref03_Of [.one (.int .i64 (2)), .one (.int .i64 (1))] [.agg 3] <|
   .call F.penumbraref03_Mul [.agg [.var 39, .var 40, .var 41], .agg [.var 26, .var 27, .var 28]] [.agg 3] <|
   .call F.penumbraref03_Over [.agg [.var 42, .var 43, .var 44], .agg [.var 36, .var 37, .var 38]] [.agg 3] <|
   .call F.penumbraref03_Of [.one (.int .i64 (2)), .one (.int .i64 (1))] [.agg 3] <|
   .call F.penumbraref03_Mul [.agg [.var 48, .var 49, .var 50], .agg [.var 29, .var 30, .var 31]] [.agg 3] <|
   .call F.penumbraref03_Over [.agg [.var 51, .var 52, .var 53], .agg [.var 36, .var 37, .var 38]] [.agg 3] <|
   .call F.penumbraref05_Of [.one (.int .i64 (1)), .one (.int .i64 (0)), .one (.int .i64 (0))] [.agg 9] <|
   .call F.penumbraref05_Scale [.agg [.var 45, .var 46, .var 47], .agg [.var 26, .var 27, .var 28, .var 29, .var 30, .var 31, .var 32, .var 33, .var 34]] [.agg 9] <|
   .call F.penumbraref05_Sub [.agg [.var 57, .var 58, .var 59, .var 60, .var 61, .var 62, .var 63, .var 64, .var 65], .agg [.var 66, .var 67, .var 68, .var 69, .var 70, .var 71, .var 72, .var 73, .var 74]] [.agg 9] <|
   .call F.penumbraref05_Of [.one (.int .i64 (0)), .one (.int .i64 (1)), .one (.int .i64 (0))] [.agg 9] <|
   .call F.penumbraref05_Scale [.agg [.var 54, .var 55, .var 56], .agg [.var 26, .var 27, .var 28, .var 29, .var 30, .var 31, .var 32, .var 33, .var 34]] [.agg 9] <|
   .call F.penumbraref05_Sub [.agg [.var 84, .var 85, .var 86, .var 87, .var 88, .var 89, .var 90, .var 91, .var 92], .agg [.var 93, .var 94, .var 95, .var 96, .var 97, .var 98, .var 99, .var 100, .var 101]] [.agg 9] <|
   .call F.penumbraref05_Read [.agg [.var 0, .var 1, .var 2, .var 3, .var 4, .var 5, .var 6, .var 7, .var 8]] [.agg 9] <|
   .ret [.agg [.var 75, .var 76, .var 77, .var 78, .var 79, .var 80, .var 81, .var 82, .var 83, .var 102, .var 103, .var 104, .var 105, .var 106, .var 107, .var 108, .var 109, .var 110, .var 111, .var 112, .var 113, .var 114, .var 115, .var 116, .var 117, .var 118, .var 119], .one (.bol true)]))

def ir_penumbraref06_In : IR :=
 .call F.penumbraref05_Dot [.agg [.var 27, .var 28, .var 29, .var 30, .var 31, .var 32, .var 33, .var 34, .var 35], .agg [.var 0, .var 1, .var 2, .var 3, .var 4, .var 5, .var 6, .var 7, .var 8]] [.agg 3] <|
 .call F.penumbraref05_Dot [.agg [.var 27, .var 28, .var 29, .var 30, .var 31, .var 32, .var 33, .var 34, .var 35], .agg [.var 9, .var 10, .var 11, .var 12, .var 13, .var 14, .var 15, .var 16, .var 17]] [.agg 3] <|
 .call F.penumbraref05_Dot [.agg [.var 27, .var 28, .var 29, .var 30, .var 31, .var 32, .var 33, .var 34, .var 35], .agg [.var 18, .var 19, .var 20, .var 21, .var 22, .var 23, .var 24, .var 25, .var 26]] [.agg 3] <|
 .ret [.agg [.var 36, .var 37, .var 38, .var 39, .var 40, .var 41, .var 42, .var 43, .var 44]]

def ir_penumbraref06_Slopes : IR :=
 .call F.penumbraref06_In [.agg [.var 0, .var 1, .var 2, .var 3, .var 4, .var 5, .var 6, .var 7, .var 8, .var 9, .var 10, .var 11, .var 12, .var 13, .var 14, .var 15, .var 16, .var 17, .var 18, .var 19, .var 20, .var 21, .var 22, .var 23, .var 24, .var 25, .var 26], .agg [.var 27, .var 28, .var 29, .var 30, .var 31, .var 32, .var 33, .var 34, .var 35]] [.agg 9] <|
 .call F.penumbraref03_Sign [.agg [.var 42, .var 43, .var 44]] [.one] <|
 .prim (.bin .eql) [.var 45, .int .i64 (0)] <|
 .ite (.var 46) (
  .call F.penumbraref03_Zero [] [.agg 3] <|
  .call F.penumbraref03_Zero [] [.agg 3] <|
  .call F.penumbraref03_Zero [] [.agg 3] <|
  .ret [.agg [.var 47, .var 48, .var 49], .agg [.var 50, .var 51, .var 52], .agg [.var 53, .var 54, .var 55], .one (.bol false)]) (
  .call F.penumbraref03_Over [.agg [.var 36, .var 37, .var 38], .agg [.var 42, .var 43, .var 44]] [.agg 3] <|
  .call F.penumbraref03_Over [.agg [.var 39, .var 40, .var 41], .agg [.var 42, .var 43, .var 44]] [.agg 3] <|
  .ret [.agg [.var 47, .var 48, .var 49], .agg [.var 50, .var 51, .var 52], .agg [.var 42, .var 43, .var 44], .one (.bol true)])

def ir_penumbraref07_Turn : IR :=
 .call F.penumbraref05_Dot [.agg [.var 0, .var 1, .var 2, .var 3, .var 4, .var 5, .var 6, .var 7, .var 8], .agg [.var 36, .var 37, .var 38, .var 39, .var 40, .var 41, .var 42, .var 43, .var 44]] [.agg 3] <|
 .call F.penumbraref05_Dot [.agg [.var 9, .var 10, .var 11, .var 12, .var 13, .var 14, .var 15, .var 16, .var 17], .agg [.var 36, .var 37, .var 38, .var 39, .var 40, .var 41, .var 42, .var 43, .var 44]] [.agg 3] <|
 .call F.penumbraref05_Dot [.agg [.var 18, .var 19, .var 20, .var 21, .var 22, .var 23, .var 24, .var 25, .var 26], .agg [.var 36, .var 37, .var 38, .var 39, .var 40, .var 41, .var 42, .var 43, .var 44]] [.agg 3] <|
 .ret [.agg [.var 45, .var 46, .var 47, .var 48, .var 49, .var 50, .var 51, .var 52, .var 53]]

def ir_penumbraref07_Apply : IR :=
 .call F.penumbraref07_Turn [.agg [.var 0, .var 1, .var 2, .var 3, .var 4, .var 5, .var 6, .var 7, .var 8, .var 9, .var 10, .var 11, .var 12, .var 13, .var 14, .var 15, .var 16, .var 17, .var 18, .var 19, .var 20, .var 21, .var 22, .var 23, .var 24, .var 25, .var 26, .var 27, .var 28, .var 29, .var 30, .var 31, .var 32, .var 33, .var 34, .var 35], .agg [.var 36, .var 37, .var 38, .var 39, .var 40, .var 41, .var 42, .var 43, .var 44]] [.agg 9] <|
 .call F.penumbraref05_Add [.agg [.var 45, .var 46, .var 47, .var 48, .var 49, .var 50, .var 51, .var 52, .var 53], .agg [.var 27, .var 28, .var 29, .var 30, .var 31, .var 32, .var 33, .var 34, .var 35]] [.agg 9] <|
 .ret [.agg [.var 54, .var 55, .var 56, .var 57, .var 58, .var 59, .var 60, .var 61, .var 62]]

def ir_penumbraref07_Area : IR :=
 .call F.penumbraref05_Cross [.agg [.var 9, .var 10, .var 11, .var 12, .var 13, .var 14, .var 15, .var 16, .var 17], .agg [.var 18, .var 19, .var 20, .var 21, .var 22, .var 23, .var 24, .var 25, .var 26]] [.agg 9] <|
 .call F.penumbraref05_Dot [.agg [.var 45, .var 46, .var 47, .var 48, .var 49, .var 50, .var 51, .var 52, .var 53], .agg [.var 36, .var 37, .var 38, .var 39, .var 40, .var 41, .var 42, .var 43, .var 44]] [.agg 3] <|
 .call F.penumbraref05_Cross [.agg [.var 18, .var 19, .var 20, .var 21, .var 22, .var 23, .var 24, .var 25, .var 26], .agg [.var 0, .var 1, .var 2, .var 3, .var 4, .var 5, .var 6, .var 7, .var 8]] [.agg 9] <|
 .call F.penumbraref05_Dot [.agg [.var 57, .var 58, .var 59, .var 60, .var 61, .var 62, .var 63, .var 64, .var 65], .agg [.var 36, .var 37, .var 38, .var 39, .var 40, .var 41, .var 42, .var 43, .var 44]] [.agg 3] <|
 .call F.penumbraref05_Cross [.agg [.var 0, .var 1, .var 2, .var 3, .var 4, .var 5, .var 6, .var 7, .var 8], .agg [.var 9, .var 10, .var 11, .var 12, .var 13, .var 14, .var 15, .var 16, .var 17]] [.agg 9] <|
 .call F.penumbraref05_Dot [.agg [.var 69, .var 70, .var 71, .var 72, .var 73, .var 74, .var 75, .var 76, .var 77], .agg [.var 36, .var 37, .var 38, .var 39, .var 40, .var 41, .var 42, .var 43, .var 44]] [.agg 3] <|
 .ret [.agg [.var 54, .var 55, .var 56, .var 66, .var 67, .var 68, .var 78, .var 79, .var 80]]

def ir_penumbraref07_Det : IR :=
 .call F.penumbraref05_Cross [.agg [.var 9, .var 10, .var 11, .var 12, .var 13, .var 14, .var 15, .var 16, .var 17], .agg [.var 18, .var 19, .var 20, .var 21, .var 22, .var 23, .var 24, .var 25, .var 26]] [.agg 9] <|
 .call F.penumbraref05_Dot [.agg [.var 0, .var 1, .var 2, .var 3, .var 4, .var 5, .var 6, .var 7, .var 8], .agg [.var 36, .var 37, .var 38, .var 39, .var 40, .var 41, .var 42, .var 43, .var 44]] [.agg 3] <|
 .ret [.agg [.var 45, .var 46, .var 47]]

def ir_penumbraref16_unit : IR :=
 .call F.penumbraref05_Dot [.agg [.var 0, .var 1, .var 2, .var 3, .var 4, .var 5, .var 6, .var 7, .var 8], .agg [.var 0, .var 1, .var 2, .var 3, .var 4, .var 5, .var 6, .var 7, .var 8]] [.agg 3] <|
 .call F.penumbraref03_One [] [.agg 3] <|
 .call F.penumbraref03_Is [.agg [.var 9, .var 10, .var 11], .agg [.var 12, .var 13, .var 14]] [.one] <|
 .ret [.one (.var 15)]

def ir_penumbraref16_Way : IR :=
 .call F.penumbraref07_Apply [.agg [.var 36, .var 37, .var 38, .var 39, .var 40, .var 41, .var 42, .var 43, .var 44, .var 45, .var 46, .var 47, .var 48, .var 49, .var 50, .var 51, .var 52, .var 53, .var 54, .var 55, .var 56, .var 57, .var 58, .var 59, .var 60, .var 61, .var 62, .var 63, .var 64, .var 65, .var 66, .var 67, .var 68, .var 69, .var 70, .var 71], .agg [.var 18, .var 19, .var 20, .var 21, .var 22, .var 23, .var 24, .var 25, .var 26]] [.agg 9] <|
 .call F.penumbraref05_Sub [.agg [.var 72, .var 73, .var 74, .var 75, .var 76, .var 77, .var 78, .var 79, .var 80], .agg [.var 0, .var 1, .var 2, .var 3, .var 4, .var 5, .var 6, .var 7, .var 8]] [.agg 9] <|
 .ret [.agg [.var 81, .var 82, .var 83, .var 84, .var 85, .var 86, .var 87, .var 88, .var 89]]

def ir_penumbraref16_Wide : IR :=
 .call F.penumbraref07_Area [.agg [.var 36, .var 37, .var 38, .var 39, .var 40, .var 41, .var 42, .var 43, .var 44, .var 45, .var 46, .var 47, .var 48, .var 49, .var 50, .var 51, .var 52, .var 53, .var 54, .var 55, .var 56, .var 57, .var 58, .var 59, .var 60, .var 61, .var 62, .var 63, .var 64, .var 65, .var 66, .var 67, .var 68, .var 69, .var 70, .var 71], .agg [.var 27, .var 28, .var 29, .var 30, .var 31, .var 32, .var 33, .var 34, .var 35]] [.agg 9] <|
 .call F.penumbraref16_Way [.agg [.var 0, .var 1, .var 2, .var 3, .var 4, .var 5, .var 6, .var 7, .var 8, .var 9, .var 10, .var 11, .var 12, .var 13, .var 14, .var 15, .var 16, .var 17], .agg [.var 18, .var 19, .var 20, .var 21, .var 22, .var 23, .var 24, .var 25, .var 26, .var 27, .var 28, .var 29, .var 30, .var 31, .var 32, .var 33, .var 34, .var 35], .agg [.var 36, .var 37, .var 38, .var 39, .var 40, .var 41, .var 42, .var 43, .var 44, .var 45, .var 46, .var 47, .var 48, .var 49, .var 50, .var 51, .var 52, .var 53, .var 54, .var 55, .var 56, .var 57, .var 58, .var 59, .var 60, .var 61, .var 62, .var 63, .var 64, .var 65, .var 66, .var 67, .var 68, .var 69, .var 70, .var 71]] [.agg 9] <|
 .call F.penumbraref05_Dot [.agg [.var 72, .var 73, .var 74, .var 75, .var 76, .var 77, .var 78, .var 79, .var 80], .agg [.var 81, .var 82, .var 83, .var 84, .var 85, .var 86, .var 87, .var 88, .var 89]] [.agg 3] <|
 .ret [.agg [.var 90, .var 91, .var 92]]

def ir_penumbraref16_Seen : IR :=
 .call F.penumbraref07_Det [.agg [.var 36, .var 37, .var 38, .var 39, .var 40, .var 41, .var 42, .var 43, .var 44, .var 45, .var 46, .var 47, .var 48, .var 49, .var 50, .var 51, .var 52, .var 53, .var 54, .var 55, .var 56, .var 57, .var 58, .var 59, .var 60, .var 61, .var 62, .var 63, .var 64, .var 65, .var 66, .var 67, .var 68, .var 69, .var 70, .var 71]] [.agg 3] <|
 .call F.penumbraref16_Way [.agg [.var 0, .var 1, .var 2, .var 3, .var 4, .var 5, .var 6, .var 7, .var 8, .var 9, .var 10, .var 11, .var 12, .var 13, .var 14, .var 15, .var 16, .var 17], .agg [.var 18, .var 19, .var 20, .var 21, .var 22, .var 23, .var 24, .var 25, .var 26, .var 27, .var 28, .var 29, .var 30, .var 31, .var 32, .var 33, .var 34, .var 35], .agg [.var 36, .var 37, .var 38, .var 39, .var 40, .var 41, .var 42, .var 43, .var 44, .var 45, .var 46, .var 47, .var 48, .var 49, .var 50, .var 51, .var 52, .var 53, .var 54, .var 55, .var 56, .var 57, .var 58, .var 59, .var 60, .var 61, .var 62, .var 63, .var 64, .var 65, .var 66, .var 67, .var 68, .var 69, .var 70, .var 71]] [.agg 9] <|
 .call F.penumbraref05_Dot [.agg [.var 75, .var 76, .var 77, .var 78, .var 79, .var 80, .var 81, .var 82, .var 83], .agg [.var 9, .var 10, .var 11, .var 12, .var 13, .var 14, .var 15, .var 16, .var 17]] [.agg 3] <|
 .call F.penumbraref16_Wide [.agg [.var 0, .var 1, .var 2, .var 3, .var 4, .var 5, .var 6, .var 7, .var 8, .var 9, .var 10, .var 11, .var 12, .var 13, .var 14, .var 15, .var 16, .var 17], .agg [.var 18, .var 19, .var 20, .var 21, .var 22, .var 23, .var 24, .var 25, .var 26, .var 27, .var 28, .var 29, .var 30, .var 31, .var 32, .var 33, .var 34, .var 35], .agg [.var 36, .var 37, .var 38, .var 39, .var 40, .var 41, .var 42, .var 43, .var 44, .var 45, .var 46, .var 47, .var 48, .var 49, .var 50, .var 51, .var 52, .var 53, .var 54, .var 55, .var 56, .var 57, .var 58, .var 59, .var 60, .var 61, .var 62, .var 63, .var 64, .var 65, .var 66, .var 67, .var 68, .var 69, .var 70, .var 71]] [.agg 3] <|
 .call F.penumbraref16_unit [.agg [.var 9, .var 10, .var 11, .var 12, .var 13, .var 14, .var 15, .var 16, .var 17]] [.one] <|
 .ite (.var 90) (
  .call F.penumbraref16_unit [.agg [.var 27, .var 28, .var 29, .var 30, .var 31, .var 32, .var 33, .var 34, .var 35]] [.one] <|
  .ite (.var 91) (
   .call F.penumbraref03_Sign [.agg [.var 72, .var 73, .var 74]] [.one] <|
   .prim (.bin .neq) [.var 92, .int .i64 (0)] <|
   .ite (.var 93) (
    .call F.penumbraref03_Sign [.agg [.var 84, .var 85, .var 86]] [.one] <|
    .prim (.bin .gtr) [.var 94, .int .i64 (0)] <|
    .ite (.var 95) (
     .call F.penumbraref03_Mul [.agg [.var 87, .var 88, .var 89], .agg [.var 72, .var 73, .var 74]] [.agg 3] <|
     .call F.penumbraref03_Sign [.agg [.var 96, .var 97, .var 98]] [.one] <|
     .prim (.bin .lss) [.var 99, .int .i64 (0)] <|
     .ret [.one (.var 100)]) (
     .ret [.one (.bol false)])) (
    .ret [.one (.bol false)])) (
   .ret [.one (.bol false)])) (
  .ret [.one (.bol false)])

def ir_penumbraref16_Slopes : IR :=
 .call F.penumbraref06_Of [.agg [.var 9, .var 10, .var 11, .var 12, .var 13, .var 14, .var 15, .var 16, .var 17]] [.agg 27, .one] <|
 .call F.penumbraref16_Way [.agg [.var 0, .var 1, .var 2, .var 3, .var 4, .var 5, .var 6, .var 7, .var 8, .var 9, .var 10, .var 11, .var 12, .var 13, .var 14, .var 15, .var 16, .var 17], .agg [.var 18, .var 19, .var 20, .var 21, .var 22, .var 23, .var 24, .var 25, .var 26, .var 27, .var 28, .var 29, .var 30, .var 31, .var 32, .var 33, .var 34, .var 35], .agg [.var 36, .var 37, .var 38, .var 39, .var 40, .var 41, .var 42, .var 43, .var 44, .var 45, .var 46, .var 47, .var 48, .var 49, .var 50, .var 51, .var 52, .var 53, .var 54, .var 55, .var 56, .var 57, .var 58, .var 59, .var 60, .var 61, .var 62, .var 63, .var 64, .var 65, .var 66, .var 67, .var 68, .var 69, .var 70, .var 71]] [.agg 9] <|
 .call F.penumbraref06_Slopes [.agg [.var 72, .var 73, .var 74, .var 75, .var 76, .var 77, .var 78, .var 79, .var 80, .var 81, .var 82, .var 83, .var 84, .var 85, .var 86, .var 87, .var 88, .var 89, .var 90, .var 91, .var 92, .var 93, .var 94, .var 95, .var 96, .var 97, .var 98], .agg [.var 100, .var 101, .var 102, .var 103, .var 104, .var 105, .var 106, .var 107, .var 108]] [.agg 3, .agg 3, .agg 3, .one] <|
 .ret [.agg [.var 109, .var 110, .var 111], .agg [.var 112, .var 113, .var 114], .agg [.var 115, .var 116, .var 117]]

def ir_penumbraref16_three : IR :=
 .call F.penumbraref03_Mul [.agg [.var 0, .var 1, .var 2], .agg [.var 0, .var 1, .var 2]] [.agg 3] <|
 .call F.penumbraref03_Mul [.agg [.var 0, .var 1, .var 2], .agg [.var 3, .var 4, .var 5]] [.agg 3] <|
 .ret [.agg [.var 6, .var 7, .var 8]]

def ir_penumbraref16_Side : IR :=
 .call F.penumbraref03_Of [.one (.int .i64 (2)), .one (.var 3)] [.agg 3] <|
 .call F.penumbraref03_Mul [.agg [.var 4, .var 5, .var 6], .agg [.var 0, .var 1, .var 2]] [.agg 3] <|
 .ret [.agg [.var 7, .var 8, .var 9]]

theorem tree_penumbraref05_Dot : symFunc Go.Proofs.Tryz.prog H0 400 F.penumbraref05_Dot [.agg 9, .agg 9] = some ir_penumbraref05_Dot := by kernel_rfl
theorem tree_penumbraref05_Sub : symFunc Go.Proofs.Tryz.prog H0 400 F.penumbraref05_Sub [.agg 9, .agg 9] = some ir_penumbraref05_Sub := by kernel_rfl
theorem tree_penumbraref05_Add : symFunc Go.Proofs.Tryz.prog H0 400 F.penumbraref05_Add [.agg 9, .agg 9] = some ir_penumbraref05_Add := by kernel_rfl
theorem tree_penumbraref05_Cross : symFunc Go.Proofs.Tryz.prog H0 400 F.penumbraref05_Cross [.agg 9, .agg 9] = some ir_penumbraref05_Cross := by kernel_rfl
theorem tree_penumbraref05_Scale : symFunc Go.Proofs.Tryz.prog H0 400 F.penumbraref05_Scale [.agg 3, .agg 9] = some ir_penumbraref05_Scale := by kernel_rfl
theorem tree_penumbraref05_Read : symFunc Go.Proofs.Tryz.prog H0 400 F.penumbraref05_Read [.agg 9] = some ir_penumbraref05_Read := by kernel_rfl
theorem tree_penumbraref05_Zero : symFunc Go.Proofs.Tryz.prog H0 400 F.penumbraref05_Zero [] = some ir_penumbraref05_Zero := by kernel_rfl
theorem tree_penumbraref05_Is : symFunc Go.Proofs.Tryz.prog H0 400 F.penumbraref05_Is [.agg 9, .agg 9] = some ir_penumbraref05_Is := by kernel_rfl
theorem tree_penumbraref05_Null : symFunc Go.Proofs.Tryz.prog H0 400 F.penumbraref05_Null [.agg 9] = some ir_penumbraref05_Null := by kernel_rfl
theorem tree_penumbraref06_Of : symFunc Go.Proofs.Tryz.prog H0 400 F.penumbraref06_Of [.agg 9] = some ir_penumbraref06_Of := by kernel_rfl
theorem tree_penumbraref06_In : symFunc Go.Proofs.Tryz.prog H0 400 F.penumbraref06_In [.agg 27, .agg 9] = some ir_penumbraref06_In := by kernel_rfl
theorem tree_penumbraref06_Slopes : symFunc Go.Proofs.Tryz.prog H0 400 F.penumbraref06_Slopes [.agg 27, .agg 9] = some ir_penumbraref06_Slopes := by kernel_rfl
theorem tree_penumbraref07_Turn : symFunc Go.Proofs.Tryz.prog H0 400 F.penumbraref07_Turn [.agg 36, .agg 9] = some ir_penumbraref07_Turn := by kernel_rfl
theorem tree_penumbraref07_Apply : symFunc Go.Proofs.Tryz.prog H0 400 F.penumbraref07_Apply [.agg 36, .agg 9] = some ir_penumbraref07_Apply := by kernel_rfl
theorem tree_penumbraref07_Area : symFunc Go.Proofs.Tryz.prog H0 400 F.penumbraref07_Area [.agg 36, .agg 9] = some ir_penumbraref07_Area := by kernel_rfl
theorem tree_penumbraref07_Det : symFunc Go.Proofs.Tryz.prog H0 400 F.penumbraref07_Det [.agg 36] = some ir_penumbraref07_Det := by kernel_rfl
theorem tree_penumbraref16_unit : symFunc Go.Proofs.Tryz.prog H0 400 F.penumbraref16_unit [.agg 9] = some ir_penumbraref16_unit := by kernel_rfl
theorem tree_penumbraref16_Way : symFunc Go.Proofs.Tryz.prog H0 400 F.penumbraref16_Way [.agg 18, .agg 18, .agg 36] = some ir_penumbraref16_Way := by kernel_rfl
theorem tree_penumbraref16_Wide : symFunc Go.Proofs.Tryz.prog H0 400 F.penumbraref16_Wide [.agg 18, .agg 18, .agg 36] = some ir_penumbraref16_Wide := by kernel_rfl
theorem tree_penumbraref16_Seen : symFunc Go.Proofs.Tryz.prog H0 400 F.penumbraref16_Seen [.agg 18, .agg 18, .agg 36] = some ir_penumbraref16_Seen := by kernel_rfl
theorem tree_penumbraref16_Slopes : symFunc Go.Proofs.Tryz.prog H0 400 F.penumbraref16_Slopes [.agg 18, .agg 18, .agg 36] = some ir_penumbraref16_Slopes := by kernel_rfl
theorem tree_penumbraref16_three : symFunc Go.Proofs.Tryz.prog H0 400 F.penumbraref16_three [.agg 3] = some ir_penumbraref16_three := by kernel_rfl
theorem tree_penumbraref16_Side : symFunc Go.Proofs.Tryz.prog H0 400 F.penumbraref16_Side [.agg 3, .one] = some ir_penumbraref16_Side := by kernel_rfl
end Go.Px
namespace Go.Px.Na
open Go.RowKit
open Go.Proofs.Tryz (prog)
section
variable {L M : Nat} {r s : RR} {x y : Rat}
theorem f_R3_Mul (h : Num L r x) (g : Num M s y) (hl : L ≤ LL ∧ M ≤ LL) : PureCalls prog F.penumbraref03_Mul [.agg (gW [r]), .agg (gW [s])] [.agg (gD [x * y])] := n_penumbraref03_Mul (h.mono hl.1) (g.mono hl.2) rfl
theorem f_R3_Add (h : Num L r x) (g : Num M s y) (hl : L ≤ LL ∧ M ≤ LL) : PureCalls prog F.penumbraref03_Add [.agg (gW [r]), .agg (gW [s])] [.agg (gD [x + y])] := n_penumbraref03_Add (h.mono hl.1) (g.mono hl.2) rfl
theorem f_R3_Sub (h : Num L r x) (g : Num M s y) (hl : L ≤ LL ∧ M ≤ LL) : PureCalls prog F.penumbraref03_Sub [.agg (gW [r]), .agg (gW [s])] [.agg (gD [x - y])] := n_penumbraref03_Sub (h.mono hl.1) (g.mono hl.2) rfl
theorem f_R3_Over (h : Num L r x) (g : Num M s y) (hl : L ≤ LL ∧ M ≤ LL) : PureCalls prog F.penumbraref03_Over [.agg (gW [r]), .agg (gW [s])] [.agg (gD [x / y])] := n_penumbraref03_Over (h.mono hl.1) (g.mono hl.2) rfl
theorem f_R3_Abs (h : Num L r x) (hl : L ≤ LL) : PureCalls prog F.penumbraref03_Abs [.agg (gW [r])] [.agg (gD [x.abs])] := n_penumbraref03_Abs_o (h.mono hl) rfl
theorem f_R3_Sign (h : Num L r x) (hl : L ≤ LL) : PureCalls prog F.penumbraref03_Sign [.agg (gW [r])] [.one (.int .i64 x.num.sign)] := n_penumbraref03_Sign (h.mono hl)
theorem f_R3_Read (h : Num L r x) (hl : L ≤ LL) : PureCalls prog F.penumbraref03_Read [.agg (gW [r])] [.agg (gD [x])] := n_penumbraref03_Read (h.mono hl)
theorem fr_Dot {a b : RV} {u v : V3} (h : NV L a u) (g : NV M b v) (hl : L ≤ 60000000000 ∧ M ≤ 60000000000) : PureCalls prog F.penumbraref05_Dot [.agg (gW a.l), .agg (gW b.l)] [.agg (gD [u.dot v])] := by
  replace h := h.mono hl.1
  replace g := g.mono hl.2
  refine symFunc_sound hmix tree_penumbraref05_Dot (by kernel_rfl) rfl ?_
  unfold ir_penumbraref05_Dot
  simp only [JJ]
  refine call_step (f_R3_Mul h.x g.x (by decide)) rfl ?_
  simp only [JJ]
  have m1 := Num.of (Sm.mul h.x.sm g.x.sm)
  refine call_step (f_R3_Mul h.y g.y (by decide)) rfl ?_
  simp only [JJ]
  have m2 := Num.of (Sm.mul h.y.sm g.y.sm)
  refine call_step (f_R3_Add m1 m2 (by decide)) rfl ?_
  simp only [JJ]
  have m3 := Num.of (Sm.add m1.sm m2.sm)
  refine call_step (f_R3_Mul h.z g.z (by decide)) rfl ?_
  simp only [JJ]
  have m4 := Num.of (Sm.mul h.z.sm g.z.sm)
  refine call_step (f_R3_Add m3 m4 (by decide)) rfl ?_
  simp only [JJ]
  have m5 := Num.of (Sm.add m3.sm m4.sm)
  exact ret_step rfl
theorem fr_Sub {a b : RV} {u v : V3} (h : NV L a u) (g : NV M b v) (hl : L ≤ 60000000000 ∧ M ≤ 60000000000) : PureCalls prog F.penumbraref05_Sub [.agg (gW a.l), .agg (gW b.l)] [.agg (gD [(u.sub v).x, (u.sub v).y, (u.sub v).z])] := by
  replace h := h.mono hl.1
  replace g := g.mono hl.2
  refine symFunc_sound hmix tree_penumbraref05_Sub (by kernel_rfl) rfl ?_
  unfold ir_penumbraref05_Sub
  simp only [JJ]
  refine call_step (f_R3_Sub h.x g.x (by decide)) rfl ?_
  simp only [JJ]
  have m1 := Num.of (Sm.sub h.x.sm g.x.sm)
  refine call_step (f_R3_Sub h.y g.y (by decide)) rfl ?_
  simp only [JJ]
  have m2 := Num.of (Sm.sub h.y.sm g.y.sm)
  refine call_step (f_R3_Sub h.z g.z (by decide)) rfl ?_
  simp only [JJ]
  have m3 := Num.of (Sm.sub h.z.sm g.z.sm)
  exact ret_step rfl
theorem fr_Add {a b : RV} {u v : V3} (h : NV L a u) (g : NV M b v) (hl : L ≤ 60000000000 ∧ M ≤ 60000000000) : PureCalls prog F.penumbraref05_Add [.agg (gW a.l), .agg (gW b.l)] [.agg (gD [(u.add v).x, (u.add v).y, (u.add v).z])] := by
  replace h := h.mono hl.1
  replace g := g.mono hl.2
  refine symFunc_sound hmix tree_penumbraref05_Add (by kernel_rfl) rfl ?_
  unfold ir_penumbraref05_Add
  simp only [JJ]
  refine call_step (f_R3_Add h.x g.x (by decide)) rfl ?_
  simp only [JJ]
  have m1 := Num.of (Sm.add h.x.sm g.x.sm)
  refine call_step (f_R3_Add h.y g.y (by decide)) rfl ?_
  simp only [JJ]
  have m2 := Num.of (Sm.add h.y.sm g.y.sm)
  refine call_step (f_R3_Add h.z g.z (by decide)) rfl ?_
  simp only [JJ]
  have m3 := Num.of (Sm.add h.z.sm g.z.sm)
  exact ret_step rfl
theorem fr_Cross {a b : RV} {u v : V3} (h : NV L a u) (g : NV M b v) (hl : L ≤ 20000000000 ∧ M ≤ 20000000000) : PureCalls prog F.penumbraref05_Cross [.agg (gW a.l), .agg (gW b.l)] [.agg (gD [(u.cross v).x, (u.cross v).y, (u.cross v).z])] := by
  replace h := h.mono hl.1
  replace g := g.mono hl.2
  refine symFunc_sound hmix tree_penumbraref05_Cross (by kernel_rfl) rfl ?_
  unfold ir_penumbraref05_Cross
  simp only [JJ]
  refine call_step (f_R3_Mul h.y g.z (by decide)) rfl ?_
  simp only [JJ]
  have m1 := Num.of (Sm.mul h.y.sm g.z.sm)
  refine call_step (f_R3_Mul h.z g.y (by decide)) rfl ?_
  simp only [JJ]
  have m2 := Num.of (Sm.mul h.z.sm g.y.sm)
  refine call_step (f_R3_Sub m1 m2 (by decide)) rfl ?_
  simp only [JJ]
  have m3 := Num.of (Sm.sub m1.sm m2.sm)
  refine call_step (f_R3_Mul h.z g.x (by decide)) rfl ?_
  simp only [JJ]
  have m4 := Num.of (Sm.mul h.z.sm g.x.sm)
  refine call_step (f_R3_Mul h.x g.z (by decide)) rfl ?_
  simp only [JJ]
  have m5 := Num.of (Sm.mul h.x.sm g.z.sm)
  refine call_step (f_R3_Sub m4 m5 (by decide)) rfl ?_
  simp only [JJ]
  have m6 := Num.of (Sm.sub m4.sm m5.sm)
  refine call_step (f_R3_Mul h.x g.y (by decide)) rfl ?_
  simp only [JJ]
  have m7 := Num.of (Sm.mul h.x.sm g.y.sm)
  refine call_step (f_R3_Mul h.y g.x (by decide)) rfl ?_
  simp only [JJ]
  have m8 := Num.of (Sm.mul h.y.sm g.x.sm)
  refine call_step (f_R3_Sub m7 m8 (by decide)) rfl ?_
  simp only [JJ]
  have m9 := Num.of (Sm.sub m7.sm m8.sm)
  exact ret_step rfl
theorem fr_Scale {a : RR} {b : RV} {u : Rat} {v : V3} (h : Num L a u) (g : NV M b v) (hl : L ≤ 60000000000 ∧ M ≤ 60000000000) : PureCalls prog F.penumbraref05_Scale [.agg (gW [a]), .agg (gW b.l)] [.agg (gD [(V3.smul u v).x, (V3.smul u v).y, (V3.smul u v).z])] := by
  replace h := h.mono hl.1
  replace g := g.mono hl.2
  refine symFunc_sound hmix tree_penumbraref05_Scale (by kernel_rfl) rfl ?_
  unfold ir_penumbraref05_Scale
  simp only [JJ]
  refine call_step (f_R3_Mul h g.x (by decide)) rfl ?_
  simp only [JJ]
  have m1 := Num.of (Sm.mul h.sm g.x.sm)
  refine call_step (f_R3_Mul h g.y (by decide)) rfl ?_
  simp only [JJ]
  have m2 := Num.of (Sm.mul h.sm g.y.sm)
  refine call_step (f_R3_Mul h g.z (by decide)) rfl ?_
  simp only [JJ]
  have m3 := Num.of (Sm.mul h.sm g.z.sm)
  exact ret_step rfl
theorem fr_Read {a : RV} {u : V3} (h : NV L a u) (hl : L ≤ LL) : PureCalls prog F.penumbraref05_Read [.agg (gW a.l)] [.agg (gD [u.x, u.y, u.z])] := by
  replace h := h.mono hl
  refine symFunc_sound hmix tree_penumbraref05_Read (by kernel_rfl) rfl ?_
  unfold ir_penumbraref05_Read
  simp only [JJ]
  refine call_step (f_R3_Read h.x (by decide)) rfl ?_
  simp only [JJ]
  have m1 := Num.of (h.x.sm)
  refine call_step (f_R3_Read h.y (by decide)) rfl ?_
  simp only [JJ]
  have m2 := Num.of (h.y.sm)
  refine call_step (f_R3_Read h.z (by decide)) rfl ?_
  simp only [JJ]
  have m3 := Num.of (h.z.sm)
  exact ret_step rfl
theorem fr_Zero : PureCalls prog F.penumbraref05_Zero [] [.agg (gD [0, 0, 0])] := by
  refine symFunc_sound hmix tree_penumbraref05_Zero (by kernel_rfl) rfl ?_
  unfold ir_penumbraref05_Zero
  simp only [JJ]
  refine call_step (f_R3_Zero) rfl ?_
  simp only [JJ]
  have m1 := Num.of (Sm0)
  refine call_step (f_R3_Zero) rfl ?_
  simp only [JJ]
  have m2 := Num.of (Sm0)
  refine call_step (f_R3_Zero) rfl ?_
  simp only [JJ]
  have m3 := Num.of (Sm0)
  exact ret_step rfl
theorem fr_Null {a : RV} {u : V3} (h : NV L a u) (hl : L ≤ 60000000000) : PureCalls prog F.penumbraref05_Null [.agg (gW a.l)] [.one (.bool (decide (u.x = 0 ∧ u.y = 0 ∧ u.z = 0)))] := by
  replace h := h.mono hl
  have n := NV.of h.sm
  have m0 : Num 60000000000 (cr 0) 0 := (Num.of Sm0).mono (by decide)
  have ki : PureCalls prog F.penumbraref05_Is [.agg (gD [u.x, u.y, u.z]), .agg (gD [0, 0, 0])] [.one (.bool (decide (u.x = 0 ∧ u.y = 0 ∧ u.z = 0)))] := by
    refine symFunc_sound hmix tree_penumbraref05_Is (by kernel_rfl) rfl ?_
    unfold ir_penumbraref05_Is
    simp only [JJ]
    refine call_step (f_Is n.x m0 (by decide)) rfl ?_
    simp only [JJ]
    refine itD rfl (fun c1 => ?_) (fun c1 => ?_)
    · refine call_step (f_Is n.y m0 (by decide)) rfl ?_
      simp only [JJ]
      refine itD rfl (fun c2 => ?_) (fun c2 => ?_)
      · refine call_step (f_Is n.z m0 (by decide)) rfl ?_
        simp only [JJ]
        exact ret_step (by rw [show decide (u.x = 0 ∧ u.y = 0 ∧ u.z = 0) = decide (u.z = 0) from decide_eq_decide.2 ⟨fun h => h.2.2, fun h => ⟨c1, c2, h⟩⟩]; rfl)
      · exact ret_step (by rw [show decide (u.x = 0 ∧ u.y = 0 ∧ u.z = 0) = false from decide_eq_false fun h => c2 h.2.1]; rfl)
    · exact ret_step (by rw [show decide (u.x = 0 ∧ u.y = 0 ∧ u.z = 0) = false from decide_eq_false fun h => c1 h.1]; rfl)
  refine symFunc_sound hmix tree_penumbraref05_Null (by kernel_rfl) rfl ?_
  unfold ir_penumbraref05_Null
  simp only [JJ]
  refine cs3 (fr_Read h (by decide)) ?_
  simp only [JJ]
  refine cs3 fr_Zero ?_
  simp only [JJ]
  refine call_step ki rfl ?_
  simp only [JJ]
  exact ret_step rfl
theorem fr_In {f : RF} {a : RV} {u : Fr} {v : V3} (h : NF L f u) (g : NV M a v) (hl : L ≤ 60000000000 ∧ M ≤ 60000000000) : PureCalls prog F.penumbraref06_In [.agg (gW f.l), .agg (gW a.l)] [.agg (gD [v.dot u.A, v.dot u.B, v.dot u.N])] := by
  replace h := h.mono hl.1
  replace g := g.mono hl.2
  refine symFunc_sound hmix tree_penumbraref06_In (by kernel_rfl) rfl ?_
  unfold ir_penumbraref06_In
  simp only [JJ]
  refine call_step (fr_Dot g h.A (by decide)) rfl ?_
  simp only [JJ]
  have m1 := Num.of (SV.dot g.sm h.A.sm)
  refine call_step (fr_Dot g h.B (by decide)) rfl ?_
  simp only [JJ]
  have m2 := Num.of (SV.dot g.sm h.B.sm)
  refine call_step (fr_Dot g h.N (by decide)) rfl ?_
  simp only [JJ]
  have m3 := Num.of (SV.dot g.sm h.N.sm)
  exact ret_step rfl
theorem fr_Slopes {f : RF} {a : RV} {u : Fr} {v : V3} (h : NF L f u) (g : NV M a v) (hl : L ≤ 10000000000 ∧ M ≤ 10000000000) : PureCalls prog F.penumbraref06_Slopes [.agg (gW f.l), .agg (gW a.l)] [.agg (gD [v.dot u.A / v.dot u.N]), .agg (gD [v.dot u.B / v.dot u.N]), .agg (gD [v.dot u.N]), .one (.bool (decide (¬v.dot u.N = 0)))] := by
  replace h := h.mono hl.1
  replace g := g.mono hl.2
  have d0 : ∀ t : Rat, t / 0 = 0 := fun t => by rw [Rat.div_def, Rat.inv_zero, Rat.mul_zero]
  refine symFunc_sound hmix tree_penumbraref06_Slopes (by kernel_rfl) rfl ?_
  unfold ir_penumbraref06_Slopes
  simp only [JJ]
  refine call_step (fr_In h g (by decide)) rfl ?_
  simp only [JJ]
  have m1 := NV.of (SF.in_ h.sm g.sm)
  refine call_step (f_R3_Sign m1.z (by decide)) rfl ?_
  simp only [JJ]
  refine primS (.bool (decide _)) pr_eq ?_
  refine itD rfl (fun i1 => ?_) (fun i1 => ?_)
  · refine call_step (f_R3_Zero) rfl ?_
    simp only [JJ]
    have m2 := Num.of (Sm0)
    refine call_step (f_R3_Zero) rfl ?_
    simp only [JJ]
    have m3 := Num.of (Sm0)
    refine call_step (f_R3_Zero) rfl ?_
    simp only [JJ]
    have m4 := Num.of (Sm0)
    first | (have z : v.dot u.N = 0 := i1; rw [z, d0, d0]; exact ret_step rfl) | (rw [show decide (¬v.dot u.N = 0) = true from decide_eq_true i1]; exact ret_step rfl)
  · refine call_step (f_R3_Over m1.x m1.z (by decide)) rfl ?_
    simp only [JJ]
    have m2 := Num.of (Sm.div m1.x.sm m1.z.sm)
    refine call_step (f_R3_Over m1.y m1.z (by decide)) rfl ?_
    simp only [JJ]
    have m3 := Num.of (Sm.div m1.y.sm m1.z.sm)
    first | (have z : v.dot u.N = 0 := i1; rw [z, d0, d0]; exact ret_step rfl) | (rw [show decide (¬v.dot u.N = 0) = true from decide_eq_true i1]; exact ret_step rfl)
theorem fr_Turn {m : RM} {a : RV} {u : M4} {v : V3} (h : NM L m u) (g : NV M a v) (hl : L ≤ 60000000000 ∧ M ≤ 60000000000) : PureCalls prog F.penumbraref07_Turn [.agg (gW m.l), .agg (gW a.l)] [.agg (gD [(u.turn v).x, (u.turn v).y, (u.turn v).z])] := by
  replace h := h.mono hl.1
  replace g := g.mono hl.2
  refine symFunc_sound hmix tree_penumbraref07_Turn (by kernel_rfl) rfl ?_
  unfold ir_penumbraref07_Turn
  simp only [JJ]
  refine call_step (fr_Dot h.X g (by decide)) rfl ?_
  simp only [JJ]
  have m1 := Num.of (SV.dot h.X.sm g.sm)
  refine call_step (fr_Dot h.Y g (by decide)) rfl ?_
  simp only [JJ]
  have m2 := Num.of (SV.dot h.Y.sm g.sm)
  refine call_step (fr_Dot h.Z g (by decide)) rfl ?_
  simp only [JJ]
  have m3 := Num.of (SV.dot h.Z.sm g.sm)
  exact ret_step rfl
theorem fr_Apply {m : RM} {a : RV} {u : M4} {v : V3} (h : NM L m u) (g : NV M a v) (hl : L ≤ 1000000000 ∧ M ≤ 1000000000) : PureCalls prog F.penumbraref07_Apply [.agg (gW m.l), .agg (gW a.l)] [.agg (gD [(u.app v).x, (u.app v).y, (u.app v).z])] := by
  replace h := h.mono hl.1
  replace g := g.mono hl.2
  refine symFunc_sound hmix tree_penumbraref07_Apply (by kernel_rfl) rfl ?_
  unfold ir_penumbraref07_Apply
  simp only [JJ]
  refine call_step (fr_Turn h g (by decide)) rfl ?_
  simp only [JJ]
  have m1 := NV.of (SM.turn h.sm g.sm)
  refine call_step (fr_Add m1 h.W (by decide)) rfl ?_
  simp only [JJ]
  have m2 := NV.of (SV.add m1.sm h.W.sm)
  exact ret_step rfl
theorem fr_Area {m : RM} {a : RV} {u : M4} {v : V3} (h : NM L m u) (g : NV M a v) (hl : L ≤ 1000000000 ∧ M ≤ 1000000000) : PureCalls prog F.penumbraref07_Area [.agg (gW m.l), .agg (gW a.l)] [.agg (gD [(u.area v).x, (u.area v).y, (u.area v).z])] := by
  replace h := h.mono hl.1
  replace g := g.mono hl.2
  refine symFunc_sound hmix tree_penumbraref07_Area (by kernel_rfl) rfl ?_
  unfold ir_penumbraref07_Area
  simp only [JJ]
  refine call_step (fr_Cross h.Y h.Z (by decide)) rfl ?_
  simp only [JJ]
  have m1 := NV.of (SV.cross h.Y.sm h.Z.sm)
  refine call_step (fr_Dot m1 g (by decide)) rfl ?_
  simp only [JJ]
  have m2 := Num.of (SV.dot m1.sm g.sm)
  refine call_step (fr_Cross h.Z h.X (by decide)) rfl ?_
  simp only [JJ]
  have m3 := NV.of (SV.cross h.Z.sm h.X.sm)
  refine call_step (fr_Dot m3 g (by decide)) rfl ?_
  simp only [JJ]
  have m4 := Num.of (SV.dot m3.sm g.sm)
  refine call_step (fr_Cross h.X h.Y (by decide)) rfl ?_
  simp only [JJ]
  have m5 := NV.of (SV.cross h.X.sm h.Y.sm)
  refine call_step (fr_Dot m5 g (by decide)) rfl ?_
  simp only [JJ]
  have m6 := Num.of (SV.dot m5.sm g.sm)
  exact ret_step rfl
theorem fr_Det {m : RM} {u : M4} (h : NM L m u) (hl : L ≤ 1000000000) : PureCalls prog F.penumbraref07_Det [.agg (gW m.l)] [.agg (gD [u.det])] := by
  replace h := h.mono hl
  refine symFunc_sound hmix tree_penumbraref07_Det (by kernel_rfl) rfl ?_
  unfold ir_penumbraref07_Det
  simp only [JJ]
  refine call_step (fr_Cross h.Y h.Z (by decide)) rfl ?_
  simp only [JJ]
  have m1 := NV.of (SV.cross h.Y.sm h.Z.sm)
  refine call_step (fr_Dot h.X m1 (by decide)) rfl ?_
  simp only [JJ]
  have m2 := Num.of (SV.dot h.X.sm m1.sm)
  exact ret_step rfl
theorem fr_unit {a : RV} {u : V3} (h : NV L a u) (hl : L ≤ 1000000000) : PureCalls prog F.penumbraref16_unit [.agg (gW a.l)] [.one (.bool (decide (u.dot u = 1)))] := by
  replace h := h.mono hl
  refine symFunc_sound hmix tree_penumbraref16_unit (by kernel_rfl) rfl ?_
  unfold ir_penumbraref16_unit
  simp only [JJ]
  refine call_step (fr_Dot h h (by decide)) rfl ?_
  simp only [JJ]
  have m1 := Num.of (SV.dot h.sm h.sm)
  refine call_step (f_R3_One) rfl ?_
  simp only [JJ]
  have m2 := Num.of (Sm1)
  refine call_step (f_Is m1 m2 (by decide)) rfl ?_
  simp only [JJ]
  exact ret_step rfl
/-- The frame, in the document's words. -/
theorem frm_ref {n : V3} : frm n = ⟨e1.sub (V3.smul (2 * (fw n).x / (fw n).dot (fw n)) (fw n)), e2.sub (V3.smul (2 * (fw n).y / (fw n).dot (fw n)) (fw n)), n⟩ := by
  have e : ∀ a q b : Rat, a + -2 / q * b * b = a - 2 * b / q * b := fun a q b => by rw [Rat.div_def, Rat.div_def]; grind
  have e' : ∀ a q b c : Rat, a + -2 / q * b * c = a - 2 * b / q * c := fun a q b c => by rw [Rat.div_def, Rat.div_def]; grind
  simp only [frm, fk, V3.add, V3.sub, V3.smul, e']
theorem fr_Of_t {a : RV} {n : V3} (c : n.dot n = 1) (h : NV L a n) (hl : L ≤ 1000000000) : PureCalls prog F.penumbraref06_Of [.agg (gW a.l)] [.agg (gD (frm n).l), .one (.bool true)] := by
  replace h := h.mono hl
  have hz : (fw n).x = 0 ∧ (fw n).y = 0 ∧ (fw n).z = 0 → frm n = ⟨e1, e2, e3⟩ := fun ⟨h1, h2, h3⟩ => by
    have e3' : n = e3 := by
      obtain ⟨x, y, z⟩ := n
      simp only [fw, V3.sub] at h1 h2 h3
      have : x = 0 := by grind
      have : y = 0 := by grind
      have : z = 1 := by grind
      subst x y z; rfl
    rw [frm_ref, show (fw n) = ⟨(fw n).x, (fw n).y, (fw n).z⟩ from rfl, h1, h2, h3, e3']
    simp [V3.sub, V3.smul, Rat.div_def]
    decide +kernel
  have e2n : ofQ 2 1 = 2 := by decide +kernel
  refine symFunc_sound hmix tree_penumbraref06_Of (by kernel_rfl) rfl ?_
  unfold ir_penumbraref06_Of
  simp only [JJ]
  refine cs1 (fr_Dot h h (by decide)) ?_
  simp only [JJ]
  have mD := Num.of (h.sm.dot h.sm)
  refine cs1 f_R3_One ?_
  simp only [JJ]
  have m1 : Num 1 (cr (1 : Rat)) 1 := Num.of Sm1
  refine call_step (f_Is_t c mD m1 (by decide)) rfl ?_
  simp only [JJ]
  refine primS (.bool false) rfl ?_
  refine itF rfl ?_
  refine cs3 (n_penumbraref05_Of (o0 := 0) (o1 := 0) (o2 := 1) 0 0 1 (by decide) (by decide) (by decide) (by decide) (by decide) (by decide) (by decide +kernel) (by decide +kernel) (by decide +kernel)) ?_
  simp only [JJ]
  have mE := NV.of Se3
  refine cs3 (fr_Sub mE h (by decide)) ?_
  rw [show e3.sub n = fw n from rfl]
  simp only [JJ]
  have mW : NV 1000000002 (cv (fw n)) (fw n) := NV.of (h.sm.fw)
  refine call_step (fr_Null mW (by decide)) rfl ?_
  simp only [JJ]
  refine itD rfl (fun c1 => ?_) (fun c1 => ?_)
  · rw [hz c1]
    refine cs3 (n_penumbraref05_Of (o0 := 1) (o1 := 0) (o2 := 0) 1 0 0 (by decide) (by decide) (by decide) (by decide) (by decide) (by decide) (by decide +kernel) (by decide +kernel) (by decide +kernel)) ?_
    simp only [JJ]
    refine cs3 (n_penumbraref05_Of (o0 := 0) (o1 := 1) (o2 := 0) 0 1 0 (by decide) (by decide) (by decide) (by decide) (by decide) (by decide) (by decide +kernel) (by decide +kernel) (by decide +kernel)) ?_
    simp only [JJ]
    refine cs3 (n_penumbraref05_Of (o0 := 0) (o1 := 0) (o2 := 1) 0 0 1 (by decide) (by decide) (by decide) (by decide) (by decide) (by decide) (by decide +kernel) (by decide +kernel) (by decide +kernel)) ?_
    simp only [JJ]
    exact ret_step rfl
  rw [frm_ref]
  refine cs1 (fr_Dot mW mW (by decide)) ?_
  simp only [JJ]
  have mq := Num.of (mW.sm.dot mW.sm)
  have m2 : Num 1 (cr (2 : Rat)) 2 := Num.of Sm2
  refine cs1 (n_penumbraref03_Of (k0 := 2) 2 1 (by decide) (by decide) (by decide) (by decide) e2n.symm) ?_
  simp only [JJ]
  refine cs1 (f_R3_Mul m2 mW.x (by decide)) ?_
  simp only [JJ]
  have mx := Num.of (m2.sm.mul mW.x.sm)
  refine cs1 (f_R3_Over mx mq (by decide)) ?_
  simp only [JJ]
  have ma := Num.of (mx.sm.div mq.sm)
  refine cs1 (n_penumbraref03_Of (k0 := 2) 2 1 (by decide) (by decide) (by decide) (by decide) e2n.symm) ?_
  simp only [JJ]
  refine cs1 (f_R3_Mul m2 mW.y (by decide)) ?_
  simp only [JJ]
  have my := Num.of (m2.sm.mul mW.y.sm)
  refine cs1 (f_R3_Over my mq (by decide)) ?_
  simp only [JJ]
  have mb := Num.of (my.sm.div mq.sm)
  refine cs3 (n_penumbraref05_Of (o0 := 1) (o1 := 0) (o2 := 0) 1 0 0 (by decide) (by decide) (by decide) (by decide) (by decide) (by decide) (by decide +kernel) (by decide +kernel) (by decide +kernel)) ?_
  simp only [JJ]
  have mE1 := NV.of Se1
  refine cs3 (fr_Scale ma mW (by decide)) ?_
  simp only [JJ]
  have mS1 := NV.of (SV.smul ma.sm mW.sm)
  refine cs3 (fr_Sub mE1 mS1 (by decide)) ?_
  simp only [JJ]
  refine cs3 (n_penumbraref05_Of (o0 := 0) (o1 := 1) (o2 := 0) 0 1 0 (by decide) (by decide) (by decide) (by decide) (by decide) (by decide) (by decide +kernel) (by decide +kernel) (by decide +kernel)) ?_
  simp only [JJ]
  have mE2 := NV.of Se2
  refine cs3 (fr_Scale mb mW (by decide)) ?_
  simp only [JJ]
  have mS2 := NV.of (SV.smul mb.sm mW.sm)
  refine cs3 (fr_Sub mE2 mS2 (by decide)) ?_
  simp only [JJ]
  refine cs3 (fr_Read h (by decide)) ?_
  simp only [JJ]
  exact ret_step rfl
end
section
variable {L K M : Nat} {a b : RS} {m : RM} {p q : Sp} {u : M4}
theorem fr_Way (h : NS L a p) (g : NS K b q) (k : NM M m u) (hl : L ≤ 100000000 ∧ K ≤ 100000000 ∧ M ≤ 100000000) : PureCalls prog F.penumbraref16_Way [.agg (gW a.l), .agg (gW b.l), .agg (gW m.l)] [.agg (gD [(way p q u).x, (way p q u).y, (way p q u).z])] := by
  replace h := h.mono hl.1
  replace g := g.mono hl.2.1
  replace k := k.mono hl.2.2
  refine symFunc_sound hmix tree_penumbraref16_Way (by kernel_rfl) rfl ?_
  unfold ir_penumbraref16_Way
  simp only [JJ]
  refine call_step (fr_Apply k g.P (by decide)) rfl ?_
  simp only [JJ]
  have m1 := NV.of (SM.app k.sm g.P.sm)
  refine call_step (fr_Sub m1 h.P (by decide)) rfl ?_
  simp only [JJ]
  have m2 := NV.of (SV.sub m1.sm h.P.sm)
  exact ret_step rfl
theorem fr_Wide (h : NS L a p) (g : NS K b q) (k : NM M m u) (hl : L ≤ 100000000 ∧ K ≤ 100000000 ∧ M ≤ 100000000) : PureCalls prog F.penumbraref16_Wide [.agg (gW a.l), .agg (gW b.l), .agg (gW m.l)] [.agg (gD [wc p q u])] := by
  replace h := h.mono hl.1
  replace g := g.mono hl.2.1
  replace k := k.mono hl.2.2
  refine symFunc_sound hmix tree_penumbraref16_Wide (by kernel_rfl) rfl ?_
  unfold ir_penumbraref16_Wide
  simp only [JJ]
  refine call_step (fr_Area k g.N (by decide)) rfl ?_
  simp only [JJ]
  have m1 := NV.of (SM.area k.sm g.N.sm)
  refine call_step (fr_Way h g k (by decide)) rfl ?_
  simp only [JJ]
  have m2 := NV.of (SS.way h.sm g.sm k.sm)
  refine call_step (fr_Dot m1 m2 (by decide)) rfl ?_
  simp only [JJ]
  have m3 := Num.of (SV.dot m1.sm m2.sm)
  exact ret_step rfl
theorem fr_Seen (h : NS L a p) (g : NS K b q) (k : NM M m u) (hl : L ≤ 100000000 ∧ K ≤ 100000000 ∧ M ≤ 100000000) : PureCalls prog F.penumbraref16_Seen [.agg (gW a.l), .agg (gW b.l), .agg (gW m.l)] [.one (.bool (decide (seen p q u)))] := by
  replace h := h.mono hl.1
  replace g := g.mono hl.2.1
  replace k := k.mono hl.2.2
  have no : ∀ {As : List (List DV → Prop)} {ρ : List DV}, ¬seen p q u → IRwp prog As ρ (.ret [.one (.bol false)]) (fun x => x = [AV.one (.bool (decide (seen p q u)))]) := fun hh => ret_step (by rw [decide_eq_false hh]; rfl)
  refine symFunc_sound hmix tree_penumbraref16_Seen (by kernel_rfl) rfl ?_
  unfold ir_penumbraref16_Seen
  simp only [JJ]
  refine cs1 (fr_Det k (by decide)) ?_
  simp only [JJ]
  have mD := Num.of k.sm.det
  refine cs3 (fr_Way h g k (by decide)) ?_
  simp only [JJ]
  have mW := NV.of (SS.way h.sm g.sm k.sm)
  refine cs1 (fr_Dot mW h.N (by decide)) ?_
  simp only [JJ]
  have mz : Num _ (cr (wz p q u)) (wz p q u) := Num.of (mW.sm.dot h.N.sm)
  rw [show (way p q u).dot p.N = wz p q u from rfl]
  refine cs1 (fr_Wide h g k (by decide)) ?_
  simp only [JJ]
  have mc := Num.of (SS.wc h.sm g.sm k.sm)
  refine call_step (fr_unit h.N (by decide)) rfl ?_
  simp only [JJ]
  refine itD rfl (fun c1 => ?_) (fun c1 => no fun z => c1 z.1.1)
  refine call_step (fr_unit g.N (by decide)) rfl ?_
  simp only [JJ]
  refine itD rfl (fun c2 => ?_) (fun c2 => no fun z => c2 z.1.2)
  refine call_step (f_R3_Sign mD (by decide)) rfl ?_
  simp only [JJ]
  refine primS (.bool (decide _)) pr_ne ?_
  refine itD rfl (fun c3 => ?_) (fun c3 => no fun z => by
    have := z.2.2
    rw [Classical.not_not.1 c3, Rat.mul_zero] at this
    exact absurd this (by decide))
  refine call_step (f_R3_Sign mz (by decide)) rfl ?_
  simp only [JJ]
  refine primS (.bool (decide _)) pr_gt ?_
  refine itD rfl (fun c4 => ?_) (fun c4 => no fun z => c4 z.2.1)
  refine cs1 (f_R3_Mul mc mD (by decide)) ?_
  simp only [JJ]
  have mm := Num.of (mc.sm.mul mD.sm)
  refine call_step (f_R3_Sign mm (by decide)) rfl ?_
  simp only [JJ]
  refine primS (.bool (decide _)) pr_lt ?_
  exact ret_step (by rw [show decide (seen p q u) = decide (wc p q u * u.det < 0) from decide_eq_decide.2 ⟨fun z => z.2.2, fun z => ⟨⟨c1, c2⟩, c4, z⟩⟩]; rfl)
theorem fr_Slopes16 (c : p.N.dot p.N = 1) (h : NS L a p) (g : NS K b q) (k : NM M m u) (hl : L ≤ 100000000 ∧ K ≤ 100000000 ∧ M ≤ 100000000) : PureCalls prog F.penumbraref16_Slopes [.agg (gW a.l), .agg (gW b.l), .agg (gW m.l)] [.agg (gD [sA p q u]), .agg (gD [sB p q u]), .agg (gD [wz p q u])] := by
  replace h := h.mono hl.1
  replace g := g.mono hl.2.1
  replace k := k.mono hl.2.2
  refine symFunc_sound hmix tree_penumbraref16_Slopes (by kernel_rfl) rfl ?_
  unfold ir_penumbraref16_Slopes
  simp only [JJ]
  refine call_step (fr_Of_t c h.N (by decide)) rfl ?_
  simp only [V3.l, Fr.l, List.cons_append, List.nil_append]
  simp only [JJ]
  have n1 := NF.of (SV.frm h.N.sm)
  refine cs3 (fr_Way h g k (by decide)) ?_
  simp only [JJ]
  have n2 := NV.of (SS.way h.sm g.sm k.sm)
  refine call_step (fr_Slopes n1 n2 (by decide)) rfl ?_
  simp only [JJ]
  exact ret_step rfl
variable {r : RR} {x : Rat}
theorem fr_three (h : Num L r x) (hl : L ≤ 60000000000) : PureCalls prog F.penumbraref16_three [.agg (gW [r])] [.agg (gD [x * (x * x)])] := by
  replace h := h.mono hl
  refine symFunc_sound hmix tree_penumbraref16_three (by kernel_rfl) rfl ?_
  unfold ir_penumbraref16_three
  simp only [JJ]
  refine call_step (f_R3_Mul h h (by decide)) rfl ?_
  simp only [JJ]
  have m1 := Num.of (Sm.mul h.sm h.sm)
  refine call_step (f_R3_Mul h m1 (by decide)) rfl ?_
  simp only [JJ]
  have m2 := Num.of (Sm.mul h.sm m1.sm)
  exact ret_step rfl
theorem fr_Side {n : Int} (hn : 1 ≤ n ∧ n ≤ 16) (h : Num L r x) (hl : L ≤ 60000000000) : PureCalls prog F.penumbraref16_Side [.agg (gW [r]), .one (.int .i64 n)] [.agg (gD [2 / (n : Rat) * x])] := by
  replace h := h.mono hl
  refine symFunc_sound hmix tree_penumbraref16_Side (by kernel_rfl) rfl ?_
  unfold ir_penumbraref16_Side
  simp only [JJ]
  have nw : Num 2 (cr (2 / (n : Rat))) (2 / (n : Rat)) := Num.of (Sm_2n hn)
  refine cs1 (n_penumbraref03_Of (k0 := 2 / (n : Rat)) 2 n (by decide) (by decide) (by omega) (by omega) rfl) ?_
  simp only [JJ]
  refine cs1 (f_R3_Mul nw h (by decide)) ?_
  simp only [JJ]
  exact ret_step rfl
end
end Go.Px.Na

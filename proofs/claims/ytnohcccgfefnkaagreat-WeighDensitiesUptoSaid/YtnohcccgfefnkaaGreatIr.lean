/- The trees of functions, as a tool of mine printed them. -/
import Derived.Test.YtnohcccgfefnkaaGreatPx1
namespace Go.Px
abbrev F.penumbralaw18_WeighDensities : FuncId := 3
abbrev F.weigh_Densities : FuncId := 4
abbrev F.penumbraref18_Densities : FuncId := 5
abbrev F.penumbralaw18_fixed : FuncId := 6
abbrev F.penumbraref09_Same : FuncId := 7
abbrev F.weigh_may : FuncId := 8
abbrev F.weigh_fromLight : FuncId := 9
abbrev F.weigh_fromEye : FuncId := 10
abbrev F.rat_Of : FuncId := 11
abbrev F.rat_Product : FuncId := 12
abbrev F.penumbraref18_May : FuncId := 13
abbrev F.penumbraref18_join : FuncId := 14
abbrev F.penumbraref03_Mul : FuncId := 15
abbrev F.penumbraref18_A : FuncId := 16
abbrev F.penumbraref18_B : FuncId := 17
abbrev F.penumbralaw18_middle : FuncId := 18
abbrev F.weigh_Weights : FuncId := 19
abbrev F.penumbraref03_Is : FuncId := 20
abbrev F.penumbraref03_Of : FuncId := 21
abbrev F.penumbraref03_One : FuncId := 22
abbrev F.penumbraref03_Zero : FuncId := 23
abbrev F.rat_Read : FuncId := 24
abbrev F.dens_Ahead : FuncId := 25
abbrev F.dens_Film : FuncId := 26
abbrev F.affine_Inverse : FuncId := 27
abbrev F.rat_made : FuncId := 28
abbrev F.rat_size : FuncId := 29
abbrev F.rat_one : FuncId := 30
abbrev F.rat_times : FuncId := 31
abbrev F.penumbraref16_Film : FuncId := 32
abbrev F.penumbraref03_Read : FuncId := 33
abbrev F.penumbraref01_Mul : FuncId := 34
abbrev F.penumbraref16_Ahead : FuncId := 35
abbrev F.penumbraref07_Inverse : FuncId := 36
abbrev F.vec_Of : FuncId := 37
abbrev F.affine_Identity : FuncId := 38
abbrev F.rat_Sum : FuncId := 39
abbrev F.weigh_Weights_1 : FuncId := 40
abbrev F.rat_Div : FuncId := 41
abbrev F.penumbraref01_Same : FuncId := 42
abbrev F.penumbraref03_abs : FuncId := 43
abbrev F.dens_seen : FuncId := 44
abbrev F.frame_Slopes : FuncId := 45
abbrev F.dens_over : FuncId := 46
abbrev F.warp_Density : FuncId := 47
abbrev F.dens_cube : FuncId := 48
abbrev F.rat_Sign : FuncId := 49
abbrev F.dens_cell : FuncId := 50
abbrev F.rat_Neg : FuncId := 51
abbrev F.affine_Det : FuncId := 52
abbrev F.affine_cofactors : FuncId := 53
abbrev F.vec_Scale : FuncId := 54
abbrev F.affine_Turn : FuncId := 55
abbrev F.nat_Norm : FuncId := 56
abbrev F.root_Gcd : FuncId := 57
abbrev F.nat_DivMod : FuncId := 58
abbrev F.nat_Of : FuncId := 59
abbrev F.nat_Mul : FuncId := 60
abbrev F.penumbraref03_Sign : FuncId := 61
abbrev F.penumbraref16_Seen : FuncId := 62
abbrev F.penumbraref16_Slopes : FuncId := 63
abbrev F.penumbraref16_Side : FuncId := 64
abbrev F.penumbraref03_Sub : FuncId := 65
abbrev F.penumbraref03_Add : FuncId := 66
abbrev F.penumbraref03_Cmp : FuncId := 67
abbrev F.penumbraref03_Over : FuncId := 68
abbrev F.penumbraref03_Abs : FuncId := 69
abbrev F.penumbraref16_Wide : FuncId := 70
abbrev F.penumbraref16_three : FuncId := 71
abbrev F.penumbraref01_Zero : FuncId := 72
abbrev F.penumbraref02_Gcd : FuncId := 73
abbrev F.penumbraref01_DivMod : FuncId := 74
abbrev F.penumbraref01_Norm : FuncId := 75
abbrev F.penumbraref14_Density : FuncId := 76
abbrev F.penumbraref07_Det : FuncId := 77
abbrev F.penumbraref07_Identity : FuncId := 78
abbrev F.penumbraref07_solve : FuncId := 79
abbrev F.penumbraref05_Sub : FuncId := 80
abbrev F.penumbraref05_Zero : FuncId := 81
abbrev F.penumbraref05_Add : FuncId := 82
abbrev F.penumbraref05_Of : FuncId := 83
abbrev F.penumbraref07_Told : FuncId := 84
abbrev F.rat_plus : FuncId := 85
abbrev F.penumbraref01_Of : FuncId := 86
abbrev F.frame_Of : FuncId := 87
abbrev F.rat_Same : FuncId := 88
abbrev F.vec_Dot : FuncId := 89
abbrev F.vec_Sub : FuncId := 90
abbrev F.affine_Apply : FuncId := 91
abbrev F.affine_Area : FuncId := 92
abbrev F.rat_Abs : FuncId := 93
abbrev F.frame_In : FuncId := 94
abbrev F.warp_one : FuncId := 95
abbrev F.warp_over : FuncId := 96
abbrev F.nat_Bits : FuncId := 97
abbrev F.rat_Floor : FuncId := 98
abbrev F.rat_Sub : FuncId := 99
abbrev F.rat_Cmp : FuncId := 100
abbrev F.vec_Cross : FuncId := 101
abbrev F.slices_Clone___uint32_uint32_ : FuncId := 102
abbrev F.nat_trim : FuncId := 103
abbrev F.nat_Cmp : FuncId := 104
abbrev F.nat_small : FuncId := 105
abbrev F.nat_long : FuncId := 106
abbrev F.penumbraref05_Dot : FuncId := 107
abbrev F.penumbraref16_Way : FuncId := 108
abbrev F.penumbraref16_unit : FuncId := 109
abbrev F.penumbraref06_Of : FuncId := 110
abbrev F.penumbraref06_Slopes : FuncId := 111
abbrev F.penumbraref03_Neg : FuncId := 112
abbrev F.penumbraref01_Add : FuncId := 113
abbrev F.penumbraref01_Cmp : FuncId := 114
abbrev F.penumbraref01_Sub : FuncId := 115
abbrev F.penumbraref03_Div : FuncId := 116
abbrev F.penumbraref07_Area : FuncId := 117
abbrev F.penumbraref01_Double : FuncId := 118
abbrev F.penumbraref01_at : FuncId := 119
abbrev F.penumbraref01_Half : FuncId := 120
abbrev F.penumbraref05_Cross : FuncId := 121
abbrev F.penumbraref05_Scale : FuncId := 122
abbrev F.rat_whole : FuncId := 123
abbrev F.nat_Add : FuncId := 124
abbrev F.nat_Sub : FuncId := 125
abbrev F.vec_Sum : FuncId := 126
abbrev F.vec_Read : FuncId := 127
abbrev F.math_bits_LeadingZeros32 : FuncId := 128
abbrev F.vec_minor : FuncId := 129
abbrev F.math_bits_Div32 : FuncId := 130
abbrev F.nat_Shl : FuncId := 131
abbrev F.nat_shr : FuncId := 134
abbrev F.penumbraref07_Apply : FuncId := 135
abbrev F.penumbraref05_Null : FuncId := 136
abbrev F.penumbraref05_Read : FuncId := 137
abbrev F.penumbraref06_In : FuncId := 138
abbrev F.penumbraref01_limb : FuncId := 139
abbrev F.math_bits_Add32 : FuncId := 140
abbrev F.math_bits_Sub32 : FuncId := 141
abbrev F.math_bits_Len32 : FuncId := 142
abbrev F.penumbraref07_Turn : FuncId := 143
abbrev F.penumbraref05_Is : FuncId := 144
/-- uint32's number. -/
abbrev TU32 : TypeId := 71

def ir_nat_trim : IR :=
 .prim .len [.var 0] <|
 .loop [.var 0, .var 1] (
  .prim (.bin .gtr) [.var 1, .int .i64 (0)] <|
  .ite (.var 2) (
   .prim (.bin .sub) [.var 1, .int .i64 (1)] <|
   .prim (.inb 1) [.var 0, .var 3] <|
   .prim (.get 1 0) [.var 0, .var 3] <|
   .prim (.bin .eql) [.var 5, .int .u32 (0)] <|
   .ite (.var 6) (
    .prim (.bin .sub) [.var 1, .int .i64 (1)] <|
    .jump 0 [.var 0, .var 7]) (
    .prim (.slc 1) [.var 0, .int .i64 (0), .var 1] <|
    .ret [.one (.var 7)])) (
   .prim (.slc 1) [.var 0, .int .i64 (0), .var 1] <|
   .ret [.one (.var 3)]))

def ir_nat_Norm : IR :=
 .call F.nat_trim [.one (.var 0)] [.one] <|
 .call F.slices_Clone___uint32_uint32_ [.one (.var 1)] [.one] <|
 .ret [.one (.var 2)]

def ir_slices_Clone___uint32_uint32_ : IR :=
 .nilq (.var 0) <|
 .ite (.var 1) (
  .ret [.one (.nil)]) (
  .prim (.mk 0) [] <|
  .prim (.app 1 4) [.var 2, .var 0] <|
  .ret [.one (.var 3)])

def ir_nat_Of : IR :=
 .prim (.conv .u32) [.var 0] <|
 .prim (.bin .shr) [.var 0, .int .u64 (32)] <|
 .prim (.conv .u32) [.var 2] <|
 .prim (.mk 2) [.var 1, .var 3] <|
 .call F.nat_Norm [.one (.var 4)] [.one] <|
 .ret [.one (.var 5)]

def ir_math_bits_Len32 : IR :=
 .prim (.bin .geq) [.var 0, .int .u32 (65536)] <|
 .ite (.var 1) (
  .prim (.bin .shr) [.var 0, .int .u64 (16)] <|
  .prim (.bin .geq) [.var 2, .int .u32 (256)] <|
  .ite (.var 3) (
   .prim (.bin .shr) [.var 2, .int .u64 (8)] <|
   .prim (.conv .u8) [.var 4] <|
   .prim (.chr [0, 1, 2, 2, 3, 3, 3, 3, 4, 4, 4, 4, 4, 4, 4, 4, 5, 5, 5, 5, 5, 5, 5, 5, 5, 5, 5, 5, 5, 5, 5, 5, 6, 6, 6, 6, 6, 6, 6, 6, 6, 6, 6, 6, 6, 6, 6, 6, 6, 6, 6, 6, 6, 6, 6, 6, 6, 6, 6, 6, 6, 6, 6, 6, 7, 7, 7, 7, 7, 7, 7, 7, 7, 7, 7, 7, 7, 7, 7, 7, 7, 7, 7, 7, 7, 7, 7, 7, 7, 7, 7, 7, 7, 7, 7, 7, 7, 7, 7, 7, 7, 7, 7, 7, 7, 7, 7, 7, 7, 7, 7, 7, 7, 7, 7, 7, 7, 7, 7, 7, 7, 7, 7, 7, 7, 7, 7, 7, 8, 8, 8, 8, 8, 8, 8, 8, 8, 8, 8, 8, 8, 8, 8, 8, 8, 8, 8, 8, 8, 8, 8, 8, 8, 8, 8, 8, 8, 8, 8, 8, 8, 8, 8, 8, 8, 8, 8, 8, 8, 8, 8, 8, 8, 8, 8, 8, 8, 8, 8, 8, 8, 8, 8, 8, 8, 8, 8, 8, 8, 8, 8, 8, 8, 8, 8, 8, 8, 8, 8, 8, 8, 8, 8, 8, 8, 8, 8, 8, 8, 8, 8, 8, 8, 8, 8, 8, 8, 8, 8, 8, 8, 8, 8, 8, 8, 8, 8, 8, 8, 8, 8, 8, 8, 8, 8, 8, 8, 8, 8, 8, 8, 8, 8, 8, 8, 8, 8, 8, 8, 8, 8, 8, 8, 8, 8, 8]) [.var 5] <|
   .prim (.conv .i64) [.var 6] <|
   .prim (.bin .add) [.int .i64 (24), .var 7] <|
   .ret [.one (.var 8)]) (
   .prim (.conv .u8) [.var 2] <|
   .prim (.chr [0, 1, 2, 2, 3, 3, 3, 3, 4, 4, 4, 4, 4, 4, 4, 4, 5, 5, 5, 5, 5, 5, 5, 5, 5, 5, 5, 5, 5, 5, 5, 5, 6, 6, 6, 6, 6, 6, 6, 6, 6, 6, 6, 6, 6, 6, 6, 6, 6, 6, 6, 6, 6, 6, 6, 6, 6, 6, 6, 6, 6, 6, 6, 6, 7, 7, 7, 7, 7, 7, 7, 7, 7, 7, 7, 7, 7, 7, 7, 7, 7, 7, 7, 7, 7, 7, 7, 7, 7, 7, 7, 7, 7, 7, 7, 7, 7, 7, 7, 7, 7, 7, 7, 7, 7, 7, 7, 7, 7, 7, 7, 7, 7, 7, 7, 7, 7, 7, 7, 7, 7, 7, 7, 7, 7, 7, 7, 7, 8, 8, 8, 8, 8, 8, 8, 8, 8, 8, 8, 8, 8, 8, 8, 8, 8, 8, 8, 8, 8, 8, 8, 8, 8, 8, 8, 8, 8, 8, 8, 8, 8, 8, 8, 8, 8, 8, 8, 8, 8, 8, 8, 8, 8, 8, 8, 8, 8, 8, 8, 8, 8, 8, 8, 8, 8, 8, 8, 8, 8, 8, 8, 8, 8, 8, 8, 8, 8, 8, 8, 8, 8, 8, 8, 8, 8, 8, 8, 8, 8, 8, 8, 8, 8, 8, 8, 8, 8, 8, 8, 8, 8, 8, 8, 8, 8, 8, 8, 8, 8, 8, 8, 8, 8, 8, 8, 8, 8, 8, 8, 8, 8, 8, 8, 8, 8, 8, 8, 8, 8, 8, 8, 8, 8, 8, 8, 8]) [.var 4] <|
   .prim (.conv .i64) [.var 5] <|
   .prim (.bin .add) [.int .i64 (16), .var 6] <|
   .ret [.one (.var 7)])) (
  .prim (.bin .geq) [.var 0, .int .u32 (256)] <|
  .ite (.var 2) (
   .prim (.bin .shr) [.var 0, .int .u64 (8)] <|
   .prim (.conv .u8) [.var 3] <|
   .prim (.chr [0, 1, 2, 2, 3, 3, 3, 3, 4, 4, 4, 4, 4, 4, 4, 4, 5, 5, 5, 5, 5, 5, 5, 5, 5, 5, 5, 5, 5, 5, 5, 5, 6, 6, 6, 6, 6, 6, 6, 6, 6, 6, 6, 6, 6, 6, 6, 6, 6, 6, 6, 6, 6, 6, 6, 6, 6, 6, 6, 6, 6, 6, 6, 6, 7, 7, 7, 7, 7, 7, 7, 7, 7, 7, 7, 7, 7, 7, 7, 7, 7, 7, 7, 7, 7, 7, 7, 7, 7, 7, 7, 7, 7, 7, 7, 7, 7, 7, 7, 7, 7, 7, 7, 7, 7, 7, 7, 7, 7, 7, 7, 7, 7, 7, 7, 7, 7, 7, 7, 7, 7, 7, 7, 7, 7, 7, 7, 7, 8, 8, 8, 8, 8, 8, 8, 8, 8, 8, 8, 8, 8, 8, 8, 8, 8, 8, 8, 8, 8, 8, 8, 8, 8, 8, 8, 8, 8, 8, 8, 8, 8, 8, 8, 8, 8, 8, 8, 8, 8, 8, 8, 8, 8, 8, 8, 8, 8, 8, 8, 8, 8, 8, 8, 8, 8, 8, 8, 8, 8, 8, 8, 8, 8, 8, 8, 8, 8, 8, 8, 8, 8, 8, 8, 8, 8, 8, 8, 8, 8, 8, 8, 8, 8, 8, 8, 8, 8, 8, 8, 8, 8, 8, 8, 8, 8, 8, 8, 8, 8, 8, 8, 8, 8, 8, 8, 8, 8, 8, 8, 8, 8, 8, 8, 8, 8, 8, 8, 8, 8, 8, 8, 8, 8, 8, 8, 8]) [.var 4] <|
   .prim (.conv .i64) [.var 5] <|
   .prim (.bin .add) [.int .i64 (8), .var 6] <|
   .ret [.one (.var 7)]) (
   .prim (.conv .u8) [.var 0] <|
   .prim (.chr [0, 1, 2, 2, 3, 3, 3, 3, 4, 4, 4, 4, 4, 4, 4, 4, 5, 5, 5, 5, 5, 5, 5, 5, 5, 5, 5, 5, 5, 5, 5, 5, 6, 6, 6, 6, 6, 6, 6, 6, 6, 6, 6, 6, 6, 6, 6, 6, 6, 6, 6, 6, 6, 6, 6, 6, 6, 6, 6, 6, 6, 6, 6, 6, 7, 7, 7, 7, 7, 7, 7, 7, 7, 7, 7, 7, 7, 7, 7, 7, 7, 7, 7, 7, 7, 7, 7, 7, 7, 7, 7, 7, 7, 7, 7, 7, 7, 7, 7, 7, 7, 7, 7, 7, 7, 7, 7, 7, 7, 7, 7, 7, 7, 7, 7, 7, 7, 7, 7, 7, 7, 7, 7, 7, 7, 7, 7, 7, 8, 8, 8, 8, 8, 8, 8, 8, 8, 8, 8, 8, 8, 8, 8, 8, 8, 8, 8, 8, 8, 8, 8, 8, 8, 8, 8, 8, 8, 8, 8, 8, 8, 8, 8, 8, 8, 8, 8, 8, 8, 8, 8, 8, 8, 8, 8, 8, 8, 8, 8, 8, 8, 8, 8, 8, 8, 8, 8, 8, 8, 8, 8, 8, 8, 8, 8, 8, 8, 8, 8, 8, 8, 8, 8, 8, 8, 8, 8, 8, 8, 8, 8, 8, 8, 8, 8, 8, 8, 8, 8, 8, 8, 8, 8, 8, 8, 8, 8, 8, 8, 8, 8, 8, 8, 8, 8, 8, 8, 8, 8, 8, 8, 8, 8, 8, 8, 8, 8, 8, 8, 8, 8, 8, 8, 8, 8, 8]) [.var 3] <|
   .prim (.conv .i64) [.var 4] <|
   .prim (.bin .add) [.int .i64 (0), .var 5] <|
   .ret [.one (.var 6)]))

def ir_math_bits_LeadingZeros32 : IR :=
 .call F.math_bits_Len32 [.one (.var 0)] [.one] <|
 .prim (.bin .sub) [.int .i64 (32), .var 1] <|
 .ret [.one (.var 2)]

def ir_nat_Bits : IR :=
 .call F.nat_trim [.one (.var 0)] [.one] <|
 .prim .len [.var 1] <|
 .prim (.bin .eql) [.var 2, .int .i64 (0)] <|
 .ite (.var 3) (
  .ret [.one (.int .i64 (0))]) (
  .prim .len [.var 1] <|
  .prim (.bin .mul) [.int .i64 (32), .var 4] <|
  .prim .len [.var 1] <|
  .prim (.bin .sub) [.var 6, .int .i64 (1)] <|
  .prim (.inb 1) [.var 1, .var 7] <|
  .prim (.get 1 0) [.var 1, .var 7] <|
  .call F.math_bits_LeadingZeros32 [.one (.var 9)] [.one] <|
  .prim (.bin .sub) [.var 5, .var 10] <|
  .ret [.one (.var 11)])

def ir_nat_Cmp : IR :=
 .call F.nat_trim [.one (.var 0)] [.one] <|
 .call F.nat_trim [.one (.var 1)] [.one] <|
 .prim .len [.var 2] <|
 .prim .len [.var 3] <|
 .prim (.bin .neq) [.var 4, .var 5] <|
 .ite (.var 6) (
  .prim .len [.var 2] <|
  .prim .len [.var 3] <|
  .prim (.bin .lss) [.var 7, .var 8] <|
  .ite (.var 9) (
   .ret [.one (.int .i64 (-1))]) (
   .ret [.one (.int .i64 (1))])) (
  .prim .len [.var 2] <|
  .prim (.bin .sub) [.var 7, .int .i64 (1)] <|
  .loop [.var 2, .var 3, .var 8] (
   .prim (.bin .geq) [.var 2, .int .i64 (0)] <|
   .ite (.var 3) (
    .prim (.inb 1) [.var 0, .var 2] <|
    .prim (.get 1 0) [.var 0, .var 2] <|
    .prim (.inb 1) [.var 1, .var 2] <|
    .prim (.get 1 0) [.var 1, .var 2] <|
    .prim (.bin .lss) [.var 5, .var 7] <|
    .ite (.var 8) (
     .ret [.one (.int .i64 (-1))]) (
     .prim (.inb 1) [.var 0, .var 2] <|
     .prim (.get 1 0) [.var 0, .var 2] <|
     .prim (.inb 1) [.var 1, .var 2] <|
     .prim (.get 1 0) [.var 1, .var 2] <|
     .prim (.bin .gtr) [.var 10, .var 12] <|
     .ite (.var 13) (
      .ret [.one (.int .i64 (1))]) (
      .prim (.bin .sub) [.var 2, .int .i64 (1)] <|
      .jump 0 [.var 0, .var 1, .var 14]))) (
    .ret [.one (.int .i64 (0))])))

def ir_math_bits_Add32 : IR :=
 .prim (.conv .u64) [.var 0] <|
 .prim (.conv .u64) [.var 1] <|
 .prim (.bin .add) [.var 3, .var 4] <|
 .prim (.conv .u64) [.var 2] <|
 .prim (.bin .add) [.var 5, .var 6] <|
 .prim (.conv .u32) [.var 7] <|
 .prim (.bin .shr) [.var 7, .int .u64 (32)] <|
 .prim (.conv .u32) [.var 9] <|
 .ret [.one (.var 8), .one (.var 10)]

def ir_nat_Add : IR :=
 .call F.nat_trim [.one (.var 0)] [.one] <|
 .call F.nat_trim [.one (.var 1)] [.one] <|
 .prim .len [.var 2] <|
 .prim .len [.var 3] <|
 .prim (.bin .lss) [.var 4, .var 5] <|
 .ite (.var 6) (
  .prim .len [.var 3] <|
  .prim (.bin .add) [.var 7, .int .i64 (1)] <|
  .prim (.make 4) [.int .i64 (0), .var 8, .int .u32 (0)] <|
  .prim .len [.var 3] <|
  .loop [.var 2, .int .u32 (0), .var 3, .var 10, .int .i64 (0), .var 9] (
   .prim (.bin .lss) [.var 4, .var 3] <|
   .ite (.var 6) (
    .prim (.inb 1) [.var 2, .var 4] <|
    .prim (.get 1 0) [.var 2, .var 4] <|
    .prim .len [.var 0] <|
    .prim (.bin .lss) [.var 4, .var 9] <|
    .ite (.var 10) (
     .prim (.inb 1) [.var 0, .var 4] <|
     .prim (.get 1 0) [.var 0, .var 4] <|
     .call F.math_bits_Add32 [.one (.var 8), .one (.var 12), .one (.var 1)] [.one, .one] <|
     .prim (.mk 1) [.var 13] <|
     .prim (.app 1 4) [.var 5, .var 15] <|
     .prim (.bin .add) [.var 4, .int .i64 (1)] <|
     .jump 0 [.var 0, .var 14, .var 2, .var 3, .var 17, .var 16]) (
     .call F.math_bits_Add32 [.one (.var 8), .one (.int .u32 (0)), .one (.var 1)] [.one, .one] <|
     .prim (.mk 1) [.var 11] <|
     .prim (.app 1 4) [.var 5, .var 13] <|
     .prim (.bin .add) [.var 4, .int .i64 (1)] <|
     .jump 0 [.var 0, .var 12, .var 2, .var 3, .var 15, .var 14])) (
    .prim (.mk 1) [.var 1] <|
    .prim (.app 1 4) [.var 5, .var 7] <|
    .call F.nat_trim [.one (.var 8)] [.one] <|
    .ret [.one (.var 9)]))) (
  .prim .len [.var 2] <|
  .prim (.bin .add) [.var 7, .int .i64 (1)] <|
  .prim (.make 4) [.int .i64 (0), .var 8, .int .u32 (0)] <|
  .prim .len [.var 2] <|
  .loop [.var 3, .int .u32 (0), .var 2, .var 10, .int .i64 (0), .var 9] (
   .prim (.bin .lss) [.var 4, .var 3] <|
   .ite (.var 6) (
    .prim (.inb 1) [.var 2, .var 4] <|
    .prim (.get 1 0) [.var 2, .var 4] <|
    .prim .len [.var 0] <|
    .prim (.bin .lss) [.var 4, .var 9] <|
    .ite (.var 10) (
     .prim (.inb 1) [.var 0, .var 4] <|
     .prim (.get 1 0) [.var 0, .var 4] <|
     .call F.math_bits_Add32 [.one (.var 8), .one (.var 12), .one (.var 1)] [.one, .one] <|
     .prim (.mk 1) [.var 13] <|
     .prim (.app 1 4) [.var 5, .var 15] <|
     .prim (.bin .add) [.var 4, .int .i64 (1)] <|
     .jump 0 [.var 0, .var 14, .var 2, .var 3, .var 17, .var 16]) (
     .call F.math_bits_Add32 [.one (.var 8), .one (.int .u32 (0)), .one (.var 1)] [.one, .one] <|
     .prim (.mk 1) [.var 11] <|
     .prim (.app 1 4) [.var 5, .var 13] <|
     .prim (.bin .add) [.var 4, .int .i64 (1)] <|
     .jump 0 [.var 0, .var 12, .var 2, .var 3, .var 15, .var 14])) (
    .prim (.mk 1) [.var 1] <|
    .prim (.app 1 4) [.var 5, .var 7] <|
    .call F.nat_trim [.one (.var 8)] [.one] <|
    .ret [.one (.var 9)])))

def ir_math_bits_Sub32 : IR :=
 .prim (.bin .sub) [.var 0, .var 1] <|
 .prim (.bin .sub) [.var 3, .var 2] <|
 .prim .com [.var 0] <|
 .prim (.bin .and) [.var 5, .var 1] <|
 .prim (.bin .xor) [.var 0, .var 1] <|
 .prim .com [.var 7] <|
 .prim (.bin .and) [.var 8, .var 4] <|
 .prim (.bin .or) [.var 6, .var 9] <|
 .prim (.bin .shr) [.var 10, .int .u64 (31)] <|
 .ret [.one (.var 4), .one (.var 11)]

def ir_nat_Sub : IR :=
 .call F.nat_Cmp [.one (.var 0), .one (.var 1)] [.one] <|
 .prim (.bin .lss) [.var 2, .int .i64 (0)] <|
 .ite (.var 3) (
  .ret [.one (.nil), .one (.bol false)]) (
  .call F.nat_trim [.one (.var 0)] [.one] <|
  .call F.nat_trim [.one (.var 1)] [.one] <|
  .prim .len [.var 4] <|
  .prim (.make 4) [.int .i64 (0), .var 6, .int .u32 (0)] <|
  .prim .len [.var 4] <|
  .loop [.var 5, .int .u32 (0), .var 4, .var 8, .int .i64 (0), .var 7] (
   .prim (.bin .lss) [.var 4, .var 3] <|
   .ite (.var 6) (
    .prim (.inb 1) [.var 2, .var 4] <|
    .prim (.get 1 0) [.var 2, .var 4] <|
    .prim .len [.var 0] <|
    .prim (.bin .lss) [.var 4, .var 9] <|
    .ite (.var 10) (
     .prim (.inb 1) [.var 0, .var 4] <|
     .prim (.get 1 0) [.var 0, .var 4] <|
     .call F.math_bits_Sub32 [.one (.var 8), .one (.var 12), .one (.var 1)] [.one, .one] <|
     .prim (.mk 1) [.var 13] <|
     .prim (.app 1 4) [.var 5, .var 15] <|
     .prim (.bin .add) [.var 4, .int .i64 (1)] <|
     .jump 0 [.var 0, .var 14, .var 2, .var 3, .var 17, .var 16]) (
     .call F.math_bits_Sub32 [.one (.var 8), .one (.int .u32 (0)), .one (.var 1)] [.one, .one] <|
     .prim (.mk 1) [.var 11] <|
     .prim (.app 1 4) [.var 5, .var 13] <|
     .prim (.bin .add) [.var 4, .int .i64 (1)] <|
     .jump 0 [.var 0, .var 12, .var 2, .var 3, .var 15, .var 14])) (
    .call F.nat_trim [.one (.var 5)] [.one] <|
    .ret [.one (.var 7), .one (.bol true)])))

def ir_nat_Mul : IR :=
 .call F.nat_trim [.one (.var 0)] [.one] <|
 .call F.nat_trim [.one (.var 1)] [.one] <|
 .prim .len [.var 2] <|
 .prim .len [.var 3] <|
 .prim (.bin .add) [.var 4, .var 5] <|
 .prim (.make 4) [.var 6, .var 6, .int .u32 (0)] <|
 .prim .len [.var 2] <|
 .loop [.var 3, .var 2, .var 8, .int .i64 (0), .var 7] (
  .prim (.bin .lss) [.var 3, .var 2] <|
  .ite (.var 5) (
   .prim (.inb 1) [.var 1, .var 3] <|
   .prim (.get 1 0) [.var 1, .var 3] <|
   .prim .len [.var 0] <|
   .loop [.var 0, .var 3, .var 7, .int .u64 (0), .var 1, .var 2, .var 8, .int .i64 (0), .var 4] (
    .prim (.bin .lss) [.var 7, .var 6] <|
    .ite (.var 9) (
     .prim (.inb 1) [.var 0, .var 7] <|
     .prim (.get 1 0) [.var 0, .var 7] <|
     .prim (.conv .u64) [.var 2] <|
     .prim (.conv .u64) [.var 11] <|
     .prim (.bin .mul) [.var 12, .var 13] <|
     .prim (.bin .add) [.var 1, .var 7] <|
     .prim (.inb 1) [.var 8, .var 15] <|
     .prim (.get 1 0) [.var 8, .var 15] <|
     .prim (.conv .u64) [.var 17] <|
     .prim (.bin .add) [.var 14, .var 18] <|
     .prim (.bin .add) [.var 19, .var 3] <|
     .prim (.bin .add) [.var 1, .var 7] <|
     .prim (.conv .u32) [.var 20] <|
     .prim (.inb 1) [.var 8, .var 21] <|
     .prim (.setl 1 0) [.var 8, .var 21, .var 22] <|
     .prim (.bin .shr) [.var 20, .int .u64 (32)] <|
     .prim (.bin .add) [.var 7, .int .i64 (1)] <|
     .jump 1 [.var 0, .var 1, .var 2, .var 25, .var 4, .var 5, .var 6, .var 26, .var 24]) (
     .prim .len [.var 0] <|
     .prim (.bin .add) [.var 1, .var 10] <|
     .prim (.conv .u32) [.var 3] <|
     .prim (.inb 1) [.var 8, .var 11] <|
     .prim (.setl 1 0) [.var 8, .var 11, .var 12] <|
     .prim (.bin .add) [.var 1, .int .i64 (1)] <|
     .jump 0 [.var 0, .var 4, .var 5, .var 15, .var 14]))) (
   .call F.nat_trim [.one (.var 4)] [.one] <|
   .ret [.one (.var 6)]))

def ir_nat_small : IR :=
 .prim .len [.var 0] <|
 .prim (.make 4) [.var 2, .var 2, .int .u32 (0)] <|
 .prim .len [.var 0] <|
 .prim (.bin .sub) [.var 4, .int .i64 (1)] <|
 .loop [.var 0, .var 1, .int .u32 (0), .var 5, .var 3] (
  .prim (.bin .geq) [.var 3, .int .i64 (0)] <|
  .ite (.var 5) (
   .prim (.inb 1) [.var 0, .var 3] <|
   .prim (.get 1 0) [.var 0, .var 3] <|
   .call F.math_bits_Div32 [.one (.var 2), .one (.var 7), .one (.var 1)] [.one, .one] <|
   .prim (.inb 1) [.var 4, .var 3] <|
   .prim (.setl 1 0) [.var 4, .var 3, .var 8] <|
   .prim (.bin .sub) [.var 3, .int .i64 (1)] <|
   .jump 0 [.var 0, .var 1, .var 9, .var 12, .var 11]) (
   .call F.nat_trim [.one (.var 4)] [.one] <|
   .prim (.mk 1) [.var 2] <|
   .call F.nat_trim [.one (.var 7)] [.one] <|
   .ret [.one (.var 6), .one (.var 8)]))

def ir_nat_shr : IR :=
 .prim .len [.var 0] <|
 .prim (.make 4) [.var 2, .var 2, .int .u32 (0)] <|
 .prim .len [.var 0] <|
 .loop [.var 0, .var 1, .var 4, .int .i64 (0), .var 3] (
  .prim (.bin .lss) [.var 3, .var 2] <|
  .ite (.var 5) (
   .prim (.inb 1) [.var 0, .var 3] <|
   .prim (.get 1 0) [.var 0, .var 3] <|
   .prim (.bin .add) [.var 3, .int .i64 (1)] <|
   .prim .len [.var 0] <|
   .prim (.bin .lss) [.var 8, .var 9] <|
   .ite (.var 10) (
    .prim (.bin .add) [.var 3, .int .i64 (1)] <|
    .prim (.inb 1) [.var 0, .var 11] <|
    .prim (.get 1 0) [.var 0, .var 11] <|
    .prim (.conv .u64) [.var 13] <|
    .prim (.bin .shl) [.var 14, .int .u64 (32)] <|
    .prim (.conv .u64) [.var 7] <|
    .prim (.bin .or) [.var 15, .var 16] <|
    .prim (.bin .shr) [.var 17, .var 1] <|
    .prim (.conv .u32) [.var 18] <|
    .prim (.inb 1) [.var 4, .var 3] <|
    .prim (.setl 1 0) [.var 4, .var 3, .var 19] <|
    .prim (.bin .add) [.var 3, .int .i64 (1)] <|
    .jump 0 [.var 0, .var 1, .var 2, .var 22, .var 21]) (
    .prim (.conv .u64) [.var 7] <|
    .prim (.bin .or) [.int .u64 (0), .var 11] <|
    .prim (.bin .shr) [.var 12, .var 1] <|
    .prim (.conv .u32) [.var 13] <|
    .prim (.inb 1) [.var 4, .var 3] <|
    .prim (.setl 1 0) [.var 4, .var 3, .var 14] <|
    .prim (.bin .add) [.var 3, .int .i64 (1)] <|
    .jump 0 [.var 0, .var 1, .var 2, .var 17, .var 16])) (
   .call F.nat_trim [.one (.var 4)] [.one] <|
   .ret [.one (.var 6)]))

def ir_nat_DivMod : IR :=
 .call F.nat_trim [.one (.var 0)] [.one] <|
 .call F.nat_trim [.one (.var 1)] [.one] <|
 .prim .len [.var 3] <|
 .prim (.bin .eql) [.var 4, .int .i64 (0)] <|
 .ite (.var 5) (
  .ret [.one (.nil), .one (.nil), .one (.bol false)]) (
  .call F.nat_Cmp [.one (.var 2), .one (.var 3)] [.one] <|
  .prim (.bin .lss) [.var 6, .int .i64 (0)] <|
  .ite (.var 7) (
   .call F.nat_Norm [.one (.var 2)] [.one] <|
   .ret [.one (.nil), .one (.var 8), .one (.bol true)]) (
   .prim .len [.var 3] <|
   .prim (.bin .eql) [.var 8, .int .i64 (1)] <|
   .ite (.var 9) (
    .prim (.inb 1) [.var 3, .int .i64 (0)] <|
    .prim (.get 1 0) [.var 3, .int .i64 (0)] <|
    .call F.nat_small [.one (.var 2), .one (.var 11)] [.one, .one] <|
    .ret [.one (.var 12), .one (.var 13), .one (.bol true)]) (
    .call F.nat_long [.one (.var 2), .one (.var 3)] [.one, .one] <|
    .ret [.one (.var 10), .one (.var 11), .one (.bol true)])))

def ir_math_bits_Div32 : IR :=
 .prim (.bin .neq) [.var 2, .int .u32 (0)] <|
 .ite (.var 3) (
  .prim (.bin .leq) [.var 2, .var 0] <|
  .ite (.var 4) (
   .bad) (
   .prim (.conv .u64) [.var 0] <|
   .prim (.bin .shl) [.var 5, .int .u64 (32)] <|
   .prim (.conv .u64) [.var 1] <|
   .prim (.bin .or) [.var 6, .var 7] <|
   .prim (.conv .u64) [.var 2] <|
   .prim (.bin .quo) [.var 8, .var 9] <|
   .prim (.conv .u32) [.var 10] <|
   .prim (.conv .u64) [.var 2] <|
   .prim (.bin .rem) [.var 8, .var 12] <|
   .prim (.conv .u32) [.var 13] <|
   .ret [.one (.var 11), .one (.var 14)])) (
  .prim (.conv .u64) [.var 0] <|
  .prim (.bin .shl) [.var 4, .int .u64 (32)] <|
  .prim (.conv .u64) [.var 1] <|
  .prim (.bin .or) [.var 5, .var 6] <|
  .prim (.conv .u64) [.var 2] <|
  .prim (.bin .quo) [.var 7, .var 8] <|
  .prim (.conv .u32) [.var 9] <|
  .prim (.conv .u64) [.var 2] <|
  .prim (.bin .rem) [.var 7, .var 11] <|
  .prim (.conv .u32) [.var 12] <|
  .ret [.one (.var 10), .one (.var 13)])

def ir_root_Gcd : IR :=
 .call F.nat_Norm [.one (.var 0)] [.one] <|
 .call F.nat_Norm [.one (.var 1)] [.one] <|
 .loop [.var 2, .var 3] (
  .prim .len [.var 1] <|
  .prim (.bin .gtr) [.var 2, .int .i64 (0)] <|
  .ite (.var 3) (
   .call F.nat_DivMod [.one (.var 0), .one (.var 1)] [.one, .one, .one] <|
   .jump 0 [.var 1, .var 5]) (
   .ret [.one (.var 0)]))

def ir_penumbraref01_Norm : IR :=
 .prim .len [.var 0] <|
 .loop [.var 0, .var 1] (
  .prim (.bin .gtr) [.var 1, .int .i64 (0)] <|
  .ite (.var 2) (
   .prim (.bin .sub) [.var 1, .int .i64 (1)] <|
   .prim (.inb 1) [.var 0, .var 3] <|
   .prim (.get 1 0) [.var 0, .var 3] <|
   .prim (.bin .eql) [.var 5, .int .u32 (0)] <|
   .ite (.var 6) (
    .prim (.bin .sub) [.var 1, .int .i64 (1)] <|
    .jump 0 [.var 0, .var 7]) (
    .prim (.mk 0) [] <|
    .prim (.slc 1) [.var 0, .int .i64 (0), .var 1] <|
    .prim (.app 1 4) [.var 7, .var 8] <|
    .ret [.one (.var 9)])) (
   .prim (.mk 0) [] <|
   .prim (.slc 1) [.var 0, .int .i64 (0), .var 1] <|
   .prim (.app 1 4) [.var 3, .var 4] <|
   .ret [.one (.var 5)]))

def ir_penumbraref01_Same : IR :=
 .prim .len [.var 0] <|
 .prim .len [.var 1] <|
 .prim (.bin .neq) [.var 2, .var 3] <|
 .ite (.var 4) (
  .ret [.one (.bol false)]) (
  .loop [.var 0, .var 1, .int .i64 (0)] (
   .prim .len [.var 0] <|
   .prim (.bin .lss) [.var 2, .var 3] <|
   .ite (.var 4) (
    .prim (.inb 1) [.var 0, .var 2] <|
    .prim (.get 1 0) [.var 0, .var 2] <|
    .prim (.inb 1) [.var 1, .var 2] <|
    .prim (.get 1 0) [.var 1, .var 2] <|
    .prim (.bin .neq) [.var 6, .var 8] <|
    .ite (.var 9) (
     .ret [.one (.bol false)]) (
     .prim (.bin .add) [.var 2, .int .i64 (1)] <|
     .jump 0 [.var 0, .var 1, .var 10])) (
    .ret [.one (.bol true)])))

def ir_penumbraref01_Of : IR :=
 .prim (.conv .u32) [.var 0] <|
 .prim (.bin .shr) [.var 0, .int .u64 (32)] <|
 .prim (.conv .u32) [.var 2] <|
 .prim (.mk 2) [.var 1, .var 3] <|
 .call F.penumbraref01_Norm [.one (.var 4)] [.one] <|
 .ret [.one (.var 5)]

def ir_penumbraref01_limb : IR :=
 .prim .len [.var 0] <|
 .prim (.bin .lss) [.var 1, .var 2] <|
 .ite (.var 3) (
  .prim (.inb 1) [.var 0, .var 1] <|
  .prim (.get 1 0) [.var 0, .var 1] <|
  .prim (.conv .u64) [.var 5] <|
  .ret [.one (.var 6)]) (
  .ret [.one (.int .u64 (0))])

def ir_penumbraref01_Cmp : IR :=
 .prim .len [.var 0] <|
 .prim .len [.var 1] <|
 .prim .max2 [.var 2, .var 3] <|
 .prim (.bin .sub) [.var 4, .int .i64 (1)] <|
 .loop [.var 0, .var 1, .var 5] (
  .prim (.bin .geq) [.var 2, .int .i64 (0)] <|
  .ite (.var 3) (
   .call F.penumbraref01_limb [.one (.var 0), .one (.var 2)] [.one] <|
   .call F.penumbraref01_limb [.one (.var 1), .one (.var 2)] [.one] <|
   .prim (.bin .lss) [.var 4, .var 5] <|
   .ite (.var 6) (
    .ret [.one (.int .i64 (-1))]) (
    .prim (.bin .gtr) [.var 4, .var 5] <|
    .ite (.var 7) (
     .ret [.one (.int .i64 (1))]) (
     .prim (.bin .sub) [.var 2, .int .i64 (1)] <|
     .jump 0 [.var 0, .var 1, .var 8]))) (
   .ret [.one (.int .i64 (0))]))

def ir_penumbraref01_Zero : IR :=
 .call F.penumbraref01_Cmp [.one (.var 0), .one (.nil)] [.one] <|
 .prim (.bin .eql) [.var 1, .int .i64 (0)] <|
 .ret [.one (.var 2)]

def ir_penumbraref01_Add : IR :=
 .prim (.mk 0) [] <|
 .loop [.var 0, .var 1, .int .u64 (0), .int .i64 (0), .var 2] (
  .prim .len [.var 0] <|
  .prim (.bin .lss) [.var 3, .var 5] <|
  .ite (.var 6) (
   .call F.penumbraref01_limb [.one (.var 0), .one (.var 3)] [.one] <|
   .call F.penumbraref01_limb [.one (.var 1), .one (.var 3)] [.one] <|
   .prim (.bin .add) [.var 7, .var 8] <|
   .prim (.bin .add) [.var 9, .var 2] <|
   .prim (.bin .rem) [.var 10, .int .u64 (4294967296)] <|
   .prim (.conv .u32) [.var 11] <|
   .prim (.mk 1) [.var 12] <|
   .prim (.app 1 4) [.var 4, .var 13] <|
   .prim (.bin .quo) [.var 10, .int .u64 (4294967296)] <|
   .prim (.bin .add) [.var 3, .int .i64 (1)] <|
   .jump 0 [.var 0, .var 1, .var 15, .var 16, .var 14]) (
   .prim .len [.var 1] <|
   .prim (.bin .lss) [.var 3, .var 7] <|
   .ite (.var 8) (
    .call F.penumbraref01_limb [.one (.var 0), .one (.var 3)] [.one] <|
    .call F.penumbraref01_limb [.one (.var 1), .one (.var 3)] [.one] <|
    .prim (.bin .add) [.var 9, .var 10] <|
    .prim (.bin .add) [.var 11, .var 2] <|
    .prim (.bin .rem) [.var 12, .int .u64 (4294967296)] <|
    .prim (.conv .u32) [.var 13] <|
    .prim (.mk 1) [.var 14] <|
    .prim (.app 1 4) [.var 4, .var 15] <|
    .prim (.bin .quo) [.var 12, .int .u64 (4294967296)] <|
    .prim (.bin .add) [.var 3, .int .i64 (1)] <|
    .jump 0 [.var 0, .var 1, .var 17, .var 18, .var 16]) (
    .prim (.conv .u32) [.var 2] <|
    .prim (.mk 1) [.var 9] <|
    .prim (.app 1 4) [.var 4, .var 10] <|
    .call F.penumbraref01_Norm [.one (.var 11)] [.one] <|
    .ret [.one (.var 12)])))

def ir_penumbraref01_Sub : IR :=
 .call F.penumbraref01_Cmp [.one (.var 0), .one (.var 1)] [.one] <|
 .prim (.bin .lss) [.var 2, .int .i64 (0)] <|
 .ite (.var 3) (
  .ret [.one (.nil), .one (.bol false)]) (
  .prim (.mk 0) [] <|
  .loop [.var 0, .var 1, .int .u64 (0), .int .i64 (0), .var 4] (
   .prim .len [.var 0] <|
   .prim (.bin .lss) [.var 3, .var 5] <|
   .ite (.var 6) (
    .call F.penumbraref01_limb [.one (.var 0), .one (.var 3)] [.one] <|
    .prim (.bin .add) [.int .u64 (4294967296), .var 7] <|
    .call F.penumbraref01_limb [.one (.var 1), .one (.var 3)] [.one] <|
    .prim (.bin .sub) [.var 8, .var 9] <|
    .prim (.bin .sub) [.var 10, .var 2] <|
    .prim (.bin .rem) [.var 11, .int .u64 (4294967296)] <|
    .prim (.conv .u32) [.var 12] <|
    .prim (.mk 1) [.var 13] <|
    .prim (.app 1 4) [.var 4, .var 14] <|
    .prim (.bin .quo) [.var 11, .int .u64 (4294967296)] <|
    .prim (.bin .sub) [.int .u64 (1), .var 16] <|
    .prim (.bin .add) [.var 3, .int .i64 (1)] <|
    .jump 0 [.var 0, .var 1, .var 17, .var 18, .var 15]) (
    .call F.penumbraref01_Norm [.one (.var 4)] [.one] <|
    .ret [.one (.var 7), .one (.bol true)])))

def ir_penumbraref01_Mul : IR :=
 .prim .len [.var 0] <|
 .prim .len [.var 1] <|
 .prim (.bin .add) [.var 2, .var 3] <|
 .prim (.bin .add) [.var 4, .int .i64 (1)] <|
 .prim (.make 4) [.var 5, .var 5, .int .u32 (0)] <|
 .loop [.var 0, .var 1, .int .i64 (0), .var 6] (
  .prim .len [.var 0] <|
  .prim (.bin .lss) [.var 2, .var 4] <|
  .ite (.var 5) (
   .loop [.var 0, .var 1, .var 2, .int .u64 (0), .int .i64 (0), .var 3] (
    .prim .len [.var 1] <|
    .prim (.bin .lss) [.var 4, .var 6] <|
    .ite (.var 7) (
     .prim (.inb 1) [.var 0, .var 2] <|
     .prim (.get 1 0) [.var 0, .var 2] <|
     .prim (.conv .u64) [.var 9] <|
     .prim (.inb 1) [.var 1, .var 4] <|
     .prim (.get 1 0) [.var 1, .var 4] <|
     .prim (.conv .u64) [.var 12] <|
     .prim (.bin .mul) [.var 10, .var 13] <|
     .prim (.bin .add) [.var 2, .var 4] <|
     .prim (.inb 1) [.var 5, .var 15] <|
     .prim (.get 1 0) [.var 5, .var 15] <|
     .prim (.conv .u64) [.var 17] <|
     .prim (.bin .add) [.var 14, .var 18] <|
     .prim (.bin .add) [.var 19, .var 3] <|
     .prim (.bin .add) [.var 2, .var 4] <|
     .prim (.bin .rem) [.var 20, .int .u64 (4294967296)] <|
     .prim (.conv .u32) [.var 22] <|
     .prim (.inb 1) [.var 5, .var 21] <|
     .prim (.setl 1 0) [.var 5, .var 21, .var 23] <|
     .prim (.bin .quo) [.var 20, .int .u64 (4294967296)] <|
     .prim (.bin .add) [.var 4, .int .i64 (1)] <|
     .jump 1 [.var 0, .var 1, .var 2, .var 26, .var 27, .var 25]) (
     .prim .len [.var 1] <|
     .prim (.bin .add) [.var 2, .var 8] <|
     .prim (.conv .u32) [.var 3] <|
     .prim (.inb 1) [.var 5, .var 9] <|
     .prim (.setl 1 0) [.var 5, .var 9, .var 10] <|
     .prim (.bin .add) [.var 2, .int .i64 (1)] <|
     .jump 0 [.var 0, .var 1, .var 13, .var 12]))) (
   .call F.penumbraref01_Norm [.one (.var 3)] [.one] <|
   .ret [.one (.var 6)]))

def ir_penumbraref01_Double : IR :=
 .prim (.mk 0) [] <|
 .ite (.var 1) (
  .loop [.var 0, .int .u64 (1), .int .i64 (0), .var 2] (
   .prim .len [.var 0] <|
   .prim (.bin .lss) [.var 2, .var 4] <|
   .ite (.var 5) (
    .prim (.inb 1) [.var 0, .var 2] <|
    .prim (.get 1 0) [.var 0, .var 2] <|
    .prim (.conv .u64) [.var 7] <|
    .prim (.bin .mul) [.int .u64 (2), .var 8] <|
    .prim (.bin .add) [.var 9, .var 1] <|
    .prim (.bin .rem) [.var 10, .int .u64 (4294967296)] <|
    .prim (.conv .u32) [.var 11] <|
    .prim (.mk 1) [.var 12] <|
    .prim (.app 1 4) [.var 3, .var 13] <|
    .prim (.bin .quo) [.var 10, .int .u64 (4294967296)] <|
    .prim (.bin .add) [.var 2, .int .i64 (1)] <|
    .jump 0 [.var 0, .var 15, .var 16, .var 14]) (
    .prim (.conv .u32) [.var 1] <|
    .prim (.mk 1) [.var 6] <|
    .prim (.app 1 4) [.var 3, .var 7] <|
    .call F.penumbraref01_Norm [.one (.var 8)] [.one] <|
    .ret [.one (.var 9)]))) (
  .loop [.var 0, .int .u64 (0), .int .i64 (0), .var 2] (
   .prim .len [.var 0] <|
   .prim (.bin .lss) [.var 2, .var 4] <|
   .ite (.var 5) (
    .prim (.inb 1) [.var 0, .var 2] <|
    .prim (.get 1 0) [.var 0, .var 2] <|
    .prim (.conv .u64) [.var 7] <|
    .prim (.bin .mul) [.int .u64 (2), .var 8] <|
    .prim (.bin .add) [.var 9, .var 1] <|
    .prim (.bin .rem) [.var 10, .int .u64 (4294967296)] <|
    .prim (.conv .u32) [.var 11] <|
    .prim (.mk 1) [.var 12] <|
    .prim (.app 1 4) [.var 3, .var 13] <|
    .prim (.bin .quo) [.var 10, .int .u64 (4294967296)] <|
    .prim (.bin .add) [.var 2, .int .i64 (1)] <|
    .jump 0 [.var 0, .var 15, .var 16, .var 14]) (
    .prim (.conv .u32) [.var 1] <|
    .prim (.mk 1) [.var 6] <|
    .prim (.app 1 4) [.var 3, .var 7] <|
    .call F.penumbraref01_Norm [.one (.var 8)] [.one] <|
    .ret [.one (.var 9)])))

def ir_penumbraref01_Half : IR :=
 .prim (.mk 0) [] <|
 .loop [.var 0, .int .i64 (0), .var 1] (
  .prim .len [.var 0] <|
  .prim (.bin .lss) [.var 1, .var 3] <|
  .ite (.var 4) (
   .prim (.bin .add) [.var 1, .int .i64 (1)] <|
   .call F.penumbraref01_limb [.one (.var 0), .one (.var 5)] [.one] <|
   .prim (.bin .rem) [.var 6, .int .u64 (2)] <|
   .prim (.bin .mul) [.var 7, .int .u64 (4294967296)] <|
   .prim (.inb 1) [.var 0, .var 1] <|
   .prim (.get 1 0) [.var 0, .var 1] <|
   .prim (.conv .u64) [.var 10] <|
   .prim (.bin .add) [.var 8, .var 11] <|
   .prim (.bin .quo) [.var 12, .int .u64 (2)] <|
   .prim (.conv .u32) [.var 13] <|
   .prim (.mk 1) [.var 14] <|
   .prim (.app 1 4) [.var 2, .var 15] <|
   .prim (.bin .add) [.var 1, .int .i64 (1)] <|
   .jump 0 [.var 0, .var 17, .var 16]) (
   .call F.penumbraref01_Norm [.one (.var 2)] [.one] <|
   .ret [.one (.var 5)]))

def ir_penumbraref01_at : IR :=
 .prim (.make 4) [.var 1, .var 1, .int .u32 (0)] <|
 .prim (.bin .rem) [.var 0, .int .u64 (4294967296)] <|
 .prim (.conv .u32) [.var 3] <|
 .prim (.bin .quo) [.var 0, .int .u64 (4294967296)] <|
 .prim (.conv .u32) [.var 5] <|
 .prim (.mk 2) [.var 4, .var 6] <|
 .prim (.app 1 4) [.var 2, .var 7] <|
 .ret [.one (.var 8)]

def ir_penumbraref01_DivMod : IR :=
 .call F.penumbraref01_Zero [.one (.var 1)] [.one] <|
 .ite (.var 2) (
  .ret [.one (.nil), .one (.nil), .one (.bol false)]) (
  .call F.penumbraref01_Norm [.one (.var 1)] [.one] <|
  .call F.penumbraref01_Norm [.one (.var 0)] [.one] <|
  .loop [.var 3, .var 4, .int .i64 (0)] (
   .prim .len [.var 0] <|
   .prim (.bin .sub) [.var 3, .int .i64 (1)] <|
   .prim (.inb 1) [.var 0, .var 4] <|
   .prim (.get 1 0) [.var 0, .var 4] <|
   .prim (.bin .lss) [.var 6, .int .u32 (2147483648)] <|
   .ite (.var 7) (
    .call F.penumbraref01_Double [.one (.var 0), .one (.bol false)] [.one] <|
    .call F.penumbraref01_Double [.one (.var 1), .one (.bol false)] [.one] <|
    .prim (.bin .add) [.var 2, .int .i64 (1)] <|
    .jump 0 [.var 8, .var 9, .var 10]) (
    .prim (.mk 0) [] <|
    .prim .len [.var 0] <|
    .prim (.bin .sub) [.var 9, .int .i64 (1)] <|
    .prim (.inb 1) [.var 0, .var 10] <|
    .prim (.get 1 0) [.var 0, .var 10] <|
    .prim (.conv .u64) [.var 12] <|
    .prim (.bin .add) [.var 13, .int .u64 (1)] <|
    .loop [.var 0, .var 1, .var 2, .var 8, .var 9, .var 14] (
     .call F.penumbraref01_Cmp [.one (.var 1), .one (.var 0)] [.one] <|
     .prim (.bin .geq) [.var 6, .int .i64 (0)] <|
     .ite (.var 7) (
      .prim .len [.var 1] <|
      .prim (.bin .sub) [.var 8, .var 4] <|
      .prim (.bin .sub) [.var 8, .int .i64 (1)] <|
      .prim (.inb 1) [.var 1, .var 10] <|
      .prim (.get 1 0) [.var 1, .var 10] <|
      .prim (.conv .u64) [.var 12] <|
      .prim (.bin .quo) [.var 13, .var 5] <|
      .prim (.bin .eql) [.var 14, .int .u64 (0)] <|
      .ite (.var 15) (
       .prim (.bin .gtr) [.var 8, .var 4] <|
       .ite (.var 16) (
        .prim (.bin .sub) [.var 8, .int .i64 (1)] <|
        .prim (.inb 1) [.var 1, .var 17] <|
        .prim (.get 1 0) [.var 1, .var 17] <|
        .prim (.conv .u64) [.var 19] <|
        .prim (.bin .mul) [.var 20, .int .u64 (4294967296)] <|
        .prim (.bin .sub) [.var 8, .int .i64 (2)] <|
        .prim (.inb 1) [.var 1, .var 22] <|
        .prim (.get 1 0) [.var 1, .var 22] <|
        .prim (.conv .u64) [.var 24] <|
        .prim (.bin .add) [.var 21, .var 25] <|
        .prim (.bin .quo) [.var 26, .var 5] <|
        .prim (.bin .sub) [.var 9, .int .i64 (1)] <|
        .prim (.bin .eql) [.var 27, .int .u64 (0)] <|
        .ite (.var 29) (
         .call F.penumbraref01_at [.one (.int .u64 (1)), .one (.var 28)] [.one] <|
         .call F.penumbraref01_Add [.one (.var 3), .one (.var 30)] [.one] <|
         .call F.penumbraref01_Mul [.one (.var 30), .one (.var 0)] [.one] <|
         .call F.penumbraref01_Sub [.one (.var 1), .one (.var 32)] [.one, .one] <|
         .jump 1 [.var 0, .var 33, .var 2, .var 31, .var 4, .var 5]) (
         .call F.penumbraref01_at [.one (.var 27), .one (.var 28)] [.one] <|
         .call F.penumbraref01_Add [.one (.var 3), .one (.var 30)] [.one] <|
         .call F.penumbraref01_Mul [.one (.var 30), .one (.var 0)] [.one] <|
         .call F.penumbraref01_Sub [.one (.var 1), .one (.var 32)] [.one, .one] <|
         .jump 1 [.var 0, .var 33, .var 2, .var 31, .var 4, .var 5])) (
        .prim (.bin .eql) [.var 14, .int .u64 (0)] <|
        .ite (.var 17) (
         .call F.penumbraref01_at [.one (.int .u64 (1)), .one (.var 9)] [.one] <|
         .call F.penumbraref01_Add [.one (.var 3), .one (.var 18)] [.one] <|
         .call F.penumbraref01_Mul [.one (.var 18), .one (.var 0)] [.one] <|
         .call F.penumbraref01_Sub [.one (.var 1), .one (.var 20)] [.one, .one] <|
         .jump 1 [.var 0, .var 21, .var 2, .var 19, .var 4, .var 5]) (
         .call F.penumbraref01_at [.one (.var 14), .one (.var 9)] [.one] <|
         .call F.penumbraref01_Add [.one (.var 3), .one (.var 18)] [.one] <|
         .call F.penumbraref01_Mul [.one (.var 18), .one (.var 0)] [.one] <|
         .call F.penumbraref01_Sub [.one (.var 1), .one (.var 20)] [.one, .one] <|
         .jump 1 [.var 0, .var 21, .var 2, .var 19, .var 4, .var 5]))) (
       .prim (.bin .eql) [.var 14, .int .u64 (0)] <|
       .ite (.var 16) (
        .call F.penumbraref01_at [.one (.int .u64 (1)), .one (.var 9)] [.one] <|
        .call F.penumbraref01_Add [.one (.var 3), .one (.var 17)] [.one] <|
        .call F.penumbraref01_Mul [.one (.var 17), .one (.var 0)] [.one] <|
        .call F.penumbraref01_Sub [.one (.var 1), .one (.var 19)] [.one, .one] <|
        .jump 1 [.var 0, .var 20, .var 2, .var 18, .var 4, .var 5]) (
        .call F.penumbraref01_at [.one (.var 14), .one (.var 9)] [.one] <|
        .call F.penumbraref01_Add [.one (.var 3), .one (.var 17)] [.one] <|
        .call F.penumbraref01_Mul [.one (.var 17), .one (.var 0)] [.one] <|
        .call F.penumbraref01_Sub [.one (.var 1), .one (.var 19)] [.one, .one] <|
        .jump 1 [.var 0, .var 20, .var 2, .var 18, .var 4, .var 5]))) (
      .loop [.var 1, .var 2, .var 3, .int .i64 (0)] (
       .prim (.bin .lss) [.var 3, .var 1] <|
       .ite (.var 4) (
        .call F.penumbraref01_Half [.one (.var 0)] [.one] <|
        .prim (.bin .add) [.var 3, .int .i64 (1)] <|
        .jump 2 [.var 5, .var 1, .var 2, .var 6]) (
        .ret [.one (.var 2), .one (.var 0), .one (.bol true)])))))))

def ir_penumbraref02_Gcd : IR :=
 .loop [.var 0, .var 1] (
  .call F.penumbraref01_Zero [.one (.var 1)] [.one] <|
  .prim .not [.var 2] <|
  .ite (.var 3) (
   .call F.penumbraref01_DivMod [.one (.var 0), .one (.var 1)] [.one, .one, .one] <|
   .jump 0 [.var 1, .var 5]) (
   .call F.penumbraref01_Norm [.one (.var 0)] [.one] <|
   .ret [.one (.var 4)]))

def ir_rat_made : IR :=
 .call F.nat_Norm [.one (.var 1)] [.one] <|
 .call F.nat_Norm [.one (.var 2)] [.one] <|
 .prim .len [.var 3] <|
 .prim (.bin .eql) [.var 5, .int .i64 (0)] <|
 .ite (.var 6) (
  .call F.rat_one [] [.one] <|
  .ret [.agg [.bol false, .nil, .var 7]]) (
  .prim .len [.var 4] <|
  .prim (.bin .eql) [.var 7, .int .i64 (0)] <|
  .ite (.var 8) (
   .call F.rat_one [] [.one] <|
   .ret [.agg [.bol false, .nil, .var 9]]) (
   .call F.root_Gcd [.one (.var 3), .one (.var 4)] [.one] <|
   .prim .len [.var 9] <|
   .prim (.bin .gtr) [.var 10, .int .i64 (1)] <|
   .ite (.var 11) (
    .call F.nat_DivMod [.one (.var 3), .one (.var 9)] [.one, .one, .one] <|
    .call F.nat_DivMod [.one (.var 4), .one (.var 9)] [.one, .one, .one] <|
    .ret [.agg [.var 0, .var 12, .var 15]]) (
    .prim (.inb 1) [.var 9, .int .i64 (0)] <|
    .prim (.get 1 0) [.var 9, .int .i64 (0)] <|
    .prim (.bin .gtr) [.var 13, .int .u32 (1)] <|
    .ite (.var 14) (
     .call F.nat_DivMod [.one (.var 3), .one (.var 9)] [.one, .one, .one] <|
     .call F.nat_DivMod [.one (.var 4), .one (.var 9)] [.one, .one, .one] <|
     .ret [.agg [.var 0, .var 15, .var 18]]) (
     .ret [.agg [.var 0, .var 3, .var 4]]))))

def ir_rat_plus : IR :=
 .call F.rat_whole [.agg [.var 0, .var 1, .var 2]] [.agg 3] <|
 .call F.rat_whole [.agg [.var 3, .var 4, .var 5]] [.agg 3] <|
 .call F.nat_Mul [.one (.var 7), .one (.var 11)] [.one] <|
 .call F.nat_Mul [.one (.var 10), .one (.var 8)] [.one] <|
 .call F.nat_Mul [.one (.var 8), .one (.var 11)] [.one] <|
 .prim (.beq false) [.var 6, .var 9] <|
 .ite (.var 15) (
  .call F.nat_Add [.one (.var 12), .one (.var 13)] [.one] <|
  .call F.rat_made [.one (.var 6), .one (.var 16), .one (.var 14)] [.agg 3] <|
  .ret [.agg [.var 17, .var 18, .var 19]]) (
  .call F.nat_Sub [.one (.var 12), .one (.var 13)] [.one, .one] <|
  .ite (.var 17) (
   .call F.rat_made [.one (.var 6), .one (.var 16), .one (.var 14)] [.agg 3] <|
   .ret [.agg [.var 18, .var 19, .var 20]]) (
   .call F.nat_Sub [.one (.var 13), .one (.var 12)] [.one, .one] <|
   .call F.rat_made [.one (.var 9), .one (.var 18), .one (.var 14)] [.agg 3] <|
   .ret [.agg [.var 20, .var 21, .var 22]]))

def ir_rat_times : IR :=
 .prim .len [.var 1] <|
 .prim (.bin .eql) [.var 6, .int .i64 (0)] <|
 .ite (.var 7) (
  .call F.rat_one [] [.one] <|
  .ret [.agg [.bol false, .nil, .var 8]]) (
  .prim .len [.var 4] <|
  .prim (.bin .eql) [.var 8, .int .i64 (0)] <|
  .ite (.var 9) (
   .call F.rat_one [] [.one] <|
   .ret [.agg [.bol false, .nil, .var 10]]) (
   .call F.rat_made [.one (.var 0), .one (.var 1), .one (.var 5)] [.agg 3] <|
   .call F.rat_made [.one (.var 3), .one (.var 4), .one (.var 2)] [.agg 3] <|
   .prim (.beq true) [.var 10, .var 13] <|
   .call F.nat_Mul [.one (.var 11), .one (.var 14)] [.one] <|
   .call F.nat_Mul [.one (.var 12), .one (.var 15)] [.one] <|
   .ret [.agg [.var 16, .var 17, .var 18]]))

def ir_rat_Sum : IR :=
 .call F.rat_one [] [.one] <|
 .prim .len [.var 0] <|
 .loop [.var 0, .var 2, .int .i64 (0), .bol false, .nil, .var 1] (
  .prim (.bin .lss) [.var 2, .var 1] <|
  .ite (.var 6) (
   .prim (.inb 3) [.var 0, .var 2] <|
   .prim (.get 3 0) [.var 0, .var 2] <|
   .prim (.get 3 1) [.var 0, .var 2] <|
   .prim (.get 3 2) [.var 0, .var 2] <|
   .prim (.bin .eql) [.var 2, .int .i64 (0)] <|
   .ite (.var 11) (
    .call F.rat_Read [.agg [.var 8, .var 9, .var 10]] [.agg 3] <|
    .prim (.bin .add) [.var 2, .int .i64 (1)] <|
    .jump 0 [.var 0, .var 1, .var 15, .var 12, .var 13, .var 14]) (
    .call F.rat_plus [.agg [.var 3, .var 4, .var 5], .agg [.var 8, .var 9, .var 10]] [.agg 3] <|
    .prim (.bin .add) [.var 2, .int .i64 (1)] <|
    .jump 0 [.var 0, .var 1, .var 15, .var 12, .var 13, .var 14])) (
   .ret [.agg [.var 3, .var 4, .var 5]]))

def ir_rat_Product : IR :=
 .call F.rat_one [] [.one] <|
 .call F.rat_one [] [.one] <|
 .prim .len [.var 0] <|
 .loop [.var 0, .var 3, .int .i64 (0), .bol false, .var 1, .var 2] (
  .prim (.bin .lss) [.var 2, .var 1] <|
  .ite (.var 6) (
   .prim (.inb 3) [.var 0, .var 2] <|
   .prim (.get 3 0) [.var 0, .var 2] <|
   .prim (.get 3 1) [.var 0, .var 2] <|
   .prim (.get 3 2) [.var 0, .var 2] <|
   .call F.rat_Read [.agg [.var 8, .var 9, .var 10]] [.agg 3] <|
   .call F.rat_times [.agg [.var 3, .var 4, .var 5], .agg [.var 11, .var 12, .var 13]] [.agg 3] <|
   .prim (.bin .add) [.var 2, .int .i64 (1)] <|
   .jump 0 [.var 0, .var 1, .var 17, .var 14, .var 15, .var 16]) (
   .ret [.agg [.var 3, .var 4, .var 5]]))

def ir_rat_Read : IR :=
 .call F.rat_made [.one (.var 0), .one (.var 1), .one (.var 2)] [.agg 3] <|
 .ret [.agg [.var 3, .var 4, .var 5]]

def ir_rat_Floor : IR :=
 .call F.rat_Read [.agg [.var 0, .var 1, .var 2]] [.agg 3] <|
 .call F.nat_DivMod [.one (.var 4), .one (.var 5)] [.one, .one, .one] <|
 .ite (.var 3) (
  .prim .len [.var 7] <|
  .prim (.bin .gtr) [.var 9, .int .i64 (0)] <|
  .ite (.var 10) (
   .call F.rat_one [] [.one] <|
   .call F.nat_Add [.one (.var 6), .one (.var 11)] [.one] <|
   .call F.rat_one [] [.one] <|
   .call F.rat_made [.one (.var 3), .one (.var 12), .one (.var 13)] [.agg 3] <|
   .ret [.agg [.var 14, .var 15, .var 16]]) (
   .call F.rat_one [] [.one] <|
   .call F.rat_made [.one (.var 3), .one (.var 6), .one (.var 11)] [.agg 3] <|
   .ret [.agg [.var 12, .var 13, .var 14]])) (
  .call F.rat_one [] [.one] <|
  .call F.rat_made [.one (.var 3), .one (.var 6), .one (.var 9)] [.agg 3] <|
  .ret [.agg [.var 10, .var 11, .var 12]])

def ir_rat_Sub : IR :=
 .prim .not [.var 3] <|
 .call F.rat_plus [.agg [.var 0, .var 1, .var 2], .agg [.var 6, .var 4, .var 5]] [.agg 3] <|
 .ret [.agg [.var 7, .var 8, .var 9]]

def ir_rat_Sign : IR :=
 .call F.nat_Bits [.one (.var 1)] [.one] <|
 .prim (.bin .eql) [.var 3, .int .i64 (0)] <|
 .ite (.var 4) (
  .ret [.one (.int .i64 (0))]) (
  .call F.nat_Bits [.one (.var 2)] [.one] <|
  .prim (.bin .eql) [.var 5, .int .i64 (0)] <|
  .ite (.var 6) (
   .ret [.one (.int .i64 (0))]) (
   .ite (.var 0) (
    .ret [.one (.int .i64 (-1))]) (
    .ret [.one (.int .i64 (1))])))

def ir_rat_Neg : IR :=
 .prim .not [.var 0] <|
 .call F.rat_made [.one (.var 3), .one (.var 1), .one (.var 2)] [.agg 3] <|
 .ret [.agg [.var 4, .var 5, .var 6]]

def ir_rat_Div : IR :=
 .call F.rat_Sign [.agg [.var 3, .var 4, .var 5]] [.one] <|
 .prim (.bin .eql) [.var 6, .int .i64 (0)] <|
 .ite (.var 7) (
  .call F.rat_one [] [.one] <|
  .ret [.agg [.bol false, .nil, .var 8], .one (.bol false)]) (
  .call F.rat_Read [.agg [.var 0, .var 1, .var 2]] [.agg 3] <|
  .call F.rat_Read [.agg [.var 3, .var 5, .var 4]] [.agg 3] <|
  .call F.rat_times [.agg [.var 8, .var 9, .var 10], .agg [.var 11, .var 12, .var 13]] [.agg 3] <|
  .ret [.agg [.var 14, .var 15, .var 16], .one (.bol true)])

def ir_rat_Cmp : IR :=
 .call F.rat_Sign [.agg [.var 0, .var 1, .var 2]] [.one] <|
 .call F.rat_Sign [.agg [.var 3, .var 4, .var 5]] [.one] <|
 .prim (.bin .neq) [.var 6, .var 7] <|
 .ite (.var 8) (
  .prim (.bin .lss) [.var 6, .var 7] <|
  .ite (.var 9) (
   .ret [.one (.int .i64 (-1))]) (
   .ret [.one (.int .i64 (1))])) (
  .call F.nat_Mul [.one (.var 1), .one (.var 5)] [.one] <|
  .call F.nat_Mul [.one (.var 4), .one (.var 2)] [.one] <|
  .call F.nat_Cmp [.one (.var 9), .one (.var 10)] [.one] <|
  .prim (.bin .mul) [.var 6, .var 11] <|
  .ret [.one (.var 12)])

def ir_rat_Of : IR :=
 .prim (.bin .lss) [.var 0, .int .i64 (0)] <|
 .prim (.bin .lss) [.var 1, .int .i64 (0)] <|
 .prim (.beq true) [.var 2, .var 3] <|
 .call F.rat_size [.one (.var 0)] [.one] <|
 .call F.rat_size [.one (.var 1)] [.one] <|
 .call F.rat_made [.one (.var 4), .one (.var 5), .one (.var 6)] [.agg 3] <|
 .ret [.agg [.var 7, .var 8, .var 9]]

def ir_rat_Same : IR :=
 .call F.rat_Cmp [.agg [.var 0, .var 1, .var 2], .agg [.var 3, .var 4, .var 5]] [.one] <|
 .prim (.bin .eql) [.var 6, .int .i64 (0)] <|
 .ret [.one (.var 7)]

def ir_rat_Abs : IR :=
 .call F.rat_made [.one (.bol false), .one (.var 1), .one (.var 2)] [.agg 3] <|
 .ret [.agg [.var 3, .var 4, .var 5]]

def ir_rat_whole : IR :=
 .call F.nat_Bits [.one (.var 2)] [.one] <|
 .prim (.bin .eql) [.var 3, .int .i64 (0)] <|
 .ite (.var 4) (
  .call F.rat_one [] [.one] <|
  .ret [.agg [.bol false, .nil, .var 5]]) (
  .ret [.agg [.var 0, .var 1, .var 2]])

def ir_rat_size : IR :=
 .prim (.bin .lss) [.var 0, .int .i64 (0)] <|
 .ite (.var 1) (
  .prim (.conv .u64) [.var 0] <|
  .prim .neg [.var 2] <|
  .call F.nat_Of [.one (.var 3)] [.one] <|
  .ret [.one (.var 4)]) (
  .prim (.conv .u64) [.var 0] <|
  .call F.nat_Of [.one (.var 2)] [.one] <|
  .ret [.one (.var 3)])

def ir_rat_one : IR :=
 .prim (.mk 1) [.int .u32 (1)] <|
 .ret [.one (.var 0)]

def ir_penumbraref03_Is : IR :=
 .prim (.beq false) [.var 0, .var 3] <|
 .ite (.var 6) (
  .call F.penumbraref01_Same [.one (.var 1), .one (.var 4)] [.one] <|
  .ite (.var 7) (
   .call F.penumbraref01_Same [.one (.var 2), .one (.var 5)] [.one] <|
   .ret [.one (.var 8)]) (
   .ret [.one (.bol false)])) (
  .ret [.one (.bol false)])

def ir_penumbraref03_Abs : IR :=
 .call F.penumbraref03_Read [.agg [.bol false, .var 1, .var 2]] [.agg 3] <|
 .ret [.agg [.var 3, .var 4, .var 5]]

def ir_penumbraref03_Div : IR :=
 .call F.penumbraref03_Sign [.agg [.var 3, .var 4, .var 5]] [.one] <|
 .prim (.bin .eql) [.var 6, .int .i64 (0)] <|
 .ite (.var 7) (
  .call F.penumbraref03_Zero [] [.agg 3] <|
  .ret [.agg [.var 8, .var 9, .var 10], .one (.bol false)]) (
  .call F.penumbraref03_Mul [.agg [.var 0, .var 1, .var 2], .agg [.var 3, .var 5, .var 4]] [.agg 3] <|
  .ret [.agg [.var 8, .var 9, .var 10], .one (.bol true)])

def ir_penumbraref03_Add : IR :=
 .call F.penumbraref03_Sign [.agg [.var 0, .var 1, .var 2]] [.one] <|
 .prim (.bin .eql) [.var 6, .int .i64 (0)] <|
 .ite (.var 7) (
  .call F.penumbraref03_Read [.agg [.var 3, .var 4, .var 5]] [.agg 3] <|
  .ret [.agg [.var 8, .var 9, .var 10]]) (
  .call F.penumbraref03_Sign [.agg [.var 3, .var 4, .var 5]] [.one] <|
  .prim (.bin .eql) [.var 8, .int .i64 (0)] <|
  .ite (.var 9) (
   .call F.penumbraref03_Read [.agg [.var 0, .var 1, .var 2]] [.agg 3] <|
   .ret [.agg [.var 10, .var 11, .var 12]]) (
   .call F.penumbraref01_Mul [.one (.var 1), .one (.var 5)] [.one] <|
   .call F.penumbraref01_Mul [.one (.var 4), .one (.var 2)] [.one] <|
   .call F.penumbraref01_Mul [.one (.var 2), .one (.var 5)] [.one] <|
   .prim (.beq false) [.var 0, .var 3] <|
   .ite (.var 13) (
    .call F.penumbraref01_Add [.one (.var 10), .one (.var 11)] [.one] <|
    .call F.penumbraref03_Read [.agg [.var 0, .var 14, .var 12]] [.agg 3] <|
    .ret [.agg [.var 15, .var 16, .var 17]]) (
    .call F.penumbraref01_Cmp [.one (.var 10), .one (.var 11)] [.one] <|
    .prim (.bin .geq) [.var 14, .int .i64 (0)] <|
    .ite (.var 15) (
     .call F.penumbraref01_Sub [.one (.var 10), .one (.var 11)] [.one, .one] <|
     .call F.penumbraref03_Read [.agg [.var 0, .var 16, .var 12]] [.agg 3] <|
     .ret [.agg [.var 18, .var 19, .var 20]]) (
     .call F.penumbraref01_Sub [.one (.var 11), .one (.var 10)] [.one, .one] <|
     .call F.penumbraref03_Read [.agg [.var 3, .var 16, .var 12]] [.agg 3] <|
     .ret [.agg [.var 18, .var 19, .var 20]]))))

def ir_penumbraref03_Sub : IR :=
 .call F.penumbraref03_Neg [.agg [.var 3, .var 4, .var 5]] [.agg 3] <|
 .call F.penumbraref03_Add [.agg [.var 0, .var 1, .var 2], .agg [.var 6, .var 7, .var 8]] [.agg 3] <|
 .ret [.agg [.var 9, .var 10, .var 11]]

def ir_penumbraref03_Mul : IR :=
 .prim (.beq true) [.var 0, .var 3] <|
 .call F.penumbraref01_Mul [.one (.var 1), .one (.var 4)] [.one] <|
 .call F.penumbraref01_Mul [.one (.var 2), .one (.var 5)] [.one] <|
 .call F.penumbraref03_Read [.agg [.var 6, .var 7, .var 8]] [.agg 3] <|
 .ret [.agg [.var 9, .var 10, .var 11]]

def ir_penumbraref03_Cmp : IR :=
 .call F.penumbraref03_Sub [.agg [.var 0, .var 1, .var 2], .agg [.var 3, .var 4, .var 5]] [.agg 3] <|
 .call F.penumbraref03_Sign [.agg [.var 6, .var 7, .var 8]] [.one] <|
 .ret [.one (.var 9)]

def ir_penumbraref03_Read : IR :=
 .call F.penumbraref01_Zero [.one (.var 2)] [.one] <|
 .ite (.var 3) (
  .call F.penumbraref03_Zero [] [.agg 3] <|
  .ret [.agg [.var 4, .var 5, .var 6]]) (
  .call F.penumbraref01_Zero [.one (.var 1)] [.one] <|
  .ite (.var 4) (
   .call F.penumbraref03_Zero [] [.agg 3] <|
   .ret [.agg [.var 5, .var 6, .var 7]]) (
   .call F.penumbraref02_Gcd [.one (.var 1), .one (.var 2)] [.one] <|
   .call F.penumbraref01_DivMod [.one (.var 1), .one (.var 5)] [.one, .one, .one] <|
   .call F.penumbraref01_DivMod [.one (.var 2), .one (.var 5)] [.one, .one, .one] <|
   .ret [.agg [.var 0, .var 6, .var 9]]))

def ir_penumbraref03_Sign : IR :=
 .call F.penumbraref01_Zero [.one (.var 1)] [.one] <|
 .ite (.var 3) (
  .ret [.one (.int .i64 (0))]) (
  .call F.penumbraref01_Zero [.one (.var 2)] [.one] <|
  .ite (.var 4) (
   .ret [.one (.int .i64 (0))]) (
   .ite (.var 0) (
    .ret [.one (.int .i64 (-1))]) (
    .ret [.one (.int .i64 (1))])))

def ir_penumbraref03_Neg : IR :=
 .prim .not [.var 0] <|
 .call F.penumbraref03_Read [.agg [.var 3, .var 1, .var 2]] [.agg 3] <|
 .ret [.agg [.var 4, .var 5, .var 6]]

def ir_penumbraref03_Of : IR :=
 .prim (.bin .lss) [.var 0, .int .i64 (0)] <|
 .ite (.var 2) (
  .prim (.bin .geq) [.var 1, .int .i64 (0)] <|
  .ite (.var 3) (
   .call F.penumbraref03_abs [.one (.var 0)] [.one] <|
   .call F.penumbraref03_abs [.one (.var 1)] [.one] <|
   .call F.penumbraref03_Read [.agg [.bol true, .var 4, .var 5]] [.agg 3] <|
   .ret [.agg [.var 6, .var 7, .var 8]]) (
   .prim (.bin .geq) [.var 0, .int .i64 (0)] <|
   .ite (.var 4) (
    .prim (.bin .lss) [.var 1, .int .i64 (0)] <|
    .call F.penumbraref03_abs [.one (.var 0)] [.one] <|
    .call F.penumbraref03_abs [.one (.var 1)] [.one] <|
    .call F.penumbraref03_Read [.agg [.var 5, .var 6, .var 7]] [.agg 3] <|
    .ret [.agg [.var 8, .var 9, .var 10]]) (
    .call F.penumbraref03_abs [.one (.var 0)] [.one] <|
    .call F.penumbraref03_abs [.one (.var 1)] [.one] <|
    .call F.penumbraref03_Read [.agg [.bol false, .var 5, .var 6]] [.agg 3] <|
    .ret [.agg [.var 7, .var 8, .var 9]]))) (
  .prim (.bin .geq) [.var 0, .int .i64 (0)] <|
  .ite (.var 3) (
   .prim (.bin .lss) [.var 1, .int .i64 (0)] <|
   .call F.penumbraref03_abs [.one (.var 0)] [.one] <|
   .call F.penumbraref03_abs [.one (.var 1)] [.one] <|
   .call F.penumbraref03_Read [.agg [.var 4, .var 5, .var 6]] [.agg 3] <|
   .ret [.agg [.var 7, .var 8, .var 9]]) (
   .call F.penumbraref03_abs [.one (.var 0)] [.one] <|
   .call F.penumbraref03_abs [.one (.var 1)] [.one] <|
   .call F.penumbraref03_Read [.agg [.bol false, .var 4, .var 5]] [.agg 3] <|
   .ret [.agg [.var 6, .var 7, .var 8]]))

def ir_penumbraref03_One : IR :=
 .prim (.mk 1) [.int .u32 (1)] <|
 .prim (.mk 1) [.int .u32 (1)] <|
 .ret [.agg [.bol false, .var 0, .var 1]]

def ir_penumbraref03_Zero : IR :=
 .prim (.mk 1) [.int .u32 (1)] <|
 .ret [.agg [.bol false, .nil, .var 0]]

def ir_penumbraref03_abs : IR :=
 .prim (.bin .lss) [.var 0, .int .i64 (0)] <|
 .ite (.var 1) (
  .prim (.bin .add) [.var 0, .int .i64 (1)] <|
  .prim .neg [.var 2] <|
  .prim (.conv .u64) [.var 3] <|
  .prim (.bin .add) [.var 4, .int .u64 (1)] <|
  .call F.penumbraref01_Of [.one (.var 5)] [.one] <|
  .ret [.one (.var 6)]) (
  .prim (.conv .u64) [.var 0] <|
  .call F.penumbraref01_Of [.one (.var 2)] [.one] <|
  .ret [.one (.var 3)])

def ir_penumbraref03_Over : IR :=
 .call F.penumbraref03_Div [.agg [.var 0, .var 1, .var 2], .agg [.var 3, .var 4, .var 5]] [.agg 3, .one] <|
 .ret [.agg [.var 6, .var 7, .var 8]]

def ir_vec_Of : IR :=
 .call F.rat_Of [.one (.var 0), .one (.int .i64 (1))] [.agg 3] <|
 .call F.rat_Of [.one (.var 1), .one (.int .i64 (1))] [.agg 3] <|
 .call F.rat_Of [.one (.var 2), .one (.int .i64 (1))] [.agg 3] <|
 .ret [.agg [.var 3, .var 4, .var 5, .var 6, .var 7, .var 8, .var 9, .var 10, .var 11]]

def ir_vec_Sum : IR :=
 .call F.vec_Of [.one (.int .i64 (0)), .one (.int .i64 (0)), .one (.int .i64 (0))] [.agg 9] <|
 .prim .len [.var 0] <|
 .loop [.var 0, .var 10, .int .i64 (0), .var 1, .var 2, .var 3, .var 4, .var 5, .var 6, .var 7, .var 8, .var 9] (
  .prim (.bin .lss) [.var 2, .var 1] <|
  .ite (.var 12) (
   .prim (.inb 9) [.var 0, .var 2] <|
   .prim (.get 9 0) [.var 0, .var 2] <|
   .prim (.get 9 1) [.var 0, .var 2] <|
   .prim (.get 9 2) [.var 0, .var 2] <|
   .prim (.get 9 3) [.var 0, .var 2] <|
   .prim (.get 9 4) [.var 0, .var 2] <|
   .prim (.get 9 5) [.var 0, .var 2] <|
   .prim (.get 9 6) [.var 0, .var 2] <|
   .prim (.get 9 7) [.var 0, .var 2] <|
   .prim (.get 9 8) [.var 0, .var 2] <|
   .prim (.mk 2) [.var 3, .var 4, .var 5, .var 14, .var 15, .var 16] <|
   .call F.rat_Sum [.one (.var 23)] [.agg 3] <|
   .prim (.mk 2) [.var 6, .var 7, .var 8, .var 17, .var 18, .var 19] <|
   .call F.rat_Sum [.one (.var 27)] [.agg 3] <|
   .prim (.mk 2) [.var 9, .var 10, .var 11, .var 20, .var 21, .var 22] <|
   .call F.rat_Sum [.one (.var 31)] [.agg 3] <|
   .prim (.bin .add) [.var 2, .int .i64 (1)] <|
   .jump 0 [.var 0, .var 1, .var 35, .var 24, .var 25, .var 26, .var 28, .var 29, .var 30, .var 32, .var 33, .var 34]) (
   .ret [.agg [.var 3, .var 4, .var 5, .var 6, .var 7, .var 8, .var 9, .var 10, .var 11]]))

def ir_penumbraref05_Of : IR :=
 .call F.penumbraref03_Of [.one (.var 0), .one (.int .i64 (1))] [.agg 3] <|
 .call F.penumbraref03_Of [.one (.var 1), .one (.int .i64 (1))] [.agg 3] <|
 .call F.penumbraref03_Of [.one (.var 2), .one (.int .i64 (1))] [.agg 3] <|
 .ret [.agg [.var 3, .var 4, .var 5, .var 6, .var 7, .var 8, .var 9, .var 10, .var 11]]

def ir_nat_Shl : IR :=
 .prim (.bin .lss) [.var 1, .int .i64 (0)] <|
 .ite (.var 2) (
  .ret [.own 1 TU32 (.nil), .one (.bol false)]) (
  .prim (.bin .gtr) [.var 1, .int .i64 (65536)] <|
  .ite (.var 3) (
   .ret [.own 1 TU32 (.nil), .one (.bol false)]) (
   .prim (.bin .quo) [.var 1, .int .i64 (32)] <|
   .prim (.make 4) [.var 4, .var 4, .int .u32 (0)] <|
   .call F.nat_trim [.one (.var 0)] [.one] <|
   .prim .len [.var 6] <|
   .loop [.var 1, .int .u32 (0), .var 6, .var 7, .int .i64 (0), .var 5] (
    .prim (.bin .lss) [.var 4, .var 3] <|
    .ite (.var 6) (
     .prim (.inb 1) [.var 2, .var 4] <|
     .prim (.get 1 0) [.var 2, .var 4] <|
     .prim (.bin .rem) [.var 0, .int .i64 (32)] <|
     .prim (.bin .shl) [.var 8, .var 9] <|
     .prim (.bin .or) [.var 10, .var 1] <|
     .prim (.mk 1) [.var 11] <|
     .prim (.app 1 4) [.var 5, .var 12] <|
     .prim (.conv .u64) [.var 8] <|
     .prim (.bin .rem) [.var 0, .int .i64 (32)] <|
     .prim (.bin .sub) [.int .i64 (32), .var 15] <|
     .prim (.bin .shr) [.var 14, .var 16] <|
     .prim (.conv .u32) [.var 17] <|
     .prim (.bin .add) [.var 4, .int .i64 (1)] <|
     .jump 0 [.var 0, .var 18, .var 2, .var 3, .var 19, .var 13]) (
     .prim (.mk 1) [.var 1] <|
     .prim (.app 1 4) [.var 5, .var 7] <|
     .prim .len [.var 8] <|
     .loop [.var 9, .var 0, .var 1, .var 8] (
      .prim (.bin .gtr) [.var 0, .int .i64 (0)] <|
      .ite (.var 4) (
       .prim (.bin .sub) [.var 0, .int .i64 (1)] <|
       .prim (.inb 1) [.var 3, .var 5] <|
       .prim (.get 1 0) [.var 3, .var 5] <|
       .prim (.bin .eql) [.var 7, .int .u32 (0)] <|
       .ite (.var 8) (
        .prim (.bin .sub) [.var 0, .int .i64 (1)] <|
        .jump 1 [.var 9, .var 1, .var 2, .var 3]) (
        .prim (.slc 1) [.var 3, .int .i64 (0), .var 0] <|
        .ret [.own 1 TU32 (.var 9), .one (.bol true)])) (
       .prim (.slc 1) [.var 3, .int .i64 (0), .var 0] <|
       .ret [.own 1 TU32 (.var 5), .one (.bol true)]))))))

def ir_nat_long : IR :=
 .prim .len [.var 1] <|
 .prim (.bin .sub) [.var 2, .int .i64 (1)] <|
 .prim (.inb 1) [.var 1, .var 3] <|
 .prim (.get 1 0) [.var 1, .var 3] <|
 .call F.math_bits_LeadingZeros32 [.one (.var 5)] [.one] <|
 .call F.nat_Shl [.one (.var 1), .one (.var 6)] [.own 1 TU32, .one] <|
 .call F.nat_Shl [.one (.var 0), .one (.var 6)] [.own 1 TU32, .one] <|
 .prim .len [.var 7] <|
 .loop [.var 0, .var 6, .var 11, .var 7, .var 9] (
  .prim .len [.var 4] <|
  .prim .len [.var 0] <|
  .prim (.bin .leq) [.var 5, .var 6] <|
  .ite (.var 7) (
   .prim (.mk 1) [.int .u32 (0)] <|
   .prim (.app 1 4) [.var 4, .var 8] <|
   .jump 0 [.var 0, .var 1, .var 2, .var 3, .var 9]) (
   .prim .len [.var 4] <|
   .prim (.bin .sub) [.var 8, .var 2] <|
   .prim (.make 4) [.var 9, .var 9, .int .u32 (0)] <|
   .prim .len [.var 4] <|
   .prim (.bin .sub) [.var 11, .var 2] <|
   .prim (.bin .sub) [.var 12, .int .i64 (1)] <|
   .loop [.var 1, .var 2, .var 13, .var 3, .var 4, .var 10] (
    .prim (.bin .geq) [.var 2, .int .i64 (0)] <|
    .ite (.var 6) (
     .prim (.bin .add) [.var 2, .var 1] <|
     .prim (.inb 1) [.var 4, .var 7] <|
     .prim (.get 1 0) [.var 4, .var 7] <|
     .prim (.conv .u64) [.var 9] <|
     .prim (.bin .shl) [.var 10, .int .u64 (32)] <|
     .prim (.bin .add) [.var 2, .var 1] <|
     .prim (.bin .sub) [.var 12, .int .i64 (1)] <|
     .prim (.inb 1) [.var 4, .var 13] <|
     .prim (.get 1 0) [.var 4, .var 13] <|
     .prim (.conv .u64) [.var 15] <|
     .prim (.bin .or) [.var 11, .var 16] <|
     .prim (.bin .sub) [.var 1, .int .i64 (1)] <|
     .prim (.inb 1) [.var 3, .var 18] <|
     .prim (.get 1 0) [.var 3, .var 18] <|
     .prim (.conv .u64) [.var 20] <|
     .prim (.bin .quo) [.var 17, .var 21] <|
     .prim (.bin .sub) [.var 1, .int .i64 (1)] <|
     .prim (.inb 1) [.var 3, .var 23] <|
     .prim (.get 1 0) [.var 3, .var 23] <|
     .prim (.conv .u64) [.var 25] <|
     .prim (.bin .rem) [.var 17, .var 26] <|
     .join (
      .loop [.var 0, .var 1, .var 2, .var 22, .var 27, .var 3, .var 4, .var 5] (
       .prim (.bin .geq) [.var 3, .int .u64 (4294967296)] <|
       .ite (.var 8) (
        .prim (.bin .sub) [.var 3, .int .u64 (1)] <|
        .prim (.bin .sub) [.var 1, .int .i64 (1)] <|
        .prim (.inb 1) [.var 5, .var 10] <|
        .prim (.get 1 0) [.var 5, .var 10] <|
        .prim (.conv .u64) [.var 12] <|
        .prim (.bin .add) [.var 4, .var 13] <|
        .prim (.bin .geq) [.var 14, .int .u64 (4294967296)] <|
        .ite (.var 15) (
         .jump 2 [.var 0, .var 1, .var 2, .var 9, .var 5, .var 6, .var 7]) (
         .jump 3 [.var 0, .var 1, .var 2, .var 9, .var 14, .var 5, .var 6, .var 7])) (
        .prim (.bin .lss) [.var 4, .int .u64 (4294967296)] <|
        .ite (.var 9) (
         .prim (.bin .sub) [.var 1, .int .i64 (2)] <|
         .prim (.inb 1) [.var 5, .var 10] <|
         .prim (.get 1 0) [.var 5, .var 10] <|
         .prim (.conv .u64) [.var 12] <|
         .prim (.bin .mul) [.var 3, .var 13] <|
         .prim (.bin .shl) [.var 4, .int .u64 (32)] <|
         .prim (.bin .add) [.var 2, .var 1] <|
         .prim (.bin .sub) [.var 16, .int .i64 (2)] <|
         .prim (.inb 1) [.var 6, .var 17] <|
         .prim (.get 1 0) [.var 6, .var 17] <|
         .prim (.conv .u64) [.var 19] <|
         .prim (.bin .or) [.var 15, .var 20] <|
         .prim (.bin .gtr) [.var 14, .var 21] <|
         .ite (.var 22) (
          .prim (.bin .sub) [.var 3, .int .u64 (1)] <|
          .prim (.bin .sub) [.var 1, .int .i64 (1)] <|
          .prim (.inb 1) [.var 5, .var 24] <|
          .prim (.get 1 0) [.var 5, .var 24] <|
          .prim (.conv .u64) [.var 26] <|
          .prim (.bin .add) [.var 4, .var 27] <|
          .prim (.bin .geq) [.var 28, .int .u64 (4294967296)] <|
          .ite (.var 29) (
           .jump 2 [.var 0, .var 1, .var 2, .var 23, .var 5, .var 6, .var 7]) (
           .jump 3 [.var 0, .var 1, .var 2, .var 23, .var 28, .var 5, .var 6, .var 7])) (
          .jump 2 [.var 0, .var 1, .var 2, .var 3, .var 5, .var 6, .var 7])) (
         .jump 2 [.var 0, .var 1, .var 2, .var 3, .var 5, .var 6, .var 7])))) (
      .join (
       .prim (.bin .add) [.var 2, .var 1] <|
       .prim (.bin .add) [.var 7, .int .i64 (1)] <|
       .prim (.cut 1) [.var 5, .var 2, .var 8] <|
       .prim .len [.var 4] <|
       .loop [.var 2, .var 9, .var 3, .int .u64 (0), .int .u32 (0), .var 10, .int .i64 (0), .var 0, .var 1, .var 5, .var 4, .var 6] (
        .prim (.bin .lss) [.var 6, .var 5] <|
        .ite (.var 12) (
         .prim (.inb 1) [.var 10, .var 6] <|
         .prim (.get 1 0) [.var 10, .var 6] <|
         .prim (.conv .u64) [.var 14] <|
         .prim (.bin .mul) [.var 2, .var 15] <|
         .prim (.bin .add) [.var 16, .var 3] <|
         .prim (.bin .shr) [.var 17, .int .u64 (32)] <|
         .prim .lt0 [.var 6, .var 1] <|
         .prim .sum [.var 0, .var 6] <|
         .prim (.get 1 0) [.var 9, .var 20] <|
         .prim (.conv .u32) [.var 17] <|
         .call F.math_bits_Sub32 [.one (.var 21), .one (.var 22), .one (.var 4)] [.one, .one] <|
         .prim .lt0 [.var 6, .var 1] <|
         .prim .sum [.var 0, .var 6] <|
         .prim (.setl 1 0) [.var 9, .var 26, .var 23] <|
         .prim (.bin .add) [.var 6, .int .i64 (1)] <|
         .jump 3 [.var 0, .var 1, .var 2, .var 18, .var 24, .var 5, .var 28, .var 7, .var 8, .var 27, .var 10, .var 11]) (
         .prim .len [.var 10] <|
         .prim .len [.var 10] <|
         .prim .lt0 [.var 14, .var 1] <|
         .prim .sum [.var 0, .var 14] <|
         .prim (.get 1 0) [.var 9, .var 16] <|
         .prim (.conv .u32) [.var 3] <|
         .call F.math_bits_Sub32 [.one (.var 17), .one (.var 18), .one (.var 4)] [.one, .one] <|
         .prim .lt0 [.var 13, .var 1] <|
         .prim .sum [.var 0, .var 13] <|
         .prim (.setl 1 0) [.var 9, .var 22, .var 19] <|
         .prim (.bin .neq) [.var 20, .int .u32 (0)] <|
         .ite (.var 24) (
          .prim (.bin .sub) [.var 2, .int .u64 (1)] <|
          .prim (.bin .add) [.var 0, .var 8] <|
          .prim (.bin .add) [.var 26, .int .i64 (1)] <|
          .prim (.cut 1) [.var 23, .var 0, .var 27] <|
          .prim .len [.var 10] <|
          .loop [.var 0, .var 28, .int .u32 (0), .var 29, .int .i64 (0), .var 7, .var 8, .var 25, .var 23, .var 10, .var 11] (
           .prim (.bin .lss) [.var 4, .var 3] <|
           .ite (.var 11) (
            .prim (.inb 1) [.var 9, .var 4] <|
            .prim (.get 1 0) [.var 9, .var 4] <|
            .prim .lt0 [.var 4, .var 1] <|
            .prim .sum [.var 0, .var 4] <|
            .prim (.get 1 0) [.var 8, .var 15] <|
            .call F.math_bits_Add32 [.one (.var 16), .one (.var 13), .one (.var 2)] [.one, .one] <|
            .prim .lt0 [.var 4, .var 1] <|
            .prim .sum [.var 0, .var 4] <|
            .prim (.setl 1 0) [.var 8, .var 20, .var 17] <|
            .prim (.bin .add) [.var 4, .int .i64 (1)] <|
            .jump 4 [.var 0, .var 1, .var 18, .var 3, .var 22, .var 5, .var 6, .var 7, .var 21, .var 9, .var 10]) (
            .prim .len [.var 9] <|
            .prim .lt0 [.var 12, .var 1] <|
            .prim .sum [.var 0, .var 12] <|
            .prim (.get 1 0) [.var 8, .var 14] <|
            .prim (.bin .add) [.var 15, .var 2] <|
            .prim .lt0 [.var 12, .var 1] <|
            .prim .sum [.var 0, .var 12] <|
            .prim (.setl 1 0) [.var 8, .var 18, .var 16] <|
            .jump 2 [.var 5, .var 6, .var 0, .var 7, .var 9, .var 19, .var 10]))) (
          .jump 2 [.var 7, .var 8, .var 0, .var 2, .var 10, .var 23, .var 11])))) (
       .prim (.conv .u32) [.var 3] <|
       .prim (.inb 1) [.var 6, .var 2] <|
       .prim (.setl 1 0) [.var 6, .var 2, .var 7] <|
       .prim (.bin .sub) [.var 2, .int .i64 (1)] <|
       .jump 1 [.var 0, .var 1, .var 10, .var 4, .var 5, .var 9]))) (
     .call F.nat_trim [.one (.var 5)] [.one] <|
     .prim (.slc 1) [.var 4, .int .i64 (0), .var 1] <|
     .call F.nat_shr [.one (.var 8), .one (.var 0)] [.one] <|
     .ret [.one (.var 7), .one (.var 9)]))))

end Go.Px

/- QWarpTells: whatever the numbers, the law tells true. -/
import Derived.Test.YtadaibgdeojlmaaXWarpTells
set_option maxRecDepth 20000
set_option maxHeartbeats 40000000
set_option linter.unusedVariables false
set_option linter.unusedSimpArgs false
namespace Go.Px.Na
open Go.RowKit
open Go.Proofs.Try (prog)

theorem WarpTells_al11 {Z0 Z1 : Rat} (Y0 : Z0 = (0 : Rat)) (Y1 : Z1 = (1 : Rat)) {q9 q7 x0 q1 x1 : Rat} (e7 : q7 = ((x0 + x0) - Z1)) (e9 : q9 = (Z1 - (-q7))) (e1 : q1 = (x0 + x1)) (c2 : Z1 < q1) (c5 : Z0 < x0) (c6 : x0 < Z1) (c8 : q7 < Z0) : ¬(q9 = Z0) := by
  subst Y0 Y1 e7 e9 e1
  first | grind | (have hx : x1 = 0 := (by grind); subst hx; grind) | (have hx : x0 = 1 := (by grind); subst hx; grind)

theorem WarpTells_al14 {Z1 Z2 : Rat} (Y1 : Z1 = (1 : Rat)) (Y2 : Z2 = (2 : Rat)) {q7 x0 : Rat} (e7 : q7 = ((x0 + x0) - Z1)) : q7 = ((Z2 * x0) - Z1) := by
  subst Y1 Y2 e7
  first | grind | (have hx : x1 = 0 := (by grind); subst hx; grind) | (have hx : x0 = 1 := (by grind); subst hx; grind)

theorem WarpTells_al16 {Z0 Z1 : Rat} (Y0 : Z0 = (0 : Rat)) (Y1 : Z1 = (1 : Rat)) {q12 q7 x0 q9 : Rat} (e7 : q7 = ((x0 + x0) - Z1)) (e9 : q9 = (Z1 - (-q7))) (d12 : q12 * q9 = q7) (c10 : ¬q9 = Z0) : q12 = (q7 / (Z1 - (-q7))) := by
  subst Y0 Y1 e7 e9
  first | grind | (have hx : x1 = 0 := (by grind); subst hx; grind) | (have hx : x0 = 1 := (by grind); subst hx; grind)

theorem WarpTells_al24 {Z0 Z1 : Rat} (Y0 : Z0 = (0 : Rat)) (Y1 : Z1 = (1 : Rat)) {x1 q1 x0 q7 q9 : Rat} (e1 : q1 = (x0 + x1)) (e7 : q7 = ((x0 + x0) - Z1)) (e9 : q9 = (Z1 - (-q7))) (c2 : Z1 < q1) (c5 : Z0 < x0) (c6 : x0 < Z1) (c8 : q7 < Z0) (c10 : ¬q9 = Z0) : ¬(x1 < Z0) := by
  subst Y0 Y1 e1 e7 e9
  first | grind | (have hx : x1 = 0 := (by grind); subst hx; grind) | (have hx : x0 = 1 := (by grind); subst hx; grind)

theorem WarpTells_al30 {Z0 Z1 : Rat} (Y0 : Z0 = (0 : Rat)) (Y1 : Z1 = (1 : Rat)) {q27 x1 q25 : Rat} (e25 : q25 = (Z1 + x1)) (d27 : q27 * q25 = x1) (c26 : ¬q25 = Z0) : q27 = (x1 / (Z1 + x1)) := by
  subst Y0 Y1 e25
  first | grind | (have hx : x1 = 0 := (by grind); subst hx; grind) | (have hx : x0 = 1 := (by grind); subst hx; grind)

theorem WarpTells_al32 {Z0 Z1_2 Z1 Z2 : Rat} (Y0 : Z0 = (0 : Rat)) (Y1_2 : Z1_2 = (1/2 : Rat)) (Y1 : Z1 = (1 : Rat)) (Y2 : Z2 = (2 : Rat)) {q28 q27 x1 q25 : Rat} (e25 : q25 = (Z1 + x1)) (d27 : q27 * q25 = x1) (e28 : q28 = (Z1_2 * (Z1 + q27))) (c26 : ¬q25 = Z0) : q28 = ((Z1 + q27) / Z2) := by
  subst Y0 Y1_2 Y1 Y2 e25 e28
  first | grind | (have hx : x1 = 0 := (by grind); subst hx; grind) | (have hx : x0 = 1 := (by grind); subst hx; grind)

theorem WarpTells_al41 {Z0 Z1_2 Z1 Z2 : Rat} (Y0 : Z0 = (0 : Rat)) (Y1_2 : Z1_2 = (1/2 : Rat)) (Y1 : Z1 = (1 : Rat)) (Y2 : Z2 = (2 : Rat)) {q39 q37 x1 : Rat} (e37 : q37 = ((Z1 + x1) * (Z1 + x1))) (d39 : q39 * q37 = Z1_2) (c38 : ¬q37 = Z0) : q39 = (Z1 / (Z2 * ((Z1 + x1) * (Z1 + x1)))) := by
  subst Y0 Y1_2 Y1 Y2 e37
  first | grind | (have hx : x1 = 0 := (by grind); subst hx; grind) | (have hx : x0 = 1 := (by grind); subst hx; grind)

theorem WarpTells_al46 {Z0 Z1 : Rat} (Y0 : Z0 = (0 : Rat)) (Y1 : Z1 = (1 : Rat)) {q44 q7 x0 q1 x1 : Rat} (e7 : q7 = ((x0 + x0) - Z1)) (e44 : q44 = (Z1 - q7)) (e1 : q1 = (x0 + x1)) (c2 : Z1 < q1) (c5 : Z0 < x0) (c6 : x0 < Z1) (c8 : ¬q7 < Z0) : ¬(q44 = Z0) := by
  subst Y0 Y1 e7 e44 e1
  first | grind | (have hx : x1 = 0 := (by grind); subst hx; grind) | (have hx : x0 = 1 := (by grind); subst hx; grind)

theorem WarpTells_al49 {Z1 Z2 : Rat} (Y1 : Z1 = (1 : Rat)) (Y2 : Z2 = (2 : Rat)) {q7 x0 : Rat} (e7 : q7 = ((x0 + x0) - Z1)) : q7 = ((Z2 * x0) - Z1) := by
  subst Y1 Y2 e7
  first | grind | (have hx : x1 = 0 := (by grind); subst hx; grind) | (have hx : x0 = 1 := (by grind); subst hx; grind)

theorem WarpTells_al51 {Z0 Z1 : Rat} (Y0 : Z0 = (0 : Rat)) (Y1 : Z1 = (1 : Rat)) {q47 q7 x0 q44 : Rat} (e7 : q7 = ((x0 + x0) - Z1)) (e44 : q44 = (Z1 - q7)) (d47 : q47 * q44 = q7) (c45 : ¬q44 = Z0) : q47 = (q7 / (Z1 - q7)) := by
  subst Y0 Y1 e7 e44
  first | grind | (have hx : x1 = 0 := (by grind); subst hx; grind) | (have hx : x0 = 1 := (by grind); subst hx; grind)

theorem WarpTells_al59 {Z0 Z1 : Rat} (Y0 : Z0 = (0 : Rat)) (Y1 : Z1 = (1 : Rat)) {x1 q1 x0 q7 q44 : Rat} (e1 : q1 = (x0 + x1)) (e7 : q7 = ((x0 + x0) - Z1)) (e44 : q44 = (Z1 - q7)) (c2 : Z1 < q1) (c5 : Z0 < x0) (c6 : x0 < Z1) (c8 : ¬q7 < Z0) (c45 : ¬q44 = Z0) : ¬(x1 < Z0) := by
  subst Y0 Y1 e1 e7 e44
  first | grind | (have hx : x1 = 0 := (by grind); subst hx; grind) | (have hx : x0 = 1 := (by grind); subst hx; grind)

theorem WarpTells_al65 {Z0 Z1 : Rat} (Y0 : Z0 = (0 : Rat)) (Y1 : Z1 = (1 : Rat)) {q62 x1 q60 : Rat} (e60 : q60 = (Z1 + x1)) (d62 : q62 * q60 = x1) (c61 : ¬q60 = Z0) : q62 = (x1 / (Z1 + x1)) := by
  subst Y0 Y1 e60
  first | grind | (have hx : x1 = 0 := (by grind); subst hx; grind) | (have hx : x0 = 1 := (by grind); subst hx; grind)

theorem WarpTells_al67 {Z0 Z1_2 Z1 Z2 : Rat} (Y0 : Z0 = (0 : Rat)) (Y1_2 : Z1_2 = (1/2 : Rat)) (Y1 : Z1 = (1 : Rat)) (Y2 : Z2 = (2 : Rat)) {q63 q62 x1 q60 : Rat} (e60 : q60 = (Z1 + x1)) (d62 : q62 * q60 = x1) (e63 : q63 = (Z1_2 * (Z1 + q62))) (c61 : ¬q60 = Z0) : q63 = ((Z1 + q62) / Z2) := by
  subst Y0 Y1_2 Y1 Y2 e60 e63
  first | grind | (have hx : x1 = 0 := (by grind); subst hx; grind) | (have hx : x0 = 1 := (by grind); subst hx; grind)

theorem WarpTells_al76 {Z0 Z1_2 Z1 Z2 : Rat} (Y0 : Z0 = (0 : Rat)) (Y1_2 : Z1_2 = (1/2 : Rat)) (Y1 : Z1 = (1 : Rat)) (Y2 : Z2 = (2 : Rat)) {q74 q72 x1 : Rat} (e72 : q72 = ((Z1 + x1) * (Z1 + x1))) (d74 : q74 * q72 = Z1_2) (c73 : ¬q72 = Z0) : q74 = (Z1 / (Z2 * ((Z1 + x1) * (Z1 + x1)))) := by
  subst Y0 Y1_2 Y1 Y2 e72
  first | grind | (have hx : x1 = 0 := (by grind); subst hx; grind) | (have hx : x0 = 1 := (by grind); subst hx; grind)

theorem WarpTells_al85 {Z1 : Rat} (Y1 : Z1 = (1 : Rat)) {q4 x1 : Rat} (e4 : q4 = (Z1 - x1)) : q4 = (Z1 + (-x1)) := by
  subst Y1 e4
  first | grind | (have hx : x1 = 0 := (by grind); subst hx; grind) | (have hx : x0 = 1 := (by grind); subst hx; grind)

theorem WarpTells_al87 {Z0 Z1 : Rat} (Y0 : Z0 = (0 : Rat)) (Y1 : Z1 = (1 : Rat)) {q4 x1 q1 x0 : Rat} (e4 : q4 = (Z1 - x1)) (e1 : q1 = (x0 + x1)) (c2 : Z1 < q1) (c5 : Z0 < x0) (c6 : ¬x0 < Z1) (c83 : x1 < Z0) : ¬(q4 = Z0) := by
  subst Y0 Y1 e4 e1
  first | grind | (have hx : x1 = 0 := (by grind); subst hx; grind) | (have hx : x0 = 1 := (by grind); subst hx; grind)

theorem WarpTells_al91 {Z0 Z1 : Rat} (Y0 : Z0 = (0 : Rat)) (Y1 : Z1 = (1 : Rat)) {q88 x1 q4 : Rat} (e4 : q4 = (Z1 - x1)) (d88 : q88 * q4 = x1) (c86 : ¬q4 = Z0) : q88 = (x1 / (Z1 + (-x1))) := by
  subst Y0 Y1 e4
  first | grind | (have hx : x1 = 0 := (by grind); subst hx; grind) | (have hx : x0 = 1 := (by grind); subst hx; grind)

theorem WarpTells_al93 {Z0 Z1_2 Z1 Z2 : Rat} (Y0 : Z0 = (0 : Rat)) (Y1_2 : Z1_2 = (1/2 : Rat)) (Y1 : Z1 = (1 : Rat)) (Y2 : Z2 = (2 : Rat)) {q89 q88 x1 q4 : Rat} (e4 : q4 = (Z1 - x1)) (d88 : q88 * q4 = x1) (e89 : q89 = (Z1_2 * (Z1 + q88))) (c86 : ¬q4 = Z0) : q89 = ((Z1 + q88) / Z2) := by
  subst Y0 Y1_2 Y1 Y2 e4 e89
  first | grind | (have hx : x1 = 0 := (by grind); subst hx; grind) | (have hx : x0 = 1 := (by grind); subst hx; grind)

theorem WarpTells_al101 {Z0 Z1_2 Z1 Z2 : Rat} (Y0 : Z0 = (0 : Rat)) (Y1_2 : Z1_2 = (1/2 : Rat)) (Y1 : Z1 = (1 : Rat)) (Y2 : Z2 = (2 : Rat)) {q99 q97 x1 : Rat} (e97 : q97 = ((Z1 + (-x1)) * (Z1 + (-x1)))) (d99 : q99 * q97 = Z1_2) (c98 : ¬q97 = Z0) : q99 = (Z1 / (Z2 * ((Z1 + (-x1)) * (Z1 + (-x1))))) := by
  subst Y0 Y1_2 Y1 Y2 e97
  first | grind | (have hx : x1 = 0 := (by grind); subst hx; grind) | (have hx : x0 = 1 := (by grind); subst hx; grind)

theorem WarpTells_al109 {Z0 Z1 : Rat} (Y0 : Z0 = (0 : Rat)) (Y1 : Z1 = (1 : Rat)) {q106 x1 q104 : Rat} (e104 : q104 = (Z1 + x1)) (d106 : q106 * q104 = x1) (c105 : ¬q104 = Z0) : q106 = (x1 / (Z1 + x1)) := by
  subst Y0 Y1 e104
  first | grind | (have hx : x1 = 0 := (by grind); subst hx; grind) | (have hx : x0 = 1 := (by grind); subst hx; grind)

theorem WarpTells_al111 {Z0 Z1_2 Z1 Z2 : Rat} (Y0 : Z0 = (0 : Rat)) (Y1_2 : Z1_2 = (1/2 : Rat)) (Y1 : Z1 = (1 : Rat)) (Y2 : Z2 = (2 : Rat)) {q107 q106 x1 q104 : Rat} (e104 : q104 = (Z1 + x1)) (d106 : q106 * q104 = x1) (e107 : q107 = (Z1_2 * (Z1 + q106))) (c105 : ¬q104 = Z0) : q107 = ((Z1 + q106) / Z2) := by
  subst Y0 Y1_2 Y1 Y2 e104 e107
  first | grind | (have hx : x1 = 0 := (by grind); subst hx; grind) | (have hx : x0 = 1 := (by grind); subst hx; grind)

theorem WarpTells_al120 {Z0 Z1_2 Z1 Z2 : Rat} (Y0 : Z0 = (0 : Rat)) (Y1_2 : Z1_2 = (1/2 : Rat)) (Y1 : Z1 = (1 : Rat)) (Y2 : Z2 = (2 : Rat)) {q118 q116 x1 : Rat} (e116 : q116 = ((Z1 + x1) * (Z1 + x1))) (d118 : q118 * q116 = Z1_2) (c117 : ¬q116 = Z0) : q118 = (Z1 / (Z2 * ((Z1 + x1) * (Z1 + x1)))) := by
  subst Y0 Y1_2 Y1 Y2 e116
  first | grind | (have hx : x1 = 0 := (by grind); subst hx; grind) | (have hx : x0 = 1 := (by grind); subst hx; grind)

theorem WarpTells_al128 {Z0 Z1 : Rat} (Y0 : Z0 = (0 : Rat)) (Y1 : Z1 = (1 : Rat)) {x1 q1 x0 : Rat} (e1 : q1 = (x0 + x1)) (c2 : Z1 < q1) (c5 : ¬Z0 < x0) : ¬(x1 < Z0) := by
  subst Y0 Y1 e1
  first | grind | (have hx : x1 = 0 := (by grind); subst hx; grind) | (have hx : x0 = 1 := (by grind); subst hx; grind)

theorem WarpTells_al134 {Z0 Z1 : Rat} (Y0 : Z0 = (0 : Rat)) (Y1 : Z1 = (1 : Rat)) {q131 x1 q129 : Rat} (e129 : q129 = (Z1 + x1)) (d131 : q131 * q129 = x1) (c130 : ¬q129 = Z0) : q131 = (x1 / (Z1 + x1)) := by
  subst Y0 Y1 e129
  first | grind | (have hx : x1 = 0 := (by grind); subst hx; grind) | (have hx : x0 = 1 := (by grind); subst hx; grind)

theorem WarpTells_al136 {Z0 Z1_2 Z1 Z2 : Rat} (Y0 : Z0 = (0 : Rat)) (Y1_2 : Z1_2 = (1/2 : Rat)) (Y1 : Z1 = (1 : Rat)) (Y2 : Z2 = (2 : Rat)) {q132 q131 x1 q129 : Rat} (e129 : q129 = (Z1 + x1)) (d131 : q131 * q129 = x1) (e132 : q132 = (Z1_2 * (Z1 + q131))) (c130 : ¬q129 = Z0) : q132 = ((Z1 + q131) / Z2) := by
  subst Y0 Y1_2 Y1 Y2 e129 e132
  first | grind | (have hx : x1 = 0 := (by grind); subst hx; grind) | (have hx : x0 = 1 := (by grind); subst hx; grind)

theorem WarpTells_al145 {Z0 Z1_2 Z1 Z2 : Rat} (Y0 : Z0 = (0 : Rat)) (Y1_2 : Z1_2 = (1/2 : Rat)) (Y1 : Z1 = (1 : Rat)) (Y2 : Z2 = (2 : Rat)) {q143 q141 x1 : Rat} (e141 : q141 = ((Z1 + x1) * (Z1 + x1))) (d143 : q143 * q141 = Z1_2) (c142 : ¬q141 = Z0) : q143 = (Z1 / (Z2 * ((Z1 + x1) * (Z1 + x1)))) := by
  subst Y0 Y1_2 Y1 Y2 e141
  first | grind | (have hx : x1 = 0 := (by grind); subst hx; grind) | (have hx : x0 = 1 := (by grind); subst hx; grind)

theorem WarpTells_al154 {Z0 Z1 : Rat} (Y0 : Z0 = (0 : Rat)) (Y1 : Z1 = (1 : Rat)) {q152 q150 x0 q1 x1 : Rat} (e150 : q150 = ((x0 + x0) - Z1)) (e152 : q152 = (Z1 - (-q150))) (e1 : q1 = (x0 + x1)) (c2 : ¬Z1 < q1) (c148 : Z0 < x0) (c149 : x0 < Z1) (c151 : q150 < Z0) : ¬(q152 = Z0) := by
  subst Y0 Y1 e150 e152 e1
  first | grind | (have hx : x1 = 0 := (by grind); subst hx; grind) | (have hx : x0 = 1 := (by grind); subst hx; grind)

theorem WarpTells_al157 {Z1 Z2 : Rat} (Y1 : Z1 = (1 : Rat)) (Y2 : Z2 = (2 : Rat)) {q150 x0 : Rat} (e150 : q150 = ((x0 + x0) - Z1)) : q150 = ((Z2 * x0) - Z1) := by
  subst Y1 Y2 e150
  first | grind | (have hx : x1 = 0 := (by grind); subst hx; grind) | (have hx : x0 = 1 := (by grind); subst hx; grind)

theorem WarpTells_al159 {Z0 Z1 : Rat} (Y0 : Z0 = (0 : Rat)) (Y1 : Z1 = (1 : Rat)) {q155 q150 x0 q152 : Rat} (e150 : q150 = ((x0 + x0) - Z1)) (e152 : q152 = (Z1 - (-q150))) (d155 : q155 * q152 = q150) (c153 : ¬q152 = Z0) : q155 = (q150 / (Z1 - (-q150))) := by
  subst Y0 Y1 e150 e152
  first | grind | (have hx : x1 = 0 := (by grind); subst hx; grind) | (have hx : x0 = 1 := (by grind); subst hx; grind)

theorem WarpTells_al172 {Z0 Z1 : Rat} (Y0 : Z0 = (0 : Rat)) (Y1 : Z1 = (1 : Rat)) {q169 x1 q167 : Rat} (e167 : q167 = (Z1 + (-x1))) (d169 : q169 * q167 = x1) (c168 : ¬q167 = Z0) : q169 = (x1 / (Z1 + (-x1))) := by
  subst Y0 Y1 e167
  first | grind | (have hx : x1 = 0 := (by grind); subst hx; grind) | (have hx : x0 = 1 := (by grind); subst hx; grind)

theorem WarpTells_al174 {Z0 Z1_2 Z1 Z2 : Rat} (Y0 : Z0 = (0 : Rat)) (Y1_2 : Z1_2 = (1/2 : Rat)) (Y1 : Z1 = (1 : Rat)) (Y2 : Z2 = (2 : Rat)) {q170 q169 x1 q167 : Rat} (e167 : q167 = (Z1 + (-x1))) (d169 : q169 * q167 = x1) (e170 : q170 = (Z1_2 * (Z1 + q169))) (c168 : ¬q167 = Z0) : q170 = ((Z1 + q169) / Z2) := by
  subst Y0 Y1_2 Y1 Y2 e167 e170
  first | grind | (have hx : x1 = 0 := (by grind); subst hx; grind) | (have hx : x0 = 1 := (by grind); subst hx; grind)

theorem WarpTells_al183 {Z0 Z1_2 Z1 Z2 : Rat} (Y0 : Z0 = (0 : Rat)) (Y1_2 : Z1_2 = (1/2 : Rat)) (Y1 : Z1 = (1 : Rat)) (Y2 : Z2 = (2 : Rat)) {q181 q179 x1 : Rat} (e179 : q179 = ((Z1 + (-x1)) * (Z1 + (-x1)))) (d181 : q181 * q179 = Z1_2) (c180 : ¬q179 = Z0) : q181 = (Z1 / (Z2 * ((Z1 + (-x1)) * (Z1 + (-x1))))) := by
  subst Y0 Y1_2 Y1 Y2 e179
  first | grind | (have hx : x1 = 0 := (by grind); subst hx; grind) | (have hx : x0 = 1 := (by grind); subst hx; grind)

theorem WarpTells_al191 {Z0 Z1 : Rat} (Y0 : Z0 = (0 : Rat)) (Y1 : Z1 = (1 : Rat)) {q188 x1 q186 : Rat} (e186 : q186 = (Z1 + x1)) (d188 : q188 * q186 = x1) (c187 : ¬q186 = Z0) : q188 = (x1 / (Z1 + x1)) := by
  subst Y0 Y1 e186
  first | grind | (have hx : x1 = 0 := (by grind); subst hx; grind) | (have hx : x0 = 1 := (by grind); subst hx; grind)

theorem WarpTells_al193 {Z0 Z1_2 Z1 Z2 : Rat} (Y0 : Z0 = (0 : Rat)) (Y1_2 : Z1_2 = (1/2 : Rat)) (Y1 : Z1 = (1 : Rat)) (Y2 : Z2 = (2 : Rat)) {q189 q188 x1 q186 : Rat} (e186 : q186 = (Z1 + x1)) (d188 : q188 * q186 = x1) (e189 : q189 = (Z1_2 * (Z1 + q188))) (c187 : ¬q186 = Z0) : q189 = ((Z1 + q188) / Z2) := by
  subst Y0 Y1_2 Y1 Y2 e186 e189
  first | grind | (have hx : x1 = 0 := (by grind); subst hx; grind) | (have hx : x0 = 1 := (by grind); subst hx; grind)

theorem WarpTells_al202 {Z0 Z1_2 Z1 Z2 : Rat} (Y0 : Z0 = (0 : Rat)) (Y1_2 : Z1_2 = (1/2 : Rat)) (Y1 : Z1 = (1 : Rat)) (Y2 : Z2 = (2 : Rat)) {q200 q198 x1 : Rat} (e198 : q198 = ((Z1 + x1) * (Z1 + x1))) (d200 : q200 * q198 = Z1_2) (c199 : ¬q198 = Z0) : q200 = (Z1 / (Z2 * ((Z1 + x1) * (Z1 + x1)))) := by
  subst Y0 Y1_2 Y1 Y2 e198
  first | grind | (have hx : x1 = 0 := (by grind); subst hx; grind) | (have hx : x0 = 1 := (by grind); subst hx; grind)

theorem WarpTells_al207 {Z0 Z1 : Rat} (Y0 : Z0 = (0 : Rat)) (Y1 : Z1 = (1 : Rat)) {q205 q150 x0 q1 x1 : Rat} (e150 : q150 = ((x0 + x0) - Z1)) (e205 : q205 = (Z1 - q150)) (e1 : q1 = (x0 + x1)) (c2 : ¬Z1 < q1) (c148 : Z0 < x0) (c149 : x0 < Z1) (c151 : ¬q150 < Z0) : ¬(q205 = Z0) := by
  subst Y0 Y1 e150 e205 e1
  first | grind | (have hx : x1 = 0 := (by grind); subst hx; grind) | (have hx : x0 = 1 := (by grind); subst hx; grind)

theorem WarpTells_al210 {Z1 Z2 : Rat} (Y1 : Z1 = (1 : Rat)) (Y2 : Z2 = (2 : Rat)) {q150 x0 : Rat} (e150 : q150 = ((x0 + x0) - Z1)) : q150 = ((Z2 * x0) - Z1) := by
  subst Y1 Y2 e150
  first | grind | (have hx : x1 = 0 := (by grind); subst hx; grind) | (have hx : x0 = 1 := (by grind); subst hx; grind)

theorem WarpTells_al212 {Z0 Z1 : Rat} (Y0 : Z0 = (0 : Rat)) (Y1 : Z1 = (1 : Rat)) {q208 q150 x0 q205 : Rat} (e150 : q150 = ((x0 + x0) - Z1)) (e205 : q205 = (Z1 - q150)) (d208 : q208 * q205 = q150) (c206 : ¬q205 = Z0) : q208 = (q150 / (Z1 - q150)) := by
  subst Y0 Y1 e150 e205
  first | grind | (have hx : x1 = 0 := (by grind); subst hx; grind) | (have hx : x0 = 1 := (by grind); subst hx; grind)

theorem WarpTells_al225 {Z0 Z1 : Rat} (Y0 : Z0 = (0 : Rat)) (Y1 : Z1 = (1 : Rat)) {q222 x1 q220 : Rat} (e220 : q220 = (Z1 + (-x1))) (d222 : q222 * q220 = x1) (c221 : ¬q220 = Z0) : q222 = (x1 / (Z1 + (-x1))) := by
  subst Y0 Y1 e220
  first | grind | (have hx : x1 = 0 := (by grind); subst hx; grind) | (have hx : x0 = 1 := (by grind); subst hx; grind)

theorem WarpTells_al227 {Z0 Z1_2 Z1 Z2 : Rat} (Y0 : Z0 = (0 : Rat)) (Y1_2 : Z1_2 = (1/2 : Rat)) (Y1 : Z1 = (1 : Rat)) (Y2 : Z2 = (2 : Rat)) {q223 q222 x1 q220 : Rat} (e220 : q220 = (Z1 + (-x1))) (d222 : q222 * q220 = x1) (e223 : q223 = (Z1_2 * (Z1 + q222))) (c221 : ¬q220 = Z0) : q223 = ((Z1 + q222) / Z2) := by
  subst Y0 Y1_2 Y1 Y2 e220 e223
  first | grind | (have hx : x1 = 0 := (by grind); subst hx; grind) | (have hx : x0 = 1 := (by grind); subst hx; grind)

theorem WarpTells_al236 {Z0 Z1_2 Z1 Z2 : Rat} (Y0 : Z0 = (0 : Rat)) (Y1_2 : Z1_2 = (1/2 : Rat)) (Y1 : Z1 = (1 : Rat)) (Y2 : Z2 = (2 : Rat)) {q234 q232 x1 : Rat} (e232 : q232 = ((Z1 + (-x1)) * (Z1 + (-x1)))) (d234 : q234 * q232 = Z1_2) (c233 : ¬q232 = Z0) : q234 = (Z1 / (Z2 * ((Z1 + (-x1)) * (Z1 + (-x1))))) := by
  subst Y0 Y1_2 Y1 Y2 e232
  first | grind | (have hx : x1 = 0 := (by grind); subst hx; grind) | (have hx : x0 = 1 := (by grind); subst hx; grind)

theorem WarpTells_al244 {Z0 Z1 : Rat} (Y0 : Z0 = (0 : Rat)) (Y1 : Z1 = (1 : Rat)) {q241 x1 q239 : Rat} (e239 : q239 = (Z1 + x1)) (d241 : q241 * q239 = x1) (c240 : ¬q239 = Z0) : q241 = (x1 / (Z1 + x1)) := by
  subst Y0 Y1 e239
  first | grind | (have hx : x1 = 0 := (by grind); subst hx; grind) | (have hx : x0 = 1 := (by grind); subst hx; grind)

theorem WarpTells_al246 {Z0 Z1_2 Z1 Z2 : Rat} (Y0 : Z0 = (0 : Rat)) (Y1_2 : Z1_2 = (1/2 : Rat)) (Y1 : Z1 = (1 : Rat)) (Y2 : Z2 = (2 : Rat)) {q242 q241 x1 q239 : Rat} (e239 : q239 = (Z1 + x1)) (d241 : q241 * q239 = x1) (e242 : q242 = (Z1_2 * (Z1 + q241))) (c240 : ¬q239 = Z0) : q242 = ((Z1 + q241) / Z2) := by
  subst Y0 Y1_2 Y1 Y2 e239 e242
  first | grind | (have hx : x1 = 0 := (by grind); subst hx; grind) | (have hx : x0 = 1 := (by grind); subst hx; grind)

theorem WarpTells_al255 {Z0 Z1_2 Z1 Z2 : Rat} (Y0 : Z0 = (0 : Rat)) (Y1_2 : Z1_2 = (1/2 : Rat)) (Y1 : Z1 = (1 : Rat)) (Y2 : Z2 = (2 : Rat)) {q253 q251 x1 : Rat} (e251 : q251 = ((Z1 + x1) * (Z1 + x1))) (d253 : q253 * q251 = Z1_2) (c252 : ¬q251 = Z0) : q253 = (Z1 / (Z2 * ((Z1 + x1) * (Z1 + x1)))) := by
  subst Y0 Y1_2 Y1 Y2 e251
  first | grind | (have hx : x1 = 0 := (by grind); subst hx; grind) | (have hx : x0 = 1 := (by grind); subst hx; grind)

theorem WarpTells_al267 {Z0 Z1 : Rat} (Y0 : Z0 = (0 : Rat)) (Y1 : Z1 = (1 : Rat)) {q264 x1 q262 : Rat} (e262 : q262 = (Z1 + (-x1))) (d264 : q264 * q262 = x1) (c263 : ¬q262 = Z0) : q264 = (x1 / (Z1 + (-x1))) := by
  subst Y0 Y1 e262
  first | grind | (have hx : x1 = 0 := (by grind); subst hx; grind) | (have hx : x0 = 1 := (by grind); subst hx; grind)

theorem WarpTells_al269 {Z0 Z1_2 Z1 Z2 : Rat} (Y0 : Z0 = (0 : Rat)) (Y1_2 : Z1_2 = (1/2 : Rat)) (Y1 : Z1 = (1 : Rat)) (Y2 : Z2 = (2 : Rat)) {q265 q264 x1 q262 : Rat} (e262 : q262 = (Z1 + (-x1))) (d264 : q264 * q262 = x1) (e265 : q265 = (Z1_2 * (Z1 + q264))) (c263 : ¬q262 = Z0) : q265 = ((Z1 + q264) / Z2) := by
  subst Y0 Y1_2 Y1 Y2 e262 e265
  first | grind | (have hx : x1 = 0 := (by grind); subst hx; grind) | (have hx : x0 = 1 := (by grind); subst hx; grind)

theorem WarpTells_al279 {Z0 Z1_2 Z1 Z2 : Rat} (Y0 : Z0 = (0 : Rat)) (Y1_2 : Z1_2 = (1/2 : Rat)) (Y1 : Z1 = (1 : Rat)) (Y2 : Z2 = (2 : Rat)) {q277 q275 x1 : Rat} (e275 : q275 = ((Z1 + (-x1)) * (Z1 + (-x1)))) (d277 : q277 * q275 = Z1_2) (c276 : ¬q275 = Z0) : q277 = (Z1 / (Z2 * ((Z1 + (-x1)) * (Z1 + (-x1))))) := by
  subst Y0 Y1_2 Y1 Y2 e275
  first | grind | (have hx : x1 = 0 := (by grind); subst hx; grind) | (have hx : x0 = 1 := (by grind); subst hx; grind)

theorem WarpTells_al283 {Z0 Z1 : Rat} (Y0 : Z0 = (0 : Rat)) (Y1 : Z1 = (1 : Rat)) {x1 q1 x0 : Rat} (e1 : q1 = (x0 + x1)) (c2 : ¬Z1 < q1) (c148 : Z0 < x0) (c149 : ¬x0 < Z1) (c261 : ¬x1 < Z0) : Z1 = (Z1 + x1) := by
  subst Y0 Y1 e1
  first | grind | (have hx : x1 = 0 := (by grind); subst hx; grind) | (have hx : x0 = 1 := (by grind); subst hx; grind)

theorem WarpTells_al285 {Z0 Z1 : Rat} (Y0 : Z0 = (0 : Rat)) (Y1 : Z1 = (1 : Rat)) {x1 q1 x0 : Rat} (e1 : q1 = (x0 + x1)) (c2 : ¬Z1 < q1) (c148 : Z0 < x0) (c149 : ¬x0 < Z1) (c261 : ¬x1 < Z0) : Z0 = (x1 / Z1) := by
  subst Y0 Y1 e1
  first | grind | (have hx : x1 = 0 := (by grind); subst hx; grind) | (have hx : x0 = 1 := (by grind); subst hx; grind)

theorem WarpTells_al287 {Z0 Z1 : Rat} (Y0 : Z0 = (0 : Rat)) (Y1 : Z1 = (1 : Rat)) {x1 q1 x0 : Rat} (e1 : q1 = (x0 + x1)) (c2 : ¬Z1 < q1) (c148 : Z0 < x0) (c149 : ¬x0 < Z1) (c261 : ¬x1 < Z0) : Z0 = (x1 / (Z1 + x1)) := by
  subst Y0 Y1 e1
  first | grind | (have hx : x1 = 0 := (by grind); subst hx; grind) | (have hx : x0 = 1 := (by grind); subst hx; grind)

theorem WarpTells_al290 {Z0 Z1 : Rat} (Y0 : Z0 = (0 : Rat)) (Y1 : Z1 = (1 : Rat)) {x1 q1 x0 : Rat} (e1 : q1 = (x0 + x1)) (c2 : ¬Z1 < q1) (c148 : Z0 < x0) (c149 : ¬x0 < Z1) (c261 : ¬x1 < Z0) : Z1 = ((Z1 + x1) * (Z1 + x1)) := by
  subst Y0 Y1 e1
  first | grind | (have hx : x1 = 0 := (by grind); subst hx; grind) | (have hx : x0 = 1 := (by grind); subst hx; grind)

theorem WarpTells_al292 {Z0 Z1_2 Z1 Z2 : Rat} (Y0 : Z0 = (0 : Rat)) (Y1_2 : Z1_2 = (1/2 : Rat)) (Y1 : Z1 = (1 : Rat)) (Y2 : Z2 = (2 : Rat)) {x1 q1 x0 : Rat} (e1 : q1 = (x0 + x1)) (c2 : ¬Z1 < q1) (c148 : Z0 < x0) (c149 : ¬x0 < Z1) (c261 : ¬x1 < Z0) : Z1_2 = (Z1 / (Z2 * ((Z1 + x1) * (Z1 + x1)))) := by
  subst Y0 Y1_2 Y1 Y2 e1
  first | grind | (have hx : x1 = 0 := (by grind); subst hx; grind) | (have hx : x0 = 1 := (by grind); subst hx; grind)

theorem WarpTells_al302 {Z0 Z1 : Rat} (Y0 : Z0 = (0 : Rat)) (Y1 : Z1 = (1 : Rat)) {q299 x1 q297 : Rat} (e297 : q297 = (Z1 + (-x1))) (d299 : q299 * q297 = x1) (c298 : ¬q297 = Z0) : q299 = (x1 / (Z1 + (-x1))) := by
  subst Y0 Y1 e297
  first | grind | (have hx : x1 = 0 := (by grind); subst hx; grind) | (have hx : x0 = 1 := (by grind); subst hx; grind)

theorem WarpTells_al304 {Z0 Z1_2 Z1 Z2 : Rat} (Y0 : Z0 = (0 : Rat)) (Y1_2 : Z1_2 = (1/2 : Rat)) (Y1 : Z1 = (1 : Rat)) (Y2 : Z2 = (2 : Rat)) {q300 q299 x1 q297 : Rat} (e297 : q297 = (Z1 + (-x1))) (d299 : q299 * q297 = x1) (e300 : q300 = (Z1_2 * (Z1 + q299))) (c298 : ¬q297 = Z0) : q300 = ((Z1 + q299) / Z2) := by
  subst Y0 Y1_2 Y1 Y2 e297 e300
  first | grind | (have hx : x1 = 0 := (by grind); subst hx; grind) | (have hx : x0 = 1 := (by grind); subst hx; grind)

theorem WarpTells_al314 {Z0 Z1_2 Z1 Z2 : Rat} (Y0 : Z0 = (0 : Rat)) (Y1_2 : Z1_2 = (1/2 : Rat)) (Y1 : Z1 = (1 : Rat)) (Y2 : Z2 = (2 : Rat)) {q312 q310 x1 : Rat} (e310 : q310 = ((Z1 + (-x1)) * (Z1 + (-x1)))) (d312 : q312 * q310 = Z1_2) (c311 : ¬q310 = Z0) : q312 = (Z1 / (Z2 * ((Z1 + (-x1)) * (Z1 + (-x1))))) := by
  subst Y0 Y1_2 Y1 Y2 e310
  first | grind | (have hx : x1 = 0 := (by grind); subst hx; grind) | (have hx : x0 = 1 := (by grind); subst hx; grind)

theorem WarpTells_al322 {Z0 Z1 : Rat} (Y0 : Z0 = (0 : Rat)) (Y1 : Z1 = (1 : Rat)) {q319 x1 q317 : Rat} (e317 : q317 = (Z1 + x1)) (d319 : q319 * q317 = x1) (c318 : ¬q317 = Z0) : q319 = (x1 / (Z1 + x1)) := by
  subst Y0 Y1 e317
  first | grind | (have hx : x1 = 0 := (by grind); subst hx; grind) | (have hx : x0 = 1 := (by grind); subst hx; grind)

theorem WarpTells_al324 {Z0 Z1_2 Z1 Z2 : Rat} (Y0 : Z0 = (0 : Rat)) (Y1_2 : Z1_2 = (1/2 : Rat)) (Y1 : Z1 = (1 : Rat)) (Y2 : Z2 = (2 : Rat)) {q320 q319 x1 q317 : Rat} (e317 : q317 = (Z1 + x1)) (d319 : q319 * q317 = x1) (e320 : q320 = (Z1_2 * (Z1 + q319))) (c318 : ¬q317 = Z0) : q320 = ((Z1 + q319) / Z2) := by
  subst Y0 Y1_2 Y1 Y2 e317 e320
  first | grind | (have hx : x1 = 0 := (by grind); subst hx; grind) | (have hx : x0 = 1 := (by grind); subst hx; grind)

theorem WarpTells_al334 {Z0 Z1_2 Z1 Z2 : Rat} (Y0 : Z0 = (0 : Rat)) (Y1_2 : Z1_2 = (1/2 : Rat)) (Y1 : Z1 = (1 : Rat)) (Y2 : Z2 = (2 : Rat)) {q332 q330 x1 : Rat} (e330 : q330 = ((Z1 + x1) * (Z1 + x1))) (d332 : q332 * q330 = Z1_2) (c331 : ¬q330 = Z0) : q332 = (Z1 / (Z2 * ((Z1 + x1) * (Z1 + x1)))) := by
  subst Y0 Y1_2 Y1 Y2 e330
  first | grind | (have hx : x1 = 0 := (by grind); subst hx; grind) | (have hx : x0 = 1 := (by grind); subst hx; grind)

theorem pure_WarpTells {r0 r1 : RR} (g0 : r0.ok 1048576) (g1 : r1.ok 1048576) : PureCalls prog F.penumbralaw14_WarpTells [.agg ([.bool r0.neg, nl r0.num, nl r0.den]), .agg ([.bool r1.neg, nl r1.num, nl r1.den])] [.one (.bool true)] := by
  obtain ⟨Z0, Y0⟩ := ex_eq (0 : Rat)
  obtain ⟨Z1_2, Y1_2⟩ := ex_eq (1/2 : Rat)
  obtain ⟨Z1, Y1⟩ := ex_eq (1 : Rat)
  obtain ⟨Z2, Y2⟩ := ex_eq (2 : Rat)
  obtain ⟨x0, h0⟩ := Num.raw g0 (by decide)
  obtain ⟨x1, h1⟩ := Num.raw g1 (by decide)
  refine symFunc_sound hmix tree_penumbralaw14_WarpTells (by kernel_rfl) rfl ?_
  unfold ir_penumbralaw14_WarpTells
  simp only [fa_agg, fa_one, fa_nil, List.cons_append, List.nil_append, List.append_nil]
  obtain ⟨q1, e1⟩ := ex_eq (x0 + x1)
  by_cases c2 : Z1 < q1
  · skip
    obtain ⟨q3, e3⟩ := ex_eq (Z1 - x0)
    obtain ⟨q4, e4⟩ := ex_eq (Z1 - x1)
    refine call_step (n_warp_Fold_0 (k0 := q1) (k1 := q3) (k2 := q4) Y1 (h0.mono (by decide)) (h1.mono (by decide)) e1 e3 e4 c2) rfl ?_
    simp only [fa_agg, fa_one, fa_nil, List.cons_append, List.nil_append, List.append_nil]
    refine call_step (n_penumbraref14_Fold_0 (k0 := q1) (k1 := q3) (k2 := q4) Y1 (h0.mono (by decide)) (h1.mono (by decide)) e1 e3 e4 c2) rfl ?_
    simp only [fa_agg, fa_one, fa_nil, List.cons_append, List.nil_append, List.append_nil]
    by_cases c5 : Z0 < x0
    · skip
      by_cases c6 : x0 < Z1
      · skip
        obtain ⟨q7, e7⟩ := ex_eq ((x0 + x0) - Z1)
        by_cases c8 : q7 < Z0
        · skip
          obtain ⟨q9, e9⟩ := ex_eq (Z1 - (-q7))
          have c10 : ¬(q9 = Z0) := (WarpTells_al11 Y0 Y1 e7 e9 e1 c2 c5 c6 c8)
          obtain ⟨q12, e12⟩ := ex_eq (q7 / q9)
          have d12 := div_mul Y0 e12 c10
          refine call_step (n_warp_Line_1 (k0 := q7) (k1 := q9) (k2 := q12) Y0 Y1 (h0.mono (by decide)) e7 e9 e12 c5 c6 c8 c10) rfl ?_
          simp only [fa_agg, fa_one, fa_nil, List.cons_append, List.nil_append, List.append_nil]
          have u13 : q7 = ((Z2 * x0) - Z1) := (WarpTells_al14 Y1 Y2 e7)
          have u15 : q12 = (q7 / (Z1 - (-q7))) := (WarpTells_al16 Y0 Y1 e7 e9 d12 c10)
          refine call_step (n_penumbraref14_Line_0 (k0 := q7) (k1 := q12) Y0 Y1 Y2 (h0.mono (by decide)) u13 u15 c5 c6 c8) rfl ?_
          simp only [fa_agg, fa_one, fa_nil, List.cons_append, List.nil_append, List.append_nil]
          refine call_step n_penumbralaw14_fixed rfl ?_
          simp only [fa_agg, fa_one, fa_nil, List.cons_append, List.nil_append, List.append_nil]
          refine itT rfl ?_
          have m18 : Num 1 (cr Z1) Z1 := Num.c Y1 (by decide +kernel) (by decide +kernel)
          have m17 : Num 1048578 (cr q3) q3 := Num.eqn e3 (Sm.sub m18.sm h0.sm)
          refine call_step (n_penumbraref03_Is_t (m17.mono (by decide)) (m17.mono (by decide)) rfl) rfl ?_
          simp only [fa_agg, fa_one, fa_nil, List.cons_append, List.nil_append, List.append_nil]
          refine itT rfl ?_
          have m19 : Num 1048578 (cr q4) q4 := Num.eqn e4 (Sm.sub m18.sm h1.sm)
          refine call_step (n_penumbraref03_Is_t (m19.mono (by decide)) (m19.mono (by decide)) rfl) rfl ?_
          simp only [fa_agg, fa_one, fa_nil, List.cons_append, List.nil_append, List.append_nil]
          refine itT rfl ?_
          have m21 : Num 2097155 (cr q7) q7 := Num.eqn e7 (Sm.sub (Sm.add h0.sm h0.sm) m18.sm)
          have m22 : Num 2097157 (cr q9) q9 := Num.eqn e9 (Sm.sub m18.sm (Sm.neg m21.sm))
          have m20 : Num 4194312 (cr q12) q12 := Num.eqn e12 (Sm.div m21.sm m22.sm)
          refine call_step (n_penumbraref03_Is_t (m20.mono (by decide)) (m20.mono (by decide)) rfl) rfl ?_
          simp only [fa_agg, fa_one, fa_nil, List.cons_append, List.nil_append, List.append_nil]
          refine itT rfl ?_
          refine primS (.bool true) rfl ?_
          refine itT rfl ?_
          have c23 : ¬(x1 < Z0) := (WarpTells_al24 Y0 Y1 e1 e7 e9 c2 c5 c6 c8 c10)
          obtain ⟨q25, e25⟩ := ex_eq (Z1 + x1)
          have c26 : ¬(q25 = Z0) := (fun z => Rat.ne_of_lt (s_add_pw Y0 e25 (show (Z0 < Z1) by rw [Y0, Y1] <;> decide +kernel) c23) z.symm)
          obtain ⟨q27, e27⟩ := ex_eq (x1 / q25)
          have d27 := div_mul Y0 e27 c26
          obtain ⟨q28, e28⟩ := ex_eq (Z1_2 * (Z1 + q27))
          refine call_step (n_warp_Back_3 (k0 := q25) (k1 := q27) (k2 := q28) Y0 Y1_2 Y1 (h1.mono (by decide)) e25 e27 e28 c23 c26) rfl ?_
          simp only [fa_agg, fa_one, fa_nil, List.cons_append, List.nil_append, List.append_nil]
          have u29 : q27 = (x1 / (Z1 + x1)) := (WarpTells_al30 Y0 Y1 e25 d27 c26)
          have u31 : q28 = ((Z1 + q27) / Z2) := (WarpTells_al32 Y0 Y1_2 Y1 Y2 e25 d27 e28 c26)
          refine call_step (n_penumbraref14_Back_1 (k0 := q27) (k1 := q28) Y0 Y1 Y2 (h1.mono (by decide)) u29 u31 c23) rfl ?_
          simp only [fa_agg, fa_one, fa_nil, List.cons_append, List.nil_append, List.append_nil]
          have m34 : Num 1 (cr Z1_2) Z1_2 := Num.c Y1_2 (by decide +kernel) (by decide +kernel)
          have m36 : Num 1048578 (cr q25) q25 := Num.eqn e25 (Sm.add m18.sm h1.sm)
          have m35 : Num 2097154 (cr q27) q27 := Num.eqn e27 (Sm.div h1.sm m36.sm)
          have m33 : Num 2097157 (cr q28) q28 := Num.eqn e28 (Sm.mul m34.sm (Sm.add m18.sm m35.sm))
          refine call_step (n_penumbraref03_Is_t (m33.mono (by decide)) (m33.mono (by decide)) rfl) rfl ?_
          simp only [fa_agg, fa_one, fa_nil, List.cons_append, List.nil_append, List.append_nil]
          refine itT rfl ?_
          obtain ⟨q37, e37⟩ := ex_eq ((Z1 + x1) * (Z1 + x1))
          have c38 : ¬(q37 = Z0) := (fun z => Rat.ne_of_lt (s_mul_pp Y0 e37 (s_add_pw Y0 rfl (show (Z0 < Z1) by rw [Y0, Y1] <;> decide +kernel) c23) (s_add_pw Y0 rfl (show (Z0 < Z1) by rw [Y0, Y1] <;> decide +kernel) c23)) z.symm)
          obtain ⟨q39, e39⟩ := ex_eq (Z1_2 / q37)
          have d39 := div_mul Y0 e39 c38
          refine call_step (n_warp_Density_3 (k0 := q37) (k1 := q39) Y0 Y1_2 Y1 (h1.mono (by decide)) e37 e39 c23 c38) rfl ?_
          simp only [fa_agg, fa_one, fa_nil, List.cons_append, List.nil_append, List.append_nil]
          have u40 : q39 = (Z1 / (Z2 * ((Z1 + x1) * (Z1 + x1)))) := (WarpTells_al41 Y0 Y1_2 Y1 Y2 e37 d39 c38)
          refine call_step (n_penumbraref14_Density_1 (k0 := q39) Y0 Y1 Y2 (h1.mono (by decide)) u40 c23) rfl ?_
          simp only [fa_agg, fa_one, fa_nil, List.cons_append, List.nil_append, List.append_nil]
          have m43 : Num 2097156 (cr q37) q37 := Num.eqn e37 (Sm.mul (Sm.add m18.sm h1.sm) (Sm.add m18.sm h1.sm))
          have m42 : Num 2097157 (cr q39) q39 := Num.eqn e39 (Sm.div m34.sm m43.sm)
          refine call_step (n_penumbraref03_Is_t (m42.mono (by decide)) (m42.mono (by decide)) rfl) rfl ?_
          simp only [fa_agg, fa_one, fa_nil, List.cons_append, List.nil_append, List.append_nil]
          exact ret_step rfl
        · skip
          obtain ⟨q44, e44⟩ := ex_eq (Z1 - q7)
          have c45 : ¬(q44 = Z0) := (WarpTells_al46 Y0 Y1 e7 e44 e1 c2 c5 c6 c8)
          obtain ⟨q47, e47⟩ := ex_eq (q7 / q44)
          have d47 := div_mul Y0 e47 c45
          refine call_step (n_warp_Line_3 (k0 := q7) (k1 := q44) (k2 := q47) Y0 Y1 (h0.mono (by decide)) e7 e44 e47 c5 c6 c8 c45) rfl ?_
          simp only [fa_agg, fa_one, fa_nil, List.cons_append, List.nil_append, List.append_nil]
          have u48 : q7 = ((Z2 * x0) - Z1) := (WarpTells_al49 Y1 Y2 e7)
          have u50 : q47 = (q7 / (Z1 - q7)) := (WarpTells_al51 Y0 Y1 e7 e44 d47 c45)
          refine call_step (n_penumbraref14_Line_1 (k0 := q7) (k1 := q47) Y0 Y1 Y2 (h0.mono (by decide)) u48 u50 c5 c6 c8) rfl ?_
          simp only [fa_agg, fa_one, fa_nil, List.cons_append, List.nil_append, List.append_nil]
          refine call_step n_penumbralaw14_fixed rfl ?_
          simp only [fa_agg, fa_one, fa_nil, List.cons_append, List.nil_append, List.append_nil]
          refine itT rfl ?_
          have m53 : Num 1 (cr Z1) Z1 := Num.c Y1 (by decide +kernel) (by decide +kernel)
          have m52 : Num 1048578 (cr q3) q3 := Num.eqn e3 (Sm.sub m53.sm h0.sm)
          refine call_step (n_penumbraref03_Is_t (m52.mono (by decide)) (m52.mono (by decide)) rfl) rfl ?_
          simp only [fa_agg, fa_one, fa_nil, List.cons_append, List.nil_append, List.append_nil]
          refine itT rfl ?_
          have m54 : Num 1048578 (cr q4) q4 := Num.eqn e4 (Sm.sub m53.sm h1.sm)
          refine call_step (n_penumbraref03_Is_t (m54.mono (by decide)) (m54.mono (by decide)) rfl) rfl ?_
          simp only [fa_agg, fa_one, fa_nil, List.cons_append, List.nil_append, List.append_nil]
          refine itT rfl ?_
          have m56 : Num 2097155 (cr q7) q7 := Num.eqn e7 (Sm.sub (Sm.add h0.sm h0.sm) m53.sm)
          have m57 : Num 2097157 (cr q44) q44 := Num.eqn e44 (Sm.sub m53.sm m56.sm)
          have m55 : Num 4194312 (cr q47) q47 := Num.eqn e47 (Sm.div m56.sm m57.sm)
          refine call_step (n_penumbraref03_Is_t (m55.mono (by decide)) (m55.mono (by decide)) rfl) rfl ?_
          simp only [fa_agg, fa_one, fa_nil, List.cons_append, List.nil_append, List.append_nil]
          refine itT rfl ?_
          refine primS (.bool true) rfl ?_
          refine itT rfl ?_
          have c58 : ¬(x1 < Z0) := (WarpTells_al59 Y0 Y1 e1 e7 e44 c2 c5 c6 c8 c45)
          obtain ⟨q60, e60⟩ := ex_eq (Z1 + x1)
          have c61 : ¬(q60 = Z0) := (fun z => Rat.ne_of_lt (s_add_pw Y0 e60 (show (Z0 < Z1) by rw [Y0, Y1] <;> decide +kernel) c58) z.symm)
          obtain ⟨q62, e62⟩ := ex_eq (x1 / q60)
          have d62 := div_mul Y0 e62 c61
          obtain ⟨q63, e63⟩ := ex_eq (Z1_2 * (Z1 + q62))
          refine call_step (n_warp_Back_3 (k0 := q60) (k1 := q62) (k2 := q63) Y0 Y1_2 Y1 (h1.mono (by decide)) e60 e62 e63 c58 c61) rfl ?_
          simp only [fa_agg, fa_one, fa_nil, List.cons_append, List.nil_append, List.append_nil]
          have u64 : q62 = (x1 / (Z1 + x1)) := (WarpTells_al65 Y0 Y1 e60 d62 c61)
          have u66 : q63 = ((Z1 + q62) / Z2) := (WarpTells_al67 Y0 Y1_2 Y1 Y2 e60 d62 e63 c61)
          refine call_step (n_penumbraref14_Back_1 (k0 := q62) (k1 := q63) Y0 Y1 Y2 (h1.mono (by decide)) u64 u66 c58) rfl ?_
          simp only [fa_agg, fa_one, fa_nil, List.cons_append, List.nil_append, List.append_nil]
          have m69 : Num 1 (cr Z1_2) Z1_2 := Num.c Y1_2 (by decide +kernel) (by decide +kernel)
          have m71 : Num 1048578 (cr q60) q60 := Num.eqn e60 (Sm.add m53.sm h1.sm)
          have m70 : Num 2097154 (cr q62) q62 := Num.eqn e62 (Sm.div h1.sm m71.sm)
          have m68 : Num 2097157 (cr q63) q63 := Num.eqn e63 (Sm.mul m69.sm (Sm.add m53.sm m70.sm))
          refine call_step (n_penumbraref03_Is_t (m68.mono (by decide)) (m68.mono (by decide)) rfl) rfl ?_
          simp only [fa_agg, fa_one, fa_nil, List.cons_append, List.nil_append, List.append_nil]
          refine itT rfl ?_
          obtain ⟨q72, e72⟩ := ex_eq ((Z1 + x1) * (Z1 + x1))
          have c73 : ¬(q72 = Z0) := (fun z => Rat.ne_of_lt (s_mul_pp Y0 e72 (s_add_pw Y0 rfl (show (Z0 < Z1) by rw [Y0, Y1] <;> decide +kernel) c58) (s_add_pw Y0 rfl (show (Z0 < Z1) by rw [Y0, Y1] <;> decide +kernel) c58)) z.symm)
          obtain ⟨q74, e74⟩ := ex_eq (Z1_2 / q72)
          have d74 := div_mul Y0 e74 c73
          refine call_step (n_warp_Density_3 (k0 := q72) (k1 := q74) Y0 Y1_2 Y1 (h1.mono (by decide)) e72 e74 c58 c73) rfl ?_
          simp only [fa_agg, fa_one, fa_nil, List.cons_append, List.nil_append, List.append_nil]
          have u75 : q74 = (Z1 / (Z2 * ((Z1 + x1) * (Z1 + x1)))) := (WarpTells_al76 Y0 Y1_2 Y1 Y2 e72 d74 c73)
          refine call_step (n_penumbraref14_Density_1 (k0 := q74) Y0 Y1 Y2 (h1.mono (by decide)) u75 c58) rfl ?_
          simp only [fa_agg, fa_one, fa_nil, List.cons_append, List.nil_append, List.append_nil]
          have m78 : Num 2097156 (cr q72) q72 := Num.eqn e72 (Sm.mul (Sm.add m53.sm h1.sm) (Sm.add m53.sm h1.sm))
          have m77 : Num 2097157 (cr q74) q74 := Num.eqn e74 (Sm.div m69.sm m78.sm)
          refine call_step (n_penumbraref03_Is_t (m77.mono (by decide)) (m77.mono (by decide)) rfl) rfl ?_
          simp only [fa_agg, fa_one, fa_nil, List.cons_append, List.nil_append, List.append_nil]
          exact ret_step rfl
      · skip
        refine call_step (n_warp_Line_4 Y0 Y1 (h0.mono (by decide)) c5 c6) rfl ?_
        simp only [fa_agg, fa_one, fa_nil, List.cons_append, List.nil_append, List.append_nil]
        refine call_step (n_penumbraref14_Line_2 Y0 Y1 (h0.mono (by decide)) c5 c6) rfl ?_
        simp only [fa_agg, fa_one, fa_nil, List.cons_append, List.nil_append, List.append_nil]
        refine call_step n_penumbralaw14_fixed rfl ?_
        simp only [fa_agg, fa_one, fa_nil, List.cons_append, List.nil_append, List.append_nil]
        refine itT rfl ?_
        have m80 : Num 1 (cr Z1) Z1 := Num.c Y1 (by decide +kernel) (by decide +kernel)
        have m79 : Num 1048578 (cr q3) q3 := Num.eqn e3 (Sm.sub m80.sm h0.sm)
        refine call_step (n_penumbraref03_Is_t (m79.mono (by decide)) (m79.mono (by decide)) rfl) rfl ?_
        simp only [fa_agg, fa_one, fa_nil, List.cons_append, List.nil_append, List.append_nil]
        refine itT rfl ?_
        have m81 : Num 1048578 (cr q4) q4 := Num.eqn e4 (Sm.sub m80.sm h1.sm)
        refine call_step (n_penumbraref03_Is_t (m81.mono (by decide)) (m81.mono (by decide)) rfl) rfl ?_
        simp only [fa_agg, fa_one, fa_nil, List.cons_append, List.nil_append, List.append_nil]
        refine itT rfl ?_
        have m82 : Num 1 (cr Z0) Z0 := Num.c Y0 (by decide +kernel) (by decide +kernel)
        refine call_step (n_penumbraref03_Is_t (m82.mono (by decide)) (m82.mono (by decide)) rfl) rfl ?_
        simp only [fa_agg, fa_one, fa_nil, List.cons_append, List.nil_append, List.append_nil]
        refine itT rfl ?_
        refine primS (.bool true) rfl ?_
        refine itT rfl ?_
        by_cases c83 : x1 < Z0
        · skip
          have u84 : q4 = (Z1 + (-x1)) := (WarpTells_al85 Y1 e4)
          have c86 : ¬(q4 = Z0) := (WarpTells_al87 Y0 Y1 e4 e1 c2 c5 c6 c83)
          obtain ⟨q88, e88⟩ := ex_eq (x1 / q4)
          have d88 := div_mul Y0 e88 c86
          obtain ⟨q89, e89⟩ := ex_eq (Z1_2 * (Z1 + q88))
          refine call_step (n_warp_Back_1 (k0 := q4) (k1 := q88) (k2 := q89) Y0 Y1_2 Y1 (h1.mono (by decide)) u84 e88 e89 c83 c86) rfl ?_
          simp only [fa_agg, fa_one, fa_nil, List.cons_append, List.nil_append, List.append_nil]
          have u90 : q88 = (x1 / (Z1 + (-x1))) := (WarpTells_al91 Y0 Y1 e4 d88 c86)
          have u92 : q89 = ((Z1 + q88) / Z2) := (WarpTells_al93 Y0 Y1_2 Y1 Y2 e4 d88 e89 c86)
          refine call_step (n_penumbraref14_Back_0 (k0 := q88) (k1 := q89) Y0 Y1 Y2 (h1.mono (by decide)) u90 u92 c83) rfl ?_
          simp only [fa_agg, fa_one, fa_nil, List.cons_append, List.nil_append, List.append_nil]
          have m95 : Num 1 (cr Z1_2) Z1_2 := Num.c Y1_2 (by decide +kernel) (by decide +kernel)
          have m96 : Num 2097154 (cr q88) q88 := Num.eqn e88 (Sm.div h1.sm m81.sm)
          have m94 : Num 2097157 (cr q89) q89 := Num.eqn e89 (Sm.mul m95.sm (Sm.add m80.sm m96.sm))
          refine call_step (n_penumbraref03_Is_t (m94.mono (by decide)) (m94.mono (by decide)) rfl) rfl ?_
          simp only [fa_agg, fa_one, fa_nil, List.cons_append, List.nil_append, List.append_nil]
          refine itT rfl ?_
          obtain ⟨q97, e97⟩ := ex_eq ((Z1 + (-x1)) * (Z1 + (-x1)))
          have c98 : ¬(q97 = Z0) := (fun z => Rat.ne_of_lt (s_mul_pp Y0 e97 (s_add_pp Y0 rfl (show (Z0 < Z1) by rw [Y0, Y1] <;> decide +kernel) (s_neg_n (b := Z0) Y0 rfl c83)) (s_add_pp Y0 rfl (show (Z0 < Z1) by rw [Y0, Y1] <;> decide +kernel) (s_neg_n (b := Z0) Y0 rfl c83))) z.symm)
          obtain ⟨q99, e99⟩ := ex_eq (Z1_2 / q97)
          have d99 := div_mul Y0 e99 c98
          refine call_step (n_warp_Density_1 (k0 := q97) (k1 := q99) Y0 Y1_2 Y1 (h1.mono (by decide)) e97 e99 c83 c98) rfl ?_
          simp only [fa_agg, fa_one, fa_nil, List.cons_append, List.nil_append, List.append_nil]
          have u100 : q99 = (Z1 / (Z2 * ((Z1 + (-x1)) * (Z1 + (-x1))))) := (WarpTells_al101 Y0 Y1_2 Y1 Y2 e97 d99 c98)
          refine call_step (n_penumbraref14_Density_0 (k0 := q99) Y0 Y1 Y2 (h1.mono (by decide)) u100 c83) rfl ?_
          simp only [fa_agg, fa_one, fa_nil, List.cons_append, List.nil_append, List.append_nil]
          have m103 : Num 2097156 (cr q97) q97 := Num.eqn e97 (Sm.mul (Sm.add m80.sm (Sm.neg h1.sm)) (Sm.add m80.sm (Sm.neg h1.sm)))
          have m102 : Num 2097157 (cr q99) q99 := Num.eqn e99 (Sm.div m95.sm m103.sm)
          refine call_step (n_penumbraref03_Is_t (m102.mono (by decide)) (m102.mono (by decide)) rfl) rfl ?_
          simp only [fa_agg, fa_one, fa_nil, List.cons_append, List.nil_append, List.append_nil]
          exact ret_step rfl
        · skip
          obtain ⟨q104, e104⟩ := ex_eq (Z1 + x1)
          have c105 : ¬(q104 = Z0) := (fun z => Rat.ne_of_lt (s_add_pw Y0 e104 (show (Z0 < Z1) by rw [Y0, Y1] <;> decide +kernel) c83) z.symm)
          obtain ⟨q106, e106⟩ := ex_eq (x1 / q104)
          have d106 := div_mul Y0 e106 c105
          obtain ⟨q107, e107⟩ := ex_eq (Z1_2 * (Z1 + q106))
          refine call_step (n_warp_Back_3 (k0 := q104) (k1 := q106) (k2 := q107) Y0 Y1_2 Y1 (h1.mono (by decide)) e104 e106 e107 c83 c105) rfl ?_
          simp only [fa_agg, fa_one, fa_nil, List.cons_append, List.nil_append, List.append_nil]
          have u108 : q106 = (x1 / (Z1 + x1)) := (WarpTells_al109 Y0 Y1 e104 d106 c105)
          have u110 : q107 = ((Z1 + q106) / Z2) := (WarpTells_al111 Y0 Y1_2 Y1 Y2 e104 d106 e107 c105)
          refine call_step (n_penumbraref14_Back_1 (k0 := q106) (k1 := q107) Y0 Y1 Y2 (h1.mono (by decide)) u108 u110 c83) rfl ?_
          simp only [fa_agg, fa_one, fa_nil, List.cons_append, List.nil_append, List.append_nil]
          have m113 : Num 1 (cr Z1_2) Z1_2 := Num.c Y1_2 (by decide +kernel) (by decide +kernel)
          have m115 : Num 1048578 (cr q104) q104 := Num.eqn e104 (Sm.add m80.sm h1.sm)
          have m114 : Num 2097154 (cr q106) q106 := Num.eqn e106 (Sm.div h1.sm m115.sm)
          have m112 : Num 2097157 (cr q107) q107 := Num.eqn e107 (Sm.mul m113.sm (Sm.add m80.sm m114.sm))
          refine call_step (n_penumbraref03_Is_t (m112.mono (by decide)) (m112.mono (by decide)) rfl) rfl ?_
          simp only [fa_agg, fa_one, fa_nil, List.cons_append, List.nil_append, List.append_nil]
          refine itT rfl ?_
          obtain ⟨q116, e116⟩ := ex_eq ((Z1 + x1) * (Z1 + x1))
          have c117 : ¬(q116 = Z0) := (fun z => Rat.ne_of_lt (s_mul_pp Y0 e116 (s_add_pw Y0 rfl (show (Z0 < Z1) by rw [Y0, Y1] <;> decide +kernel) c83) (s_add_pw Y0 rfl (show (Z0 < Z1) by rw [Y0, Y1] <;> decide +kernel) c83)) z.symm)
          obtain ⟨q118, e118⟩ := ex_eq (Z1_2 / q116)
          have d118 := div_mul Y0 e118 c117
          refine call_step (n_warp_Density_3 (k0 := q116) (k1 := q118) Y0 Y1_2 Y1 (h1.mono (by decide)) e116 e118 c83 c117) rfl ?_
          simp only [fa_agg, fa_one, fa_nil, List.cons_append, List.nil_append, List.append_nil]
          have u119 : q118 = (Z1 / (Z2 * ((Z1 + x1) * (Z1 + x1)))) := (WarpTells_al120 Y0 Y1_2 Y1 Y2 e116 d118 c117)
          refine call_step (n_penumbraref14_Density_1 (k0 := q118) Y0 Y1 Y2 (h1.mono (by decide)) u119 c83) rfl ?_
          simp only [fa_agg, fa_one, fa_nil, List.cons_append, List.nil_append, List.append_nil]
          have m122 : Num 2097156 (cr q116) q116 := Num.eqn e116 (Sm.mul (Sm.add m80.sm h1.sm) (Sm.add m80.sm h1.sm))
          have m121 : Num 2097157 (cr q118) q118 := Num.eqn e118 (Sm.div m113.sm m122.sm)
          refine call_step (n_penumbraref03_Is_t (m121.mono (by decide)) (m121.mono (by decide)) rfl) rfl ?_
          simp only [fa_agg, fa_one, fa_nil, List.cons_append, List.nil_append, List.append_nil]
          exact ret_step rfl
    · skip
      refine call_step (n_warp_Line_5 Y0 (h0.mono (by decide)) c5) rfl ?_
      simp only [fa_agg, fa_one, fa_nil, List.cons_append, List.nil_append, List.append_nil]
      refine call_step (n_penumbraref14_Line_3 Y0 (h0.mono (by decide)) c5) rfl ?_
      simp only [fa_agg, fa_one, fa_nil, List.cons_append, List.nil_append, List.append_nil]
      refine call_step n_penumbralaw14_fixed rfl ?_
      simp only [fa_agg, fa_one, fa_nil, List.cons_append, List.nil_append, List.append_nil]
      refine itT rfl ?_
      have m124 : Num 1 (cr Z1) Z1 := Num.c Y1 (by decide +kernel) (by decide +kernel)
      have m123 : Num 1048578 (cr q3) q3 := Num.eqn e3 (Sm.sub m124.sm h0.sm)
      refine call_step (n_penumbraref03_Is_t (m123.mono (by decide)) (m123.mono (by decide)) rfl) rfl ?_
      simp only [fa_agg, fa_one, fa_nil, List.cons_append, List.nil_append, List.append_nil]
      refine itT rfl ?_
      have m125 : Num 1048578 (cr q4) q4 := Num.eqn e4 (Sm.sub m124.sm h1.sm)
      refine call_step (n_penumbraref03_Is_t (m125.mono (by decide)) (m125.mono (by decide)) rfl) rfl ?_
      simp only [fa_agg, fa_one, fa_nil, List.cons_append, List.nil_append, List.append_nil]
      refine itT rfl ?_
      have m126 : Num 1 (cr Z0) Z0 := Num.c Y0 (by decide +kernel) (by decide +kernel)
      refine call_step (n_penumbraref03_Is_t (m126.mono (by decide)) (m126.mono (by decide)) rfl) rfl ?_
      simp only [fa_agg, fa_one, fa_nil, List.cons_append, List.nil_append, List.append_nil]
      refine itT rfl ?_
      refine primS (.bool true) rfl ?_
      refine itT rfl ?_
      have c127 : ¬(x1 < Z0) := (WarpTells_al128 Y0 Y1 e1 c2 c5)
      obtain ⟨q129, e129⟩ := ex_eq (Z1 + x1)
      have c130 : ¬(q129 = Z0) := (fun z => Rat.ne_of_lt (s_add_pw Y0 e129 (show (Z0 < Z1) by rw [Y0, Y1] <;> decide +kernel) c127) z.symm)
      obtain ⟨q131, e131⟩ := ex_eq (x1 / q129)
      have d131 := div_mul Y0 e131 c130
      obtain ⟨q132, e132⟩ := ex_eq (Z1_2 * (Z1 + q131))
      refine call_step (n_warp_Back_3 (k0 := q129) (k1 := q131) (k2 := q132) Y0 Y1_2 Y1 (h1.mono (by decide)) e129 e131 e132 c127 c130) rfl ?_
      simp only [fa_agg, fa_one, fa_nil, List.cons_append, List.nil_append, List.append_nil]
      have u133 : q131 = (x1 / (Z1 + x1)) := (WarpTells_al134 Y0 Y1 e129 d131 c130)
      have u135 : q132 = ((Z1 + q131) / Z2) := (WarpTells_al136 Y0 Y1_2 Y1 Y2 e129 d131 e132 c130)
      refine call_step (n_penumbraref14_Back_1 (k0 := q131) (k1 := q132) Y0 Y1 Y2 (h1.mono (by decide)) u133 u135 c127) rfl ?_
      simp only [fa_agg, fa_one, fa_nil, List.cons_append, List.nil_append, List.append_nil]
      have m138 : Num 1 (cr Z1_2) Z1_2 := Num.c Y1_2 (by decide +kernel) (by decide +kernel)
      have m140 : Num 1048578 (cr q129) q129 := Num.eqn e129 (Sm.add m124.sm h1.sm)
      have m139 : Num 2097154 (cr q131) q131 := Num.eqn e131 (Sm.div h1.sm m140.sm)
      have m137 : Num 2097157 (cr q132) q132 := Num.eqn e132 (Sm.mul m138.sm (Sm.add m124.sm m139.sm))
      refine call_step (n_penumbraref03_Is_t (m137.mono (by decide)) (m137.mono (by decide)) rfl) rfl ?_
      simp only [fa_agg, fa_one, fa_nil, List.cons_append, List.nil_append, List.append_nil]
      refine itT rfl ?_
      obtain ⟨q141, e141⟩ := ex_eq ((Z1 + x1) * (Z1 + x1))
      have c142 : ¬(q141 = Z0) := (fun z => Rat.ne_of_lt (s_mul_pp Y0 e141 (s_add_pw Y0 rfl (show (Z0 < Z1) by rw [Y0, Y1] <;> decide +kernel) c127) (s_add_pw Y0 rfl (show (Z0 < Z1) by rw [Y0, Y1] <;> decide +kernel) c127)) z.symm)
      obtain ⟨q143, e143⟩ := ex_eq (Z1_2 / q141)
      have d143 := div_mul Y0 e143 c142
      refine call_step (n_warp_Density_3 (k0 := q141) (k1 := q143) Y0 Y1_2 Y1 (h1.mono (by decide)) e141 e143 c127 c142) rfl ?_
      simp only [fa_agg, fa_one, fa_nil, List.cons_append, List.nil_append, List.append_nil]
      have u144 : q143 = (Z1 / (Z2 * ((Z1 + x1) * (Z1 + x1)))) := (WarpTells_al145 Y0 Y1_2 Y1 Y2 e141 d143 c142)
      refine call_step (n_penumbraref14_Density_1 (k0 := q143) Y0 Y1 Y2 (h1.mono (by decide)) u144 c127) rfl ?_
      simp only [fa_agg, fa_one, fa_nil, List.cons_append, List.nil_append, List.append_nil]
      have m147 : Num 2097156 (cr q141) q141 := Num.eqn e141 (Sm.mul (Sm.add m124.sm h1.sm) (Sm.add m124.sm h1.sm))
      have m146 : Num 2097157 (cr q143) q143 := Num.eqn e143 (Sm.div m138.sm m147.sm)
      refine call_step (n_penumbraref03_Is_t (m146.mono (by decide)) (m146.mono (by decide)) rfl) rfl ?_
      simp only [fa_agg, fa_one, fa_nil, List.cons_append, List.nil_append, List.append_nil]
      exact ret_step rfl
  · skip
    refine call_step (n_warp_Fold_1 (k0 := q1) Y1 (h0.mono (by decide)) (h1.mono (by decide)) e1 c2) rfl ?_
    simp only [fa_agg, fa_one, fa_nil, List.cons_append, List.nil_append, List.append_nil]
    refine call_step (n_penumbraref14_Fold_1 (k0 := q1) Y1 (h0.mono (by decide)) (h1.mono (by decide)) e1 c2) rfl ?_
    simp only [fa_agg, fa_one, fa_nil, List.cons_append, List.nil_append, List.append_nil]
    by_cases c148 : Z0 < x0
    · skip
      by_cases c149 : x0 < Z1
      · skip
        obtain ⟨q150, e150⟩ := ex_eq ((x0 + x0) - Z1)
        by_cases c151 : q150 < Z0
        · skip
          obtain ⟨q152, e152⟩ := ex_eq (Z1 - (-q150))
          have c153 : ¬(q152 = Z0) := (WarpTells_al154 Y0 Y1 e150 e152 e1 c2 c148 c149 c151)
          obtain ⟨q155, e155⟩ := ex_eq (q150 / q152)
          have d155 := div_mul Y0 e155 c153
          refine call_step (n_warp_Line_1 (k0 := q150) (k1 := q152) (k2 := q155) Y0 Y1 (h0.mono (by decide)) e150 e152 e155 c148 c149 c151 c153) rfl ?_
          simp only [fa_agg, fa_one, fa_nil, List.cons_append, List.nil_append, List.append_nil]
          have u156 : q150 = ((Z2 * x0) - Z1) := (WarpTells_al157 Y1 Y2 e150)
          have u158 : q155 = (q150 / (Z1 - (-q150))) := (WarpTells_al159 Y0 Y1 e150 e152 d155 c153)
          refine call_step (n_penumbraref14_Line_0 (k0 := q150) (k1 := q155) Y0 Y1 Y2 (h0.mono (by decide)) u156 u158 c148 c149 c151) rfl ?_
          simp only [fa_agg, fa_one, fa_nil, List.cons_append, List.nil_append, List.append_nil]
          refine call_step n_penumbralaw14_fixed rfl ?_
          simp only [fa_agg, fa_one, fa_nil, List.cons_append, List.nil_append, List.append_nil]
          refine itT rfl ?_
          have m160 : Num 1048576 (cr x0) x0 := Num.of h0.sm
          refine call_step (n_penumbraref03_Is_t (m160.mono (by decide)) (m160.mono (by decide)) rfl) rfl ?_
          simp only [fa_agg, fa_one, fa_nil, List.cons_append, List.nil_append, List.append_nil]
          refine itT rfl ?_
          have m161 : Num 1048576 (cr x1) x1 := Num.of h1.sm
          refine call_step (n_penumbraref03_Is_t (m161.mono (by decide)) (m161.mono (by decide)) rfl) rfl ?_
          simp only [fa_agg, fa_one, fa_nil, List.cons_append, List.nil_append, List.append_nil]
          refine itT rfl ?_
          have m164 : Num 1 (cr Z1) Z1 := Num.c Y1 (by decide +kernel) (by decide +kernel)
          have m163 : Num 2097155 (cr q150) q150 := Num.eqn e150 (Sm.sub (Sm.add h0.sm h0.sm) m164.sm)
          have m165 : Num 2097157 (cr q152) q152 := Num.eqn e152 (Sm.sub m164.sm (Sm.neg m163.sm))
          have m162 : Num 4194312 (cr q155) q155 := Num.eqn e155 (Sm.div m163.sm m165.sm)
          refine call_step (n_penumbraref03_Is_t (m162.mono (by decide)) (m162.mono (by decide)) rfl) rfl ?_
          simp only [fa_agg, fa_one, fa_nil, List.cons_append, List.nil_append, List.append_nil]
          refine itT rfl ?_
          refine primS (.bool true) rfl ?_
          refine itT rfl ?_
          by_cases c166 : x1 < Z0
          · skip
            obtain ⟨q167, e167⟩ := ex_eq (Z1 + (-x1))
            have c168 : ¬(q167 = Z0) := (fun z => Rat.ne_of_lt (s_add_pp Y0 e167 (show (Z0 < Z1) by rw [Y0, Y1] <;> decide +kernel) (s_neg_n (b := Z0) Y0 rfl c166)) z.symm)
            obtain ⟨q169, e169⟩ := ex_eq (x1 / q167)
            have d169 := div_mul Y0 e169 c168
            obtain ⟨q170, e170⟩ := ex_eq (Z1_2 * (Z1 + q169))
            refine call_step (n_warp_Back_1 (k0 := q167) (k1 := q169) (k2 := q170) Y0 Y1_2 Y1 (h1.mono (by decide)) e167 e169 e170 c166 c168) rfl ?_
            simp only [fa_agg, fa_one, fa_nil, List.cons_append, List.nil_append, List.append_nil]
            have u171 : q169 = (x1 / (Z1 + (-x1))) := (WarpTells_al172 Y0 Y1 e167 d169 c168)
            have u173 : q170 = ((Z1 + q169) / Z2) := (WarpTells_al174 Y0 Y1_2 Y1 Y2 e167 d169 e170 c168)
            refine call_step (n_penumbraref14_Back_0 (k0 := q169) (k1 := q170) Y0 Y1 Y2 (h1.mono (by decide)) u171 u173 c166) rfl ?_
            simp only [fa_agg, fa_one, fa_nil, List.cons_append, List.nil_append, List.append_nil]
            have m176 : Num 1 (cr Z1_2) Z1_2 := Num.c Y1_2 (by decide +kernel) (by decide +kernel)
            have m178 : Num 1048578 (cr q167) q167 := Num.eqn e167 (Sm.add m164.sm (Sm.neg h1.sm))
            have m177 : Num 2097154 (cr q169) q169 := Num.eqn e169 (Sm.div h1.sm m178.sm)
            have m175 : Num 2097157 (cr q170) q170 := Num.eqn e170 (Sm.mul m176.sm (Sm.add m164.sm m177.sm))
            refine call_step (n_penumbraref03_Is_t (m175.mono (by decide)) (m175.mono (by decide)) rfl) rfl ?_
            simp only [fa_agg, fa_one, fa_nil, List.cons_append, List.nil_append, List.append_nil]
            refine itT rfl ?_
            obtain ⟨q179, e179⟩ := ex_eq ((Z1 + (-x1)) * (Z1 + (-x1)))
            have c180 : ¬(q179 = Z0) := (fun z => Rat.ne_of_lt (s_mul_pp Y0 e179 (s_add_pp Y0 rfl (show (Z0 < Z1) by rw [Y0, Y1] <;> decide +kernel) (s_neg_n (b := Z0) Y0 rfl c166)) (s_add_pp Y0 rfl (show (Z0 < Z1) by rw [Y0, Y1] <;> decide +kernel) (s_neg_n (b := Z0) Y0 rfl c166))) z.symm)
            obtain ⟨q181, e181⟩ := ex_eq (Z1_2 / q179)
            have d181 := div_mul Y0 e181 c180
            refine call_step (n_warp_Density_1 (k0 := q179) (k1 := q181) Y0 Y1_2 Y1 (h1.mono (by decide)) e179 e181 c166 c180) rfl ?_
            simp only [fa_agg, fa_one, fa_nil, List.cons_append, List.nil_append, List.append_nil]
            have u182 : q181 = (Z1 / (Z2 * ((Z1 + (-x1)) * (Z1 + (-x1))))) := (WarpTells_al183 Y0 Y1_2 Y1 Y2 e179 d181 c180)
            refine call_step (n_penumbraref14_Density_0 (k0 := q181) Y0 Y1 Y2 (h1.mono (by decide)) u182 c166) rfl ?_
            simp only [fa_agg, fa_one, fa_nil, List.cons_append, List.nil_append, List.append_nil]
            have m185 : Num 2097156 (cr q179) q179 := Num.eqn e179 (Sm.mul (Sm.add m164.sm (Sm.neg h1.sm)) (Sm.add m164.sm (Sm.neg h1.sm)))
            have m184 : Num 2097157 (cr q181) q181 := Num.eqn e181 (Sm.div m176.sm m185.sm)
            refine call_step (n_penumbraref03_Is_t (m184.mono (by decide)) (m184.mono (by decide)) rfl) rfl ?_
            simp only [fa_agg, fa_one, fa_nil, List.cons_append, List.nil_append, List.append_nil]
            exact ret_step rfl
          · skip
            obtain ⟨q186, e186⟩ := ex_eq (Z1 + x1)
            have c187 : ¬(q186 = Z0) := (fun z => Rat.ne_of_lt (s_add_pw Y0 e186 (show (Z0 < Z1) by rw [Y0, Y1] <;> decide +kernel) c166) z.symm)
            obtain ⟨q188, e188⟩ := ex_eq (x1 / q186)
            have d188 := div_mul Y0 e188 c187
            obtain ⟨q189, e189⟩ := ex_eq (Z1_2 * (Z1 + q188))
            refine call_step (n_warp_Back_3 (k0 := q186) (k1 := q188) (k2 := q189) Y0 Y1_2 Y1 (h1.mono (by decide)) e186 e188 e189 c166 c187) rfl ?_
            simp only [fa_agg, fa_one, fa_nil, List.cons_append, List.nil_append, List.append_nil]
            have u190 : q188 = (x1 / (Z1 + x1)) := (WarpTells_al191 Y0 Y1 e186 d188 c187)
            have u192 : q189 = ((Z1 + q188) / Z2) := (WarpTells_al193 Y0 Y1_2 Y1 Y2 e186 d188 e189 c187)
            refine call_step (n_penumbraref14_Back_1 (k0 := q188) (k1 := q189) Y0 Y1 Y2 (h1.mono (by decide)) u190 u192 c166) rfl ?_
            simp only [fa_agg, fa_one, fa_nil, List.cons_append, List.nil_append, List.append_nil]
            have m195 : Num 1 (cr Z1_2) Z1_2 := Num.c Y1_2 (by decide +kernel) (by decide +kernel)
            have m197 : Num 1048578 (cr q186) q186 := Num.eqn e186 (Sm.add m164.sm m161.sm)
            have m196 : Num 2097154 (cr q188) q188 := Num.eqn e188 (Sm.div h1.sm m197.sm)
            have m194 : Num 2097157 (cr q189) q189 := Num.eqn e189 (Sm.mul m195.sm (Sm.add m164.sm m196.sm))
            refine call_step (n_penumbraref03_Is_t (m194.mono (by decide)) (m194.mono (by decide)) rfl) rfl ?_
            simp only [fa_agg, fa_one, fa_nil, List.cons_append, List.nil_append, List.append_nil]
            refine itT rfl ?_
            obtain ⟨q198, e198⟩ := ex_eq ((Z1 + x1) * (Z1 + x1))
            have c199 : ¬(q198 = Z0) := (fun z => Rat.ne_of_lt (s_mul_pp Y0 e198 (s_add_pw Y0 rfl (show (Z0 < Z1) by rw [Y0, Y1] <;> decide +kernel) c166) (s_add_pw Y0 rfl (show (Z0 < Z1) by rw [Y0, Y1] <;> decide +kernel) c166)) z.symm)
            obtain ⟨q200, e200⟩ := ex_eq (Z1_2 / q198)
            have d200 := div_mul Y0 e200 c199
            refine call_step (n_warp_Density_3 (k0 := q198) (k1 := q200) Y0 Y1_2 Y1 (h1.mono (by decide)) e198 e200 c166 c199) rfl ?_
            simp only [fa_agg, fa_one, fa_nil, List.cons_append, List.nil_append, List.append_nil]
            have u201 : q200 = (Z1 / (Z2 * ((Z1 + x1) * (Z1 + x1)))) := (WarpTells_al202 Y0 Y1_2 Y1 Y2 e198 d200 c199)
            refine call_step (n_penumbraref14_Density_1 (k0 := q200) Y0 Y1 Y2 (h1.mono (by decide)) u201 c166) rfl ?_
            simp only [fa_agg, fa_one, fa_nil, List.cons_append, List.nil_append, List.append_nil]
            have m204 : Num 2097156 (cr q198) q198 := Num.eqn e198 (Sm.mul (Sm.add m164.sm m161.sm) (Sm.add m164.sm m161.sm))
            have m203 : Num 2097157 (cr q200) q200 := Num.eqn e200 (Sm.div m195.sm m204.sm)
            refine call_step (n_penumbraref03_Is_t (m203.mono (by decide)) (m203.mono (by decide)) rfl) rfl ?_
            simp only [fa_agg, fa_one, fa_nil, List.cons_append, List.nil_append, List.append_nil]
            exact ret_step rfl
        · skip
          obtain ⟨q205, e205⟩ := ex_eq (Z1 - q150)
          have c206 : ¬(q205 = Z0) := (WarpTells_al207 Y0 Y1 e150 e205 e1 c2 c148 c149 c151)
          obtain ⟨q208, e208⟩ := ex_eq (q150 / q205)
          have d208 := div_mul Y0 e208 c206
          refine call_step (n_warp_Line_3 (k0 := q150) (k1 := q205) (k2 := q208) Y0 Y1 (h0.mono (by decide)) e150 e205 e208 c148 c149 c151 c206) rfl ?_
          simp only [fa_agg, fa_one, fa_nil, List.cons_append, List.nil_append, List.append_nil]
          have u209 : q150 = ((Z2 * x0) - Z1) := (WarpTells_al210 Y1 Y2 e150)
          have u211 : q208 = (q150 / (Z1 - q150)) := (WarpTells_al212 Y0 Y1 e150 e205 d208 c206)
          refine call_step (n_penumbraref14_Line_1 (k0 := q150) (k1 := q208) Y0 Y1 Y2 (h0.mono (by decide)) u209 u211 c148 c149 c151) rfl ?_
          simp only [fa_agg, fa_one, fa_nil, List.cons_append, List.nil_append, List.append_nil]
          refine call_step n_penumbralaw14_fixed rfl ?_
          simp only [fa_agg, fa_one, fa_nil, List.cons_append, List.nil_append, List.append_nil]
          refine itT rfl ?_
          have m213 : Num 1048576 (cr x0) x0 := Num.of h0.sm
          refine call_step (n_penumbraref03_Is_t (m213.mono (by decide)) (m213.mono (by decide)) rfl) rfl ?_
          simp only [fa_agg, fa_one, fa_nil, List.cons_append, List.nil_append, List.append_nil]
          refine itT rfl ?_
          have m214 : Num 1048576 (cr x1) x1 := Num.of h1.sm
          refine call_step (n_penumbraref03_Is_t (m214.mono (by decide)) (m214.mono (by decide)) rfl) rfl ?_
          simp only [fa_agg, fa_one, fa_nil, List.cons_append, List.nil_append, List.append_nil]
          refine itT rfl ?_
          have m217 : Num 1 (cr Z1) Z1 := Num.c Y1 (by decide +kernel) (by decide +kernel)
          have m216 : Num 2097155 (cr q150) q150 := Num.eqn e150 (Sm.sub (Sm.add h0.sm h0.sm) m217.sm)
          have m218 : Num 2097157 (cr q205) q205 := Num.eqn e205 (Sm.sub m217.sm m216.sm)
          have m215 : Num 4194312 (cr q208) q208 := Num.eqn e208 (Sm.div m216.sm m218.sm)
          refine call_step (n_penumbraref03_Is_t (m215.mono (by decide)) (m215.mono (by decide)) rfl) rfl ?_
          simp only [fa_agg, fa_one, fa_nil, List.cons_append, List.nil_append, List.append_nil]
          refine itT rfl ?_
          refine primS (.bool true) rfl ?_
          refine itT rfl ?_
          by_cases c219 : x1 < Z0
          · skip
            obtain ⟨q220, e220⟩ := ex_eq (Z1 + (-x1))
            have c221 : ¬(q220 = Z0) := (fun z => Rat.ne_of_lt (s_add_pp Y0 e220 (show (Z0 < Z1) by rw [Y0, Y1] <;> decide +kernel) (s_neg_n (b := Z0) Y0 rfl c219)) z.symm)
            obtain ⟨q222, e222⟩ := ex_eq (x1 / q220)
            have d222 := div_mul Y0 e222 c221
            obtain ⟨q223, e223⟩ := ex_eq (Z1_2 * (Z1 + q222))
            refine call_step (n_warp_Back_1 (k0 := q220) (k1 := q222) (k2 := q223) Y0 Y1_2 Y1 (h1.mono (by decide)) e220 e222 e223 c219 c221) rfl ?_
            simp only [fa_agg, fa_one, fa_nil, List.cons_append, List.nil_append, List.append_nil]
            have u224 : q222 = (x1 / (Z1 + (-x1))) := (WarpTells_al225 Y0 Y1 e220 d222 c221)
            have u226 : q223 = ((Z1 + q222) / Z2) := (WarpTells_al227 Y0 Y1_2 Y1 Y2 e220 d222 e223 c221)
            refine call_step (n_penumbraref14_Back_0 (k0 := q222) (k1 := q223) Y0 Y1 Y2 (h1.mono (by decide)) u224 u226 c219) rfl ?_
            simp only [fa_agg, fa_one, fa_nil, List.cons_append, List.nil_append, List.append_nil]
            have m229 : Num 1 (cr Z1_2) Z1_2 := Num.c Y1_2 (by decide +kernel) (by decide +kernel)
            have m231 : Num 1048578 (cr q220) q220 := Num.eqn e220 (Sm.add m217.sm (Sm.neg h1.sm))
            have m230 : Num 2097154 (cr q222) q222 := Num.eqn e222 (Sm.div h1.sm m231.sm)
            have m228 : Num 2097157 (cr q223) q223 := Num.eqn e223 (Sm.mul m229.sm (Sm.add m217.sm m230.sm))
            refine call_step (n_penumbraref03_Is_t (m228.mono (by decide)) (m228.mono (by decide)) rfl) rfl ?_
            simp only [fa_agg, fa_one, fa_nil, List.cons_append, List.nil_append, List.append_nil]
            refine itT rfl ?_
            obtain ⟨q232, e232⟩ := ex_eq ((Z1 + (-x1)) * (Z1 + (-x1)))
            have c233 : ¬(q232 = Z0) := (fun z => Rat.ne_of_lt (s_mul_pp Y0 e232 (s_add_pp Y0 rfl (show (Z0 < Z1) by rw [Y0, Y1] <;> decide +kernel) (s_neg_n (b := Z0) Y0 rfl c219)) (s_add_pp Y0 rfl (show (Z0 < Z1) by rw [Y0, Y1] <;> decide +kernel) (s_neg_n (b := Z0) Y0 rfl c219))) z.symm)
            obtain ⟨q234, e234⟩ := ex_eq (Z1_2 / q232)
            have d234 := div_mul Y0 e234 c233
            refine call_step (n_warp_Density_1 (k0 := q232) (k1 := q234) Y0 Y1_2 Y1 (h1.mono (by decide)) e232 e234 c219 c233) rfl ?_
            simp only [fa_agg, fa_one, fa_nil, List.cons_append, List.nil_append, List.append_nil]
            have u235 : q234 = (Z1 / (Z2 * ((Z1 + (-x1)) * (Z1 + (-x1))))) := (WarpTells_al236 Y0 Y1_2 Y1 Y2 e232 d234 c233)
            refine call_step (n_penumbraref14_Density_0 (k0 := q234) Y0 Y1 Y2 (h1.mono (by decide)) u235 c219) rfl ?_
            simp only [fa_agg, fa_one, fa_nil, List.cons_append, List.nil_append, List.append_nil]
            have m238 : Num 2097156 (cr q232) q232 := Num.eqn e232 (Sm.mul (Sm.add m217.sm (Sm.neg h1.sm)) (Sm.add m217.sm (Sm.neg h1.sm)))
            have m237 : Num 2097157 (cr q234) q234 := Num.eqn e234 (Sm.div m229.sm m238.sm)
            refine call_step (n_penumbraref03_Is_t (m237.mono (by decide)) (m237.mono (by decide)) rfl) rfl ?_
            simp only [fa_agg, fa_one, fa_nil, List.cons_append, List.nil_append, List.append_nil]
            exact ret_step rfl
          · skip
            obtain ⟨q239, e239⟩ := ex_eq (Z1 + x1)
            have c240 : ¬(q239 = Z0) := (fun z => Rat.ne_of_lt (s_add_pw Y0 e239 (show (Z0 < Z1) by rw [Y0, Y1] <;> decide +kernel) c219) z.symm)
            obtain ⟨q241, e241⟩ := ex_eq (x1 / q239)
            have d241 := div_mul Y0 e241 c240
            obtain ⟨q242, e242⟩ := ex_eq (Z1_2 * (Z1 + q241))
            refine call_step (n_warp_Back_3 (k0 := q239) (k1 := q241) (k2 := q242) Y0 Y1_2 Y1 (h1.mono (by decide)) e239 e241 e242 c219 c240) rfl ?_
            simp only [fa_agg, fa_one, fa_nil, List.cons_append, List.nil_append, List.append_nil]
            have u243 : q241 = (x1 / (Z1 + x1)) := (WarpTells_al244 Y0 Y1 e239 d241 c240)
            have u245 : q242 = ((Z1 + q241) / Z2) := (WarpTells_al246 Y0 Y1_2 Y1 Y2 e239 d241 e242 c240)
            refine call_step (n_penumbraref14_Back_1 (k0 := q241) (k1 := q242) Y0 Y1 Y2 (h1.mono (by decide)) u243 u245 c219) rfl ?_
            simp only [fa_agg, fa_one, fa_nil, List.cons_append, List.nil_append, List.append_nil]
            have m248 : Num 1 (cr Z1_2) Z1_2 := Num.c Y1_2 (by decide +kernel) (by decide +kernel)
            have m250 : Num 1048578 (cr q239) q239 := Num.eqn e239 (Sm.add m217.sm m214.sm)
            have m249 : Num 2097154 (cr q241) q241 := Num.eqn e241 (Sm.div h1.sm m250.sm)
            have m247 : Num 2097157 (cr q242) q242 := Num.eqn e242 (Sm.mul m248.sm (Sm.add m217.sm m249.sm))
            refine call_step (n_penumbraref03_Is_t (m247.mono (by decide)) (m247.mono (by decide)) rfl) rfl ?_
            simp only [fa_agg, fa_one, fa_nil, List.cons_append, List.nil_append, List.append_nil]
            refine itT rfl ?_
            obtain ⟨q251, e251⟩ := ex_eq ((Z1 + x1) * (Z1 + x1))
            have c252 : ¬(q251 = Z0) := (fun z => Rat.ne_of_lt (s_mul_pp Y0 e251 (s_add_pw Y0 rfl (show (Z0 < Z1) by rw [Y0, Y1] <;> decide +kernel) c219) (s_add_pw Y0 rfl (show (Z0 < Z1) by rw [Y0, Y1] <;> decide +kernel) c219)) z.symm)
            obtain ⟨q253, e253⟩ := ex_eq (Z1_2 / q251)
            have d253 := div_mul Y0 e253 c252
            refine call_step (n_warp_Density_3 (k0 := q251) (k1 := q253) Y0 Y1_2 Y1 (h1.mono (by decide)) e251 e253 c219 c252) rfl ?_
            simp only [fa_agg, fa_one, fa_nil, List.cons_append, List.nil_append, List.append_nil]
            have u254 : q253 = (Z1 / (Z2 * ((Z1 + x1) * (Z1 + x1)))) := (WarpTells_al255 Y0 Y1_2 Y1 Y2 e251 d253 c252)
            refine call_step (n_penumbraref14_Density_1 (k0 := q253) Y0 Y1 Y2 (h1.mono (by decide)) u254 c219) rfl ?_
            simp only [fa_agg, fa_one, fa_nil, List.cons_append, List.nil_append, List.append_nil]
            have m257 : Num 2097156 (cr q251) q251 := Num.eqn e251 (Sm.mul (Sm.add m217.sm m214.sm) (Sm.add m217.sm m214.sm))
            have m256 : Num 2097157 (cr q253) q253 := Num.eqn e253 (Sm.div m248.sm m257.sm)
            refine call_step (n_penumbraref03_Is_t (m256.mono (by decide)) (m256.mono (by decide)) rfl) rfl ?_
            simp only [fa_agg, fa_one, fa_nil, List.cons_append, List.nil_append, List.append_nil]
            exact ret_step rfl
      · skip
        refine call_step (n_warp_Line_4 Y0 Y1 (h0.mono (by decide)) c148 c149) rfl ?_
        simp only [fa_agg, fa_one, fa_nil, List.cons_append, List.nil_append, List.append_nil]
        refine call_step (n_penumbraref14_Line_2 Y0 Y1 (h0.mono (by decide)) c148 c149) rfl ?_
        simp only [fa_agg, fa_one, fa_nil, List.cons_append, List.nil_append, List.append_nil]
        refine call_step n_penumbralaw14_fixed rfl ?_
        simp only [fa_agg, fa_one, fa_nil, List.cons_append, List.nil_append, List.append_nil]
        refine itT rfl ?_
        have m258 : Num 1048576 (cr x0) x0 := Num.of h0.sm
        refine call_step (n_penumbraref03_Is_t (m258.mono (by decide)) (m258.mono (by decide)) rfl) rfl ?_
        simp only [fa_agg, fa_one, fa_nil, List.cons_append, List.nil_append, List.append_nil]
        refine itT rfl ?_
        have m259 : Num 1048576 (cr x1) x1 := Num.of h1.sm
        refine call_step (n_penumbraref03_Is_t (m259.mono (by decide)) (m259.mono (by decide)) rfl) rfl ?_
        simp only [fa_agg, fa_one, fa_nil, List.cons_append, List.nil_append, List.append_nil]
        refine itT rfl ?_
        have m260 : Num 1 (cr Z0) Z0 := Num.c Y0 (by decide +kernel) (by decide +kernel)
        refine call_step (n_penumbraref03_Is_t (m260.mono (by decide)) (m260.mono (by decide)) rfl) rfl ?_
        simp only [fa_agg, fa_one, fa_nil, List.cons_append, List.nil_append, List.append_nil]
        refine itT rfl ?_
        refine primS (.bool true) rfl ?_
        refine itT rfl ?_
        by_cases c261 : x1 < Z0
        · skip
          obtain ⟨q262, e262⟩ := ex_eq (Z1 + (-x1))
          have c263 : ¬(q262 = Z0) := (fun z => Rat.ne_of_lt (s_add_pp Y0 e262 (show (Z0 < Z1) by rw [Y0, Y1] <;> decide +kernel) (s_neg_n (b := Z0) Y0 rfl c261)) z.symm)
          obtain ⟨q264, e264⟩ := ex_eq (x1 / q262)
          have d264 := div_mul Y0 e264 c263
          obtain ⟨q265, e265⟩ := ex_eq (Z1_2 * (Z1 + q264))
          refine call_step (n_warp_Back_1 (k0 := q262) (k1 := q264) (k2 := q265) Y0 Y1_2 Y1 (h1.mono (by decide)) e262 e264 e265 c261 c263) rfl ?_
          simp only [fa_agg, fa_one, fa_nil, List.cons_append, List.nil_append, List.append_nil]
          have u266 : q264 = (x1 / (Z1 + (-x1))) := (WarpTells_al267 Y0 Y1 e262 d264 c263)
          have u268 : q265 = ((Z1 + q264) / Z2) := (WarpTells_al269 Y0 Y1_2 Y1 Y2 e262 d264 e265 c263)
          refine call_step (n_penumbraref14_Back_0 (k0 := q264) (k1 := q265) Y0 Y1 Y2 (h1.mono (by decide)) u266 u268 c261) rfl ?_
          simp only [fa_agg, fa_one, fa_nil, List.cons_append, List.nil_append, List.append_nil]
          have m271 : Num 1 (cr Z1_2) Z1_2 := Num.c Y1_2 (by decide +kernel) (by decide +kernel)
          have m272 : Num 1 (cr Z1) Z1 := Num.c Y1 (by decide +kernel) (by decide +kernel)
          have m274 : Num 1048578 (cr q262) q262 := Num.eqn e262 (Sm.add m272.sm (Sm.neg h1.sm))
          have m273 : Num 2097154 (cr q264) q264 := Num.eqn e264 (Sm.div h1.sm m274.sm)
          have m270 : Num 2097157 (cr q265) q265 := Num.eqn e265 (Sm.mul m271.sm (Sm.add m272.sm m273.sm))
          refine call_step (n_penumbraref03_Is_t (m270.mono (by decide)) (m270.mono (by decide)) rfl) rfl ?_
          simp only [fa_agg, fa_one, fa_nil, List.cons_append, List.nil_append, List.append_nil]
          refine itT rfl ?_
          obtain ⟨q275, e275⟩ := ex_eq ((Z1 + (-x1)) * (Z1 + (-x1)))
          have c276 : ¬(q275 = Z0) := (fun z => Rat.ne_of_lt (s_mul_pp Y0 e275 (s_add_pp Y0 rfl (show (Z0 < Z1) by rw [Y0, Y1] <;> decide +kernel) (s_neg_n (b := Z0) Y0 rfl c261)) (s_add_pp Y0 rfl (show (Z0 < Z1) by rw [Y0, Y1] <;> decide +kernel) (s_neg_n (b := Z0) Y0 rfl c261))) z.symm)
          obtain ⟨q277, e277⟩ := ex_eq (Z1_2 / q275)
          have d277 := div_mul Y0 e277 c276
          refine call_step (n_warp_Density_1 (k0 := q275) (k1 := q277) Y0 Y1_2 Y1 (h1.mono (by decide)) e275 e277 c261 c276) rfl ?_
          simp only [fa_agg, fa_one, fa_nil, List.cons_append, List.nil_append, List.append_nil]
          have u278 : q277 = (Z1 / (Z2 * ((Z1 + (-x1)) * (Z1 + (-x1))))) := (WarpTells_al279 Y0 Y1_2 Y1 Y2 e275 d277 c276)
          refine call_step (n_penumbraref14_Density_0 (k0 := q277) Y0 Y1 Y2 (h1.mono (by decide)) u278 c261) rfl ?_
          simp only [fa_agg, fa_one, fa_nil, List.cons_append, List.nil_append, List.append_nil]
          have m281 : Num 2097156 (cr q275) q275 := Num.eqn e275 (Sm.mul (Sm.add m272.sm (Sm.neg h1.sm)) (Sm.add m272.sm (Sm.neg h1.sm)))
          have m280 : Num 2097157 (cr q277) q277 := Num.eqn e277 (Sm.div m271.sm m281.sm)
          refine call_step (n_penumbraref03_Is_t (m280.mono (by decide)) (m280.mono (by decide)) rfl) rfl ?_
          simp only [fa_agg, fa_one, fa_nil, List.cons_append, List.nil_append, List.append_nil]
          exact ret_step rfl
        · skip
          have u282 : Z1 = (Z1 + x1) := (WarpTells_al283 Y0 Y1 e1 c2 c148 c149 c261)
          have u284 : Z0 = (x1 / Z1) := (WarpTells_al285 Y0 Y1 e1 c2 c148 c149 c261)
          refine call_step (n_warp_Back_3 (k0 := Z1) (k1 := Z0) (k2 := Z1_2) Y0 Y1_2 Y1 (h1.mono (by decide)) u282 u284 (by rw [Y1_2, Y1, Y0] <;> decide +kernel) c261 (show ¬(Z1 = Z0) by rw [Y1, Y0] <;> decide +kernel)) rfl ?_
          simp only [fa_agg, fa_one, fa_nil, List.cons_append, List.nil_append, List.append_nil]
          have u286 : Z0 = (x1 / (Z1 + x1)) := (WarpTells_al287 Y0 Y1 e1 c2 c148 c149 c261)
          refine call_step (n_penumbraref14_Back_1 (k0 := Z0) (k1 := Z1_2) Y0 Y1 Y2 (h1.mono (by decide)) u286 (by rw [Y1_2, Y1, Y0, Y2] <;> decide +kernel) c261) rfl ?_
          simp only [fa_agg, fa_one, fa_nil, List.cons_append, List.nil_append, List.append_nil]
          have m288 : Num 1 (cr Z1_2) Z1_2 := Num.c Y1_2 (by decide +kernel) (by decide +kernel)
          refine call_step (n_penumbraref03_Is_t (m288.mono (by decide)) (m288.mono (by decide)) rfl) rfl ?_
          simp only [fa_agg, fa_one, fa_nil, List.cons_append, List.nil_append, List.append_nil]
          refine itT rfl ?_
          have u289 : Z1 = ((Z1 + x1) * (Z1 + x1)) := (WarpTells_al290 Y0 Y1 e1 c2 c148 c149 c261)
          refine call_step (n_warp_Density_3 (k0 := Z1) (k1 := Z1_2) Y0 Y1_2 Y1 (h1.mono (by decide)) u289 (by rw [Y1_2, Y1] <;> decide +kernel) c261 (show ¬(Z1 = Z0) by rw [Y1, Y0] <;> decide +kernel)) rfl ?_
          simp only [fa_agg, fa_one, fa_nil, List.cons_append, List.nil_append, List.append_nil]
          have u291 : Z1_2 = (Z1 / (Z2 * ((Z1 + x1) * (Z1 + x1)))) := (WarpTells_al292 Y0 Y1_2 Y1 Y2 e1 c2 c148 c149 c261)
          refine call_step (n_penumbraref14_Density_1 (k0 := Z1_2) Y0 Y1 Y2 (h1.mono (by decide)) u291 c261) rfl ?_
          simp only [fa_agg, fa_one, fa_nil, List.cons_append, List.nil_append, List.append_nil]
          refine call_step (n_penumbraref03_Is_t (m288.mono (by decide)) (m288.mono (by decide)) rfl) rfl ?_
          simp only [fa_agg, fa_one, fa_nil, List.cons_append, List.nil_append, List.append_nil]
          exact ret_step rfl
    · skip
      refine call_step (n_warp_Line_5 Y0 (h0.mono (by decide)) c148) rfl ?_
      simp only [fa_agg, fa_one, fa_nil, List.cons_append, List.nil_append, List.append_nil]
      refine call_step (n_penumbraref14_Line_3 Y0 (h0.mono (by decide)) c148) rfl ?_
      simp only [fa_agg, fa_one, fa_nil, List.cons_append, List.nil_append, List.append_nil]
      refine call_step n_penumbralaw14_fixed rfl ?_
      simp only [fa_agg, fa_one, fa_nil, List.cons_append, List.nil_append, List.append_nil]
      refine itT rfl ?_
      have m293 : Num 1048576 (cr x0) x0 := Num.of h0.sm
      refine call_step (n_penumbraref03_Is_t (m293.mono (by decide)) (m293.mono (by decide)) rfl) rfl ?_
      simp only [fa_agg, fa_one, fa_nil, List.cons_append, List.nil_append, List.append_nil]
      refine itT rfl ?_
      have m294 : Num 1048576 (cr x1) x1 := Num.of h1.sm
      refine call_step (n_penumbraref03_Is_t (m294.mono (by decide)) (m294.mono (by decide)) rfl) rfl ?_
      simp only [fa_agg, fa_one, fa_nil, List.cons_append, List.nil_append, List.append_nil]
      refine itT rfl ?_
      have m295 : Num 1 (cr Z0) Z0 := Num.c Y0 (by decide +kernel) (by decide +kernel)
      refine call_step (n_penumbraref03_Is_t (m295.mono (by decide)) (m295.mono (by decide)) rfl) rfl ?_
      simp only [fa_agg, fa_one, fa_nil, List.cons_append, List.nil_append, List.append_nil]
      refine itT rfl ?_
      refine primS (.bool true) rfl ?_
      refine itT rfl ?_
      by_cases c296 : x1 < Z0
      · skip
        obtain ⟨q297, e297⟩ := ex_eq (Z1 + (-x1))
        have c298 : ¬(q297 = Z0) := (fun z => Rat.ne_of_lt (s_add_pp Y0 e297 (show (Z0 < Z1) by rw [Y0, Y1] <;> decide +kernel) (s_neg_n (b := Z0) Y0 rfl c296)) z.symm)
        obtain ⟨q299, e299⟩ := ex_eq (x1 / q297)
        have d299 := div_mul Y0 e299 c298
        obtain ⟨q300, e300⟩ := ex_eq (Z1_2 * (Z1 + q299))
        refine call_step (n_warp_Back_1 (k0 := q297) (k1 := q299) (k2 := q300) Y0 Y1_2 Y1 (h1.mono (by decide)) e297 e299 e300 c296 c298) rfl ?_
        simp only [fa_agg, fa_one, fa_nil, List.cons_append, List.nil_append, List.append_nil]
        have u301 : q299 = (x1 / (Z1 + (-x1))) := (WarpTells_al302 Y0 Y1 e297 d299 c298)
        have u303 : q300 = ((Z1 + q299) / Z2) := (WarpTells_al304 Y0 Y1_2 Y1 Y2 e297 d299 e300 c298)
        refine call_step (n_penumbraref14_Back_0 (k0 := q299) (k1 := q300) Y0 Y1 Y2 (h1.mono (by decide)) u301 u303 c296) rfl ?_
        simp only [fa_agg, fa_one, fa_nil, List.cons_append, List.nil_append, List.append_nil]
        have m306 : Num 1 (cr Z1_2) Z1_2 := Num.c Y1_2 (by decide +kernel) (by decide +kernel)
        have m307 : Num 1 (cr Z1) Z1 := Num.c Y1 (by decide +kernel) (by decide +kernel)
        have m309 : Num 1048578 (cr q297) q297 := Num.eqn e297 (Sm.add m307.sm (Sm.neg h1.sm))
        have m308 : Num 2097154 (cr q299) q299 := Num.eqn e299 (Sm.div h1.sm m309.sm)
        have m305 : Num 2097157 (cr q300) q300 := Num.eqn e300 (Sm.mul m306.sm (Sm.add m307.sm m308.sm))
        refine call_step (n_penumbraref03_Is_t (m305.mono (by decide)) (m305.mono (by decide)) rfl) rfl ?_
        simp only [fa_agg, fa_one, fa_nil, List.cons_append, List.nil_append, List.append_nil]
        refine itT rfl ?_
        obtain ⟨q310, e310⟩ := ex_eq ((Z1 + (-x1)) * (Z1 + (-x1)))
        have c311 : ¬(q310 = Z0) := (fun z => Rat.ne_of_lt (s_mul_pp Y0 e310 (s_add_pp Y0 rfl (show (Z0 < Z1) by rw [Y0, Y1] <;> decide +kernel) (s_neg_n (b := Z0) Y0 rfl c296)) (s_add_pp Y0 rfl (show (Z0 < Z1) by rw [Y0, Y1] <;> decide +kernel) (s_neg_n (b := Z0) Y0 rfl c296))) z.symm)
        obtain ⟨q312, e312⟩ := ex_eq (Z1_2 / q310)
        have d312 := div_mul Y0 e312 c311
        refine call_step (n_warp_Density_1 (k0 := q310) (k1 := q312) Y0 Y1_2 Y1 (h1.mono (by decide)) e310 e312 c296 c311) rfl ?_
        simp only [fa_agg, fa_one, fa_nil, List.cons_append, List.nil_append, List.append_nil]
        have u313 : q312 = (Z1 / (Z2 * ((Z1 + (-x1)) * (Z1 + (-x1))))) := (WarpTells_al314 Y0 Y1_2 Y1 Y2 e310 d312 c311)
        refine call_step (n_penumbraref14_Density_0 (k0 := q312) Y0 Y1 Y2 (h1.mono (by decide)) u313 c296) rfl ?_
        simp only [fa_agg, fa_one, fa_nil, List.cons_append, List.nil_append, List.append_nil]
        have m316 : Num 2097156 (cr q310) q310 := Num.eqn e310 (Sm.mul (Sm.add m307.sm (Sm.neg h1.sm)) (Sm.add m307.sm (Sm.neg h1.sm)))
        have m315 : Num 2097157 (cr q312) q312 := Num.eqn e312 (Sm.div m306.sm m316.sm)
        refine call_step (n_penumbraref03_Is_t (m315.mono (by decide)) (m315.mono (by decide)) rfl) rfl ?_
        simp only [fa_agg, fa_one, fa_nil, List.cons_append, List.nil_append, List.append_nil]
        exact ret_step rfl
      · skip
        obtain ⟨q317, e317⟩ := ex_eq (Z1 + x1)
        have c318 : ¬(q317 = Z0) := (fun z => Rat.ne_of_lt (s_add_pw Y0 e317 (show (Z0 < Z1) by rw [Y0, Y1] <;> decide +kernel) c296) z.symm)
        obtain ⟨q319, e319⟩ := ex_eq (x1 / q317)
        have d319 := div_mul Y0 e319 c318
        obtain ⟨q320, e320⟩ := ex_eq (Z1_2 * (Z1 + q319))
        refine call_step (n_warp_Back_3 (k0 := q317) (k1 := q319) (k2 := q320) Y0 Y1_2 Y1 (h1.mono (by decide)) e317 e319 e320 c296 c318) rfl ?_
        simp only [fa_agg, fa_one, fa_nil, List.cons_append, List.nil_append, List.append_nil]
        have u321 : q319 = (x1 / (Z1 + x1)) := (WarpTells_al322 Y0 Y1 e317 d319 c318)
        have u323 : q320 = ((Z1 + q319) / Z2) := (WarpTells_al324 Y0 Y1_2 Y1 Y2 e317 d319 e320 c318)
        refine call_step (n_penumbraref14_Back_1 (k0 := q319) (k1 := q320) Y0 Y1 Y2 (h1.mono (by decide)) u321 u323 c296) rfl ?_
        simp only [fa_agg, fa_one, fa_nil, List.cons_append, List.nil_append, List.append_nil]
        have m326 : Num 1 (cr Z1_2) Z1_2 := Num.c Y1_2 (by decide +kernel) (by decide +kernel)
        have m327 : Num 1 (cr Z1) Z1 := Num.c Y1 (by decide +kernel) (by decide +kernel)
        have m329 : Num 1048578 (cr q317) q317 := Num.eqn e317 (Sm.add m327.sm m294.sm)
        have m328 : Num 2097154 (cr q319) q319 := Num.eqn e319 (Sm.div h1.sm m329.sm)
        have m325 : Num 2097157 (cr q320) q320 := Num.eqn e320 (Sm.mul m326.sm (Sm.add m327.sm m328.sm))
        refine call_step (n_penumbraref03_Is_t (m325.mono (by decide)) (m325.mono (by decide)) rfl) rfl ?_
        simp only [fa_agg, fa_one, fa_nil, List.cons_append, List.nil_append, List.append_nil]
        refine itT rfl ?_
        obtain ⟨q330, e330⟩ := ex_eq ((Z1 + x1) * (Z1 + x1))
        have c331 : ¬(q330 = Z0) := (fun z => Rat.ne_of_lt (s_mul_pp Y0 e330 (s_add_pw Y0 rfl (show (Z0 < Z1) by rw [Y0, Y1] <;> decide +kernel) c296) (s_add_pw Y0 rfl (show (Z0 < Z1) by rw [Y0, Y1] <;> decide +kernel) c296)) z.symm)
        obtain ⟨q332, e332⟩ := ex_eq (Z1_2 / q330)
        have d332 := div_mul Y0 e332 c331
        refine call_step (n_warp_Density_3 (k0 := q330) (k1 := q332) Y0 Y1_2 Y1 (h1.mono (by decide)) e330 e332 c296 c331) rfl ?_
        simp only [fa_agg, fa_one, fa_nil, List.cons_append, List.nil_append, List.append_nil]
        have u333 : q332 = (Z1 / (Z2 * ((Z1 + x1) * (Z1 + x1)))) := (WarpTells_al334 Y0 Y1_2 Y1 Y2 e330 d332 c331)
        refine call_step (n_penumbraref14_Density_1 (k0 := q332) Y0 Y1 Y2 (h1.mono (by decide)) u333 c296) rfl ?_
        simp only [fa_agg, fa_one, fa_nil, List.cons_append, List.nil_append, List.append_nil]
        have m336 : Num 2097156 (cr q330) q330 := Num.eqn e330 (Sm.mul (Sm.add m327.sm m294.sm) (Sm.add m327.sm m294.sm))
        have m335 : Num 2097157 (cr q332) q332 := Num.eqn e332 (Sm.div m326.sm m336.sm)
        refine call_step (n_penumbraref03_Is_t (m335.mono (by decide)) (m335.mono (by decide)) rfl) rfl ?_
        simp only [fa_agg, fa_one, fa_nil, List.cons_append, List.nil_append, List.append_nil]
        exact ret_step rfl

end Go.Px.Na

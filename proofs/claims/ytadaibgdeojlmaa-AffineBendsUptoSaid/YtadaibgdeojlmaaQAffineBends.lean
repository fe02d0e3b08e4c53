/- QAffineBends: whatever the numbers, the law tells true. -/
import Derived.Test.YtadaibgdeojlmaaXAffineBends
set_option maxRecDepth 20000
set_option maxHeartbeats 40000000
set_option linter.unusedVariables false
set_option linter.unusedSimpArgs false
namespace Go.Px.Na
open Go.RowKit
open Go.Proofs.Try (prog)

theorem AffineBends_al9 {Z0 Z1 : Rat} (Y0 : Z0 = (0 : Rat)) (Y1 : Z1 = (1 : Rat)) {q6 x6 x3 x4 : Rat} (e6 : q6 = (Z0 + (((x6 - Z1) * x3) * x4))) : q6 = (Z0 + (((x6 - Z1) * x4) * x3)) := by
  subst Y0 Y1 e6
  grind

theorem AffineBends_al13 {Z0 Z1 : Rat} (Y0 : Z0 = (0 : Rat)) (Y1 : Z1 = (1 : Rat)) {q7 x6 x3 x5 : Rat} (e7 : q7 = (Z0 + (((x6 - Z1) * x3) * x5))) : q7 = (Z0 + (((x6 - Z1) * x5) * x3)) := by
  subst Y0 Y1 e7
  grind

theorem AffineBends_al15 {Z0 Z1 : Rat} (Y0 : Z0 = (0 : Rat)) (Y1 : Z1 = (1 : Rat)) {q11 x6 x4 x5 : Rat} (e11 : q11 = (Z0 + (((x6 - Z1) * x4) * x5))) : q11 = (Z0 + (((x6 - Z1) * x5) * x4)) := by
  subst Y0 Y1 e11
  grind

theorem AffineBends_al24 {Z0 Z1 : Rat} (Y0 : Z0 = (0 : Rat)) (Y1 : Z1 = (1 : Rat)) {q21 x7 x3 x4 : Rat} (e21 : q21 = (Z0 + (((x7 - Z1) * x3) * x4))) : q21 = (Z0 + (((x7 - Z1) * x4) * x3)) := by
  subst Y0 Y1 e21
  grind

theorem AffineBends_al28 {Z0 Z1 : Rat} (Y0 : Z0 = (0 : Rat)) (Y1 : Z1 = (1 : Rat)) {q22 x7 x3 x5 : Rat} (e22 : q22 = (Z0 + (((x7 - Z1) * x3) * x5))) : q22 = (Z0 + (((x7 - Z1) * x5) * x3)) := by
  subst Y0 Y1 e22
  grind

theorem AffineBends_al30 {Z0 Z1 : Rat} (Y0 : Z0 = (0 : Rat)) (Y1 : Z1 = (1 : Rat)) {q26 x7 x4 x5 : Rat} (e26 : q26 = (Z0 + (((x7 - Z1) * x4) * x5))) : q26 = (Z0 + (((x7 - Z1) * x5) * x4)) := by
  subst Y0 Y1 e26
  grind

theorem AffineBends_al58 {Z0 Z1 : Rat} (Y0 : Z0 = (0 : Rat)) (Y1 : Z1 = (1 : Rat)) {q55 q20 x7 x3 q6 x6 x4 q21 q10 q22 x5 q11 q5 q25 q26 q7 q1 : Rat} (e20 : q20 = (Z1 + (((x7 - Z1) * x3) * x3))) (e6 : q6 = (Z0 + (((x6 - Z1) * x3) * x4))) (e21 : q21 = (Z0 + (((x7 - Z1) * x3) * x4))) (e10 : q10 = (Z1 + (((x6 - Z1) * x4) * x4))) (e22 : q22 = (Z0 + (((x7 - Z1) * x3) * x5))) (e11 : q11 = (Z0 + (((x6 - Z1) * x4) * x5))) (e55 : q55 = (((q20 * q6) + (q21 * q10)) + (q22 * q11))) (e5 : q5 = (Z1 + (((x6 - Z1) * x3) * x3))) (e25 : q25 = (Z1 + (((x7 - Z1) * x4) * x4))) (e26 : q26 = (Z0 + (((x7 - Z1) * x4) * x5))) (e7 : q7 = (Z0 + (((x6 - Z1) * x3) * x5))) (e1 : q1 = (((x3 * x3) + (x4 * x4)) + (x5 * x5))) (c4 : q1 = Z1) : q55 = (((q21 * q5) + (q25 * q6)) + (q26 * q7)) := by
  subst Y0 Y1 e20 e6 e21 e10 e22 e11 e55 e5 e25 e26 e7 e1
  grind

theorem AffineBends_al62 {Z0 Z1 : Rat} (Y0 : Z0 = (0 : Rat)) (Y1 : Z1 = (1 : Rat)) {q56 q20 x7 x3 q7 x6 x5 q21 x4 q11 q22 q16 q5 q26 q6 q31 q1 : Rat} (e20 : q20 = (Z1 + (((x7 - Z1) * x3) * x3))) (e7 : q7 = (Z0 + (((x6 - Z1) * x3) * x5))) (e21 : q21 = (Z0 + (((x7 - Z1) * x3) * x4))) (e11 : q11 = (Z0 + (((x6 - Z1) * x4) * x5))) (e22 : q22 = (Z0 + (((x7 - Z1) * x3) * x5))) (e16 : q16 = (Z1 + (((x6 - Z1) * x5) * x5))) (e56 : q56 = (((q20 * q7) + (q21 * q11)) + (q22 * q16))) (e5 : q5 = (Z1 + (((x6 - Z1) * x3) * x3))) (e26 : q26 = (Z0 + (((x7 - Z1) * x4) * x5))) (e6 : q6 = (Z0 + (((x6 - Z1) * x3) * x4))) (e31 : q31 = (Z1 + (((x7 - Z1) * x5) * x5))) (e1 : q1 = (((x3 * x3) + (x4 * x4)) + (x5 * x5))) (c4 : q1 = Z1) : q56 = (((q22 * q5) + (q26 * q6)) + (q31 * q7)) := by
  subst Y0 Y1 e20 e7 e21 e11 e22 e16 e56 e5 e26 e6 e31 e1
  grind

theorem AffineBends_al64 {Z0 Z1 : Rat} (Y0 : Z0 = (0 : Rat)) (Y1 : Z1 = (1 : Rat)) {q60 q21 x7 x3 x4 q7 x6 x5 q25 q11 q26 q16 q22 q6 q10 q31 q1 : Rat} (e21 : q21 = (Z0 + (((x7 - Z1) * x3) * x4))) (e7 : q7 = (Z0 + (((x6 - Z1) * x3) * x5))) (e25 : q25 = (Z1 + (((x7 - Z1) * x4) * x4))) (e11 : q11 = (Z0 + (((x6 - Z1) * x4) * x5))) (e26 : q26 = (Z0 + (((x7 - Z1) * x4) * x5))) (e16 : q16 = (Z1 + (((x6 - Z1) * x5) * x5))) (e60 : q60 = (((q21 * q7) + (q25 * q11)) + (q26 * q16))) (e22 : q22 = (Z0 + (((x7 - Z1) * x3) * x5))) (e6 : q6 = (Z0 + (((x6 - Z1) * x3) * x4))) (e10 : q10 = (Z1 + (((x6 - Z1) * x4) * x4))) (e31 : q31 = (Z1 + (((x7 - Z1) * x5) * x5))) (e1 : q1 = (((x3 * x3) + (x4 * x4)) + (x5 * x5))) (c4 : q1 = Z1) : q60 = (((q22 * q6) + (q26 * q10)) + (q31 * q11)) := by
  subst Y0 Y1 e21 e7 e25 e11 e26 e16 e60 e22 e6 e10 e31 e1
  grind

theorem AffineBends_al73 {Z0 Z1 : Rat} (Y0 : Z0 = (0 : Rat)) (Y1 : Z1 = (1 : Rat)) {q54 q20 x7 x3 q5 x6 q21 x4 q6 q22 x5 q7 q70 q1 : Rat} (e20 : q20 = (Z1 + (((x7 - Z1) * x3) * x3))) (e5 : q5 = (Z1 + (((x6 - Z1) * x3) * x3))) (e21 : q21 = (Z0 + (((x7 - Z1) * x3) * x4))) (e6 : q6 = (Z0 + (((x6 - Z1) * x3) * x4))) (e22 : q22 = (Z0 + (((x7 - Z1) * x3) * x5))) (e7 : q7 = (Z0 + (((x6 - Z1) * x3) * x5))) (e54 : q54 = (((q20 * q5) + (q21 * q6)) + (q22 * q7))) (e70 : q70 = (x6 * x7)) (e1 : q1 = (((x3 * x3) + (x4 * x4)) + (x5 * x5))) (c4 : q1 = Z1) : q54 = (Z1 + (((q70 - Z1) * x3) * x3)) := by
  subst Y0 Y1 e20 e5 e21 e6 e22 e7 e54 e70 e1
  grind

theorem AffineBends_al75 {Z0 Z1 : Rat} (Y0 : Z0 = (0 : Rat)) (Y1 : Z1 = (1 : Rat)) {q55 q20 x7 x3 q6 x6 x4 q21 q10 q22 x5 q11 q70 q1 : Rat} (e20 : q20 = (Z1 + (((x7 - Z1) * x3) * x3))) (e6 : q6 = (Z0 + (((x6 - Z1) * x3) * x4))) (e21 : q21 = (Z0 + (((x7 - Z1) * x3) * x4))) (e10 : q10 = (Z1 + (((x6 - Z1) * x4) * x4))) (e22 : q22 = (Z0 + (((x7 - Z1) * x3) * x5))) (e11 : q11 = (Z0 + (((x6 - Z1) * x4) * x5))) (e55 : q55 = (((q20 * q6) + (q21 * q10)) + (q22 * q11))) (e70 : q70 = (x6 * x7)) (e1 : q1 = (((x3 * x3) + (x4 * x4)) + (x5 * x5))) (c4 : q1 = Z1) : q55 = (Z0 + (((q70 - Z1) * x3) * x4)) := by
  subst Y0 Y1 e20 e6 e21 e10 e22 e11 e55 e70 e1
  grind

theorem AffineBends_al77 {Z0 Z1 : Rat} (Y0 : Z0 = (0 : Rat)) (Y1 : Z1 = (1 : Rat)) {q56 q20 x7 x3 q7 x6 x5 q21 x4 q11 q22 q16 q70 q1 : Rat} (e20 : q20 = (Z1 + (((x7 - Z1) * x3) * x3))) (e7 : q7 = (Z0 + (((x6 - Z1) * x3) * x5))) (e21 : q21 = (Z0 + (((x7 - Z1) * x3) * x4))) (e11 : q11 = (Z0 + (((x6 - Z1) * x4) * x5))) (e22 : q22 = (Z0 + (((x7 - Z1) * x3) * x5))) (e16 : q16 = (Z1 + (((x6 - Z1) * x5) * x5))) (e56 : q56 = (((q20 * q7) + (q21 * q11)) + (q22 * q16))) (e70 : q70 = (x6 * x7)) (e1 : q1 = (((x3 * x3) + (x4 * x4)) + (x5 * x5))) (c4 : q1 = Z1) : q56 = (Z0 + (((q70 - Z1) * x3) * x5)) := by
  subst Y0 Y1 e20 e7 e21 e11 e22 e16 e56 e70 e1
  grind

theorem AffineBends_al79 {Z0 Z1 : Rat} (Y0 : Z0 = (0 : Rat)) (Y1 : Z1 = (1 : Rat)) {q55 q20 x7 x3 q6 x6 x4 q21 q10 q22 x5 q11 q70 q1 : Rat} (e20 : q20 = (Z1 + (((x7 - Z1) * x3) * x3))) (e6 : q6 = (Z0 + (((x6 - Z1) * x3) * x4))) (e21 : q21 = (Z0 + (((x7 - Z1) * x3) * x4))) (e10 : q10 = (Z1 + (((x6 - Z1) * x4) * x4))) (e22 : q22 = (Z0 + (((x7 - Z1) * x3) * x5))) (e11 : q11 = (Z0 + (((x6 - Z1) * x4) * x5))) (e55 : q55 = (((q20 * q6) + (q21 * q10)) + (q22 * q11))) (e70 : q70 = (x6 * x7)) (e1 : q1 = (((x3 * x3) + (x4 * x4)) + (x5 * x5))) (c4 : q1 = Z1) : q55 = (Z0 + (((q70 - Z1) * x4) * x3)) := by
  subst Y0 Y1 e20 e6 e21 e10 e22 e11 e55 e70 e1
  grind

theorem AffineBends_al81 {Z0 Z1 : Rat} (Y0 : Z0 = (0 : Rat)) (Y1 : Z1 = (1 : Rat)) {q59 q21 x7 x3 x4 q6 x6 q25 q10 q26 x5 q11 q70 q1 : Rat} (e21 : q21 = (Z0 + (((x7 - Z1) * x3) * x4))) (e6 : q6 = (Z0 + (((x6 - Z1) * x3) * x4))) (e25 : q25 = (Z1 + (((x7 - Z1) * x4) * x4))) (e10 : q10 = (Z1 + (((x6 - Z1) * x4) * x4))) (e26 : q26 = (Z0 + (((x7 - Z1) * x4) * x5))) (e11 : q11 = (Z0 + (((x6 - Z1) * x4) * x5))) (e59 : q59 = (((q21 * q6) + (q25 * q10)) + (q26 * q11))) (e70 : q70 = (x6 * x7)) (e1 : q1 = (((x3 * x3) + (x4 * x4)) + (x5 * x5))) (c4 : q1 = Z1) : q59 = (Z1 + (((q70 - Z1) * x4) * x4)) := by
  subst Y0 Y1 e21 e6 e25 e10 e26 e11 e59 e70 e1
  grind

theorem AffineBends_al83 {Z0 Z1 : Rat} (Y0 : Z0 = (0 : Rat)) (Y1 : Z1 = (1 : Rat)) {q60 q21 x7 x3 x4 q7 x6 x5 q25 q11 q26 q16 q70 q1 : Rat} (e21 : q21 = (Z0 + (((x7 - Z1) * x3) * x4))) (e7 : q7 = (Z0 + (((x6 - Z1) * x3) * x5))) (e25 : q25 = (Z1 + (((x7 - Z1) * x4) * x4))) (e11 : q11 = (Z0 + (((x6 - Z1) * x4) * x5))) (e26 : q26 = (Z0 + (((x7 - Z1) * x4) * x5))) (e16 : q16 = (Z1 + (((x6 - Z1) * x5) * x5))) (e60 : q60 = (((q21 * q7) + (q25 * q11)) + (q26 * q16))) (e70 : q70 = (x6 * x7)) (e1 : q1 = (((x3 * x3) + (x4 * x4)) + (x5 * x5))) (c4 : q1 = Z1) : q60 = (Z0 + (((q70 - Z1) * x4) * x5)) := by
  subst Y0 Y1 e21 e7 e25 e11 e26 e16 e60 e70 e1
  grind

theorem AffineBends_al85 {Z0 Z1 : Rat} (Y0 : Z0 = (0 : Rat)) (Y1 : Z1 = (1 : Rat)) {q56 q20 x7 x3 q7 x6 x5 q21 x4 q11 q22 q16 q70 q1 : Rat} (e20 : q20 = (Z1 + (((x7 - Z1) * x3) * x3))) (e7 : q7 = (Z0 + (((x6 - Z1) * x3) * x5))) (e21 : q21 = (Z0 + (((x7 - Z1) * x3) * x4))) (e11 : q11 = (Z0 + (((x6 - Z1) * x4) * x5))) (e22 : q22 = (Z0 + (((x7 - Z1) * x3) * x5))) (e16 : q16 = (Z1 + (((x6 - Z1) * x5) * x5))) (e56 : q56 = (((q20 * q7) + (q21 * q11)) + (q22 * q16))) (e70 : q70 = (x6 * x7)) (e1 : q1 = (((x3 * x3) + (x4 * x4)) + (x5 * x5))) (c4 : q1 = Z1) : q56 = (Z0 + (((q70 - Z1) * x5) * x3)) := by
  subst Y0 Y1 e20 e7 e21 e11 e22 e16 e56 e70 e1
  grind

theorem AffineBends_al87 {Z0 Z1 : Rat} (Y0 : Z0 = (0 : Rat)) (Y1 : Z1 = (1 : Rat)) {q60 q21 x7 x3 x4 q7 x6 x5 q25 q11 q26 q16 q70 q1 : Rat} (e21 : q21 = (Z0 + (((x7 - Z1) * x3) * x4))) (e7 : q7 = (Z0 + (((x6 - Z1) * x3) * x5))) (e25 : q25 = (Z1 + (((x7 - Z1) * x4) * x4))) (e11 : q11 = (Z0 + (((x6 - Z1) * x4) * x5))) (e26 : q26 = (Z0 + (((x7 - Z1) * x4) * x5))) (e16 : q16 = (Z1 + (((x6 - Z1) * x5) * x5))) (e60 : q60 = (((q21 * q7) + (q25 * q11)) + (q26 * q16))) (e70 : q70 = (x6 * x7)) (e1 : q1 = (((x3 * x3) + (x4 * x4)) + (x5 * x5))) (c4 : q1 = Z1) : q60 = (Z0 + (((q70 - Z1) * x5) * x4)) := by
  subst Y0 Y1 e21 e7 e25 e11 e26 e16 e60 e70 e1
  grind

theorem AffineBends_al89 {Z0 Z1 : Rat} (Y0 : Z0 = (0 : Rat)) (Y1 : Z1 = (1 : Rat)) {q65 q22 x7 x3 x5 q7 x6 q26 x4 q11 q31 q16 q70 q1 : Rat} (e22 : q22 = (Z0 + (((x7 - Z1) * x3) * x5))) (e7 : q7 = (Z0 + (((x6 - Z1) * x3) * x5))) (e26 : q26 = (Z0 + (((x7 - Z1) * x4) * x5))) (e11 : q11 = (Z0 + (((x6 - Z1) * x4) * x5))) (e31 : q31 = (Z1 + (((x7 - Z1) * x5) * x5))) (e16 : q16 = (Z1 + (((x6 - Z1) * x5) * x5))) (e65 : q65 = (((q22 * q7) + (q26 * q11)) + (q31 * q16))) (e70 : q70 = (x6 * x7)) (e1 : q1 = (((x3 * x3) + (x4 * x4)) + (x5 * x5))) (c4 : q1 = Z1) : q65 = (Z1 + (((q70 - Z1) * x5) * x5)) := by
  subst Y0 Y1 e22 e7 e26 e11 e31 e16 e65 e70 e1
  grind

theorem AffineBends_al91 {Z0 Z1 : Rat} (Y0 : Z0 = (0 : Rat)) (Y1 : Z1 = (1 : Rat)) {q66 q20 x7 x3 q17 x6 x0 x1 x4 x2 x5 q21 q18 q22 q19 q32 q70 q1 : Rat} (e20 : q20 = (Z1 + (((x7 - Z1) * x3) * x3))) (e17 : q17 = ((-((x6 - Z1) * (((x0 * x3) + (x1 * x4)) + (x2 * x5)))) * x3)) (e21 : q21 = (Z0 + (((x7 - Z1) * x3) * x4))) (e18 : q18 = ((-((x6 - Z1) * (((x0 * x3) + (x1 * x4)) + (x2 * x5)))) * x4)) (e22 : q22 = (Z0 + (((x7 - Z1) * x3) * x5))) (e19 : q19 = ((-((x6 - Z1) * (((x0 * x3) + (x1 * x4)) + (x2 * x5)))) * x5)) (e32 : q32 = ((-((x7 - Z1) * (((x0 * x3) + (x1 * x4)) + (x2 * x5)))) * x3)) (e66 : q66 = ((((q20 * q17) + (q21 * q18)) + (q22 * q19)) + q32)) (e70 : q70 = (x6 * x7)) (e1 : q1 = (((x3 * x3) + (x4 * x4)) + (x5 * x5))) (c4 : q1 = Z1) : q66 = ((-((q70 - Z1) * (((x0 * x3) + (x1 * x4)) + (x2 * x5)))) * x3) := by
  subst Y0 Y1 e20 e17 e21 e18 e22 e19 e32 e66 e70 e1
  grind

theorem AffineBends_al93 {Z0 Z1 : Rat} (Y0 : Z0 = (0 : Rat)) (Y1 : Z1 = (1 : Rat)) {q67 q21 x7 x3 x4 q17 x6 x0 x1 x2 x5 q25 q18 q26 q19 q33 q70 q1 : Rat} (e21 : q21 = (Z0 + (((x7 - Z1) * x3) * x4))) (e17 : q17 = ((-((x6 - Z1) * (((x0 * x3) + (x1 * x4)) + (x2 * x5)))) * x3)) (e25 : q25 = (Z1 + (((x7 - Z1) * x4) * x4))) (e18 : q18 = ((-((x6 - Z1) * (((x0 * x3) + (x1 * x4)) + (x2 * x5)))) * x4)) (e26 : q26 = (Z0 + (((x7 - Z1) * x4) * x5))) (e19 : q19 = ((-((x6 - Z1) * (((x0 * x3) + (x1 * x4)) + (x2 * x5)))) * x5)) (e33 : q33 = ((-((x7 - Z1) * (((x0 * x3) + (x1 * x4)) + (x2 * x5)))) * x4)) (e67 : q67 = ((((q21 * q17) + (q25 * q18)) + (q26 * q19)) + q33)) (e70 : q70 = (x6 * x7)) (e1 : q1 = (((x3 * x3) + (x4 * x4)) + (x5 * x5))) (c4 : q1 = Z1) : q67 = ((-((q70 - Z1) * (((x0 * x3) + (x1 * x4)) + (x2 * x5)))) * x4) := by
  subst Y0 Y1 e21 e17 e25 e18 e26 e19 e33 e67 e70 e1
  grind

theorem AffineBends_al95 {Z0 Z1 : Rat} (Y0 : Z0 = (0 : Rat)) (Y1 : Z1 = (1 : Rat)) {q68 q22 x7 x3 x5 q17 x6 x0 x1 x4 x2 q26 q18 q31 q19 q34 q70 q1 : Rat} (e22 : q22 = (Z0 + (((x7 - Z1) * x3) * x5))) (e17 : q17 = ((-((x6 - Z1) * (((x0 * x3) + (x1 * x4)) + (x2 * x5)))) * x3)) (e26 : q26 = (Z0 + (((x7 - Z1) * x4) * x5))) (e18 : q18 = ((-((x6 - Z1) * (((x0 * x3) + (x1 * x4)) + (x2 * x5)))) * x4)) (e31 : q31 = (Z1 + (((x7 - Z1) * x5) * x5))) (e19 : q19 = ((-((x6 - Z1) * (((x0 * x3) + (x1 * x4)) + (x2 * x5)))) * x5)) (e34 : q34 = ((-((x7 - Z1) * (((x0 * x3) + (x1 * x4)) + (x2 * x5)))) * x5)) (e68 : q68 = ((((q22 * q17) + (q26 * q18)) + (q31 * q19)) + q34)) (e70 : q70 = (x6 * x7)) (e1 : q1 = (((x3 * x3) + (x4 * x4)) + (x5 * x5))) (c4 : q1 = Z1) : q68 = ((-((q70 - Z1) * (((x0 * x3) + (x1 * x4)) + (x2 * x5)))) * x5) := by
  subst Y0 Y1 e22 e17 e26 e18 e31 e19 e34 e68 e70 e1
  grind

theorem AffineBends_al106 {Z0 Z1 : Rat} (Y0 : Z0 = (0 : Rat)) (Y1 : Z1 = (1 : Rat)) {x6 q5 x3 q10 x4 q16 x5 q11 q6 q7 q1 : Rat} (e5 : q5 = (Z1 + (((x6 - Z1) * x3) * x3))) (e10 : q10 = (Z1 + (((x6 - Z1) * x4) * x4))) (e16 : q16 = (Z1 + (((x6 - Z1) * x5) * x5))) (e11 : q11 = (Z0 + (((x6 - Z1) * x4) * x5))) (e6 : q6 = (Z0 + (((x6 - Z1) * x3) * x4))) (e7 : q7 = (Z0 + (((x6 - Z1) * x3) * x5))) (e1 : q1 = (((x3 * x3) + (x4 * x4)) + (x5 * x5))) (c4 : q1 = Z1) : x6 = (((q5 * ((q10 * q16) - (q11 * q11))) + (q6 * ((q11 * q7) - (q6 * q16)))) + (q7 * ((q6 * q11) - (q10 * q7)))) := by
  subst Y0 Y1 e5 e10 e16 e11 e6 e7 e1
  grind

theorem AffineBends_al132 {Z0 Z1 : Rat} (Y0 : Z0 = (0 : Rat)) (Y1 : Z1 = (1 : Rat)) {q122 x8 q116 q114 q108 x0 x3 q109 x9 x1 x4 q110 x10 x2 x5 q5 x6 q6 q123 q117 q7 q124 q118 q17 q1 : Rat} (e108 : q108 = (x8 - x0)) (e109 : q109 = (x9 - x1)) (e110 : q110 = (x10 - x2)) (e114 : q114 = (((q108 * x3) + (q109 * x4)) + (q110 * x5))) (e116 : q116 = (q114 * x3)) (e122 : q122 = (x8 - q116)) (e5 : q5 = (Z1 + (((x6 - Z1) * x3) * x3))) (e6 : q6 = (Z0 + (((x6 - Z1) * x3) * x4))) (e117 : q117 = (q114 * x4)) (e123 : q123 = (x9 - q117)) (e7 : q7 = (Z0 + (((x6 - Z1) * x3) * x5))) (e118 : q118 = (q114 * x5)) (e124 : q124 = (x10 - q118)) (e17 : q17 = ((-((x6 - Z1) * (((x0 * x3) + (x1 * x4)) + (x2 * x5)))) * x3)) (e1 : q1 = (((x3 * x3) + (x4 * x4)) + (x5 * x5))) (c4 : q1 = Z1) : q122 = ((((q5 * q122) + (q6 * q123)) + (q7 * q124)) + q17) := by
  subst Y0 Y1 e108 e109 e110 e114 e116 e122 e5 e6 e117 e123 e7 e118 e124 e17 e1
  grind

theorem AffineBends_al134 {Z0 Z1 : Rat} (Y0 : Z0 = (0 : Rat)) (Y1 : Z1 = (1 : Rat)) {q123 x9 q117 q114 q108 x8 x0 x3 q109 x1 x4 q110 x10 x2 x5 q6 x6 q122 q116 q10 q11 q124 q118 q18 q1 : Rat} (e108 : q108 = (x8 - x0)) (e109 : q109 = (x9 - x1)) (e110 : q110 = (x10 - x2)) (e114 : q114 = (((q108 * x3) + (q109 * x4)) + (q110 * x5))) (e117 : q117 = (q114 * x4)) (e123 : q123 = (x9 - q117)) (e6 : q6 = (Z0 + (((x6 - Z1) * x3) * x4))) (e116 : q116 = (q114 * x3)) (e122 : q122 = (x8 - q116)) (e10 : q10 = (Z1 + (((x6 - Z1) * x4) * x4))) (e11 : q11 = (Z0 + (((x6 - Z1) * x4) * x5))) (e118 : q118 = (q114 * x5)) (e124 : q124 = (x10 - q118)) (e18 : q18 = ((-((x6 - Z1) * (((x0 * x3) + (x1 * x4)) + (x2 * x5)))) * x4)) (e1 : q1 = (((x3 * x3) + (x4 * x4)) + (x5 * x5))) (c4 : q1 = Z1) : q123 = ((((q6 * q122) + (q10 * q123)) + (q11 * q124)) + q18) := by
  subst Y0 Y1 e108 e109 e110 e114 e117 e123 e6 e116 e122 e10 e11 e118 e124 e18 e1
  grind

theorem AffineBends_al136 {Z0 Z1 : Rat} (Y0 : Z0 = (0 : Rat)) (Y1 : Z1 = (1 : Rat)) {q124 x10 q118 q114 q108 x8 x0 x3 q109 x9 x1 x4 q110 x2 x5 q7 x6 q122 q116 q11 q123 q117 q16 q19 q1 : Rat} (e108 : q108 = (x8 - x0)) (e109 : q109 = (x9 - x1)) (e110 : q110 = (x10 - x2)) (e114 : q114 = (((q108 * x3) + (q109 * x4)) + (q110 * x5))) (e118 : q118 = (q114 * x5)) (e124 : q124 = (x10 - q118)) (e7 : q7 = (Z0 + (((x6 - Z1) * x3) * x5))) (e116 : q116 = (q114 * x3)) (e122 : q122 = (x8 - q116)) (e11 : q11 = (Z0 + (((x6 - Z1) * x4) * x5))) (e117 : q117 = (q114 * x4)) (e123 : q123 = (x9 - q117)) (e16 : q16 = (Z1 + (((x6 - Z1) * x5) * x5))) (e19 : q19 = ((-((x6 - Z1) * (((x0 * x3) + (x1 * x4)) + (x2 * x5)))) * x5)) (e1 : q1 = (((x3 * x3) + (x4 * x4)) + (x5 * x5))) (c4 : q1 = Z1) : q124 = ((((q7 * q122) + (q11 * q123)) + (q16 * q124)) + q19) := by
  subst Y0 Y1 e108 e109 e110 e114 e118 e124 e7 e116 e122 e11 e117 e123 e16 e19 e1
  grind

theorem AffineBends_al149 {Z0 Z1 : Rat} (Y0 : Z0 = (0 : Rat)) (Y1 : Z1 = (1 : Rat)) {q146 q140 q125 q5 x6 x3 x8 q6 x4 x9 q7 x5 x10 q17 x0 x1 x2 q141 q126 q10 q11 q18 q142 q127 q16 q19 q114 q108 q109 q110 q1 : Rat} (e5 : q5 = (Z1 + (((x6 - Z1) * x3) * x3))) (e6 : q6 = (Z0 + (((x6 - Z1) * x3) * x4))) (e7 : q7 = (Z0 + (((x6 - Z1) * x3) * x5))) (e17 : q17 = ((-((x6 - Z1) * (((x0 * x3) + (x1 * x4)) + (x2 * x5)))) * x3)) (e125 : q125 = ((((q5 * x8) + (q6 * x9)) + (q7 * x10)) + q17)) (e140 : q140 = (q125 - x0)) (e10 : q10 = (Z1 + (((x6 - Z1) * x4) * x4))) (e11 : q11 = (Z0 + (((x6 - Z1) * x4) * x5))) (e18 : q18 = ((-((x6 - Z1) * (((x0 * x3) + (x1 * x4)) + (x2 * x5)))) * x4)) (e126 : q126 = ((((q6 * x8) + (q10 * x9)) + (q11 * x10)) + q18)) (e141 : q141 = (q126 - x1)) (e16 : q16 = (Z1 + (((x6 - Z1) * x5) * x5))) (e19 : q19 = ((-((x6 - Z1) * (((x0 * x3) + (x1 * x4)) + (x2 * x5)))) * x5)) (e127 : q127 = ((((q7 * x8) + (q11 * x9)) + (q16 * x10)) + q19)) (e142 : q142 = (q127 - x2)) (e146 : q146 = (((q140 * x3) + (q141 * x4)) + (q142 * x5))) (e108 : q108 = (x8 - x0)) (e109 : q109 = (x9 - x1)) (e110 : q110 = (x10 - x2)) (e114 : q114 = (((q108 * x3) + (q109 * x4)) + (q110 * x5))) (e1 : q1 = (((x3 * x3) + (x4 * x4)) + (x5 * x5))) (c4 : q1 = Z1) : q146 = (x6 * q114) := by
  subst Y0 Y1 e5 e6 e7 e17 e125 e140 e10 e11 e18 e126 e141 e16 e19 e127 e142 e146 e108 e109 e110 e114 e1
  grind

theorem AffineBends_al158 {Z0 Z1 : Rat} (Y0 : Z0 = (0 : Rat)) (Y1 : Z1 = (1 : Rat)) {q122 x8 q116 q114 q108 x0 x3 q109 x9 x1 x4 q110 x10 x2 x5 q125 q5 x6 q6 q7 q17 q151 q146 q140 q141 q126 q10 q11 q18 q142 q127 q16 q19 q1 : Rat} (e108 : q108 = (x8 - x0)) (e109 : q109 = (x9 - x1)) (e110 : q110 = (x10 - x2)) (e114 : q114 = (((q108 * x3) + (q109 * x4)) + (q110 * x5))) (e116 : q116 = (q114 * x3)) (e122 : q122 = (x8 - q116)) (e5 : q5 = (Z1 + (((x6 - Z1) * x3) * x3))) (e6 : q6 = (Z0 + (((x6 - Z1) * x3) * x4))) (e7 : q7 = (Z0 + (((x6 - Z1) * x3) * x5))) (e17 : q17 = ((-((x6 - Z1) * (((x0 * x3) + (x1 * x4)) + (x2 * x5)))) * x3)) (e125 : q125 = ((((q5 * x8) + (q6 * x9)) + (q7 * x10)) + q17)) (e140 : q140 = (q125 - x0)) (e10 : q10 = (Z1 + (((x6 - Z1) * x4) * x4))) (e11 : q11 = (Z0 + (((x6 - Z1) * x4) * x5))) (e18 : q18 = ((-((x6 - Z1) * (((x0 * x3) + (x1 * x4)) + (x2 * x5)))) * x4)) (e126 : q126 = ((((q6 * x8) + (q10 * x9)) + (q11 * x10)) + q18)) (e141 : q141 = (q126 - x1)) (e16 : q16 = (Z1 + (((x6 - Z1) * x5) * x5))) (e19 : q19 = ((-((x6 - Z1) * (((x0 * x3) + (x1 * x4)) + (x2 * x5)))) * x5)) (e127 : q127 = ((((q7 * x8) + (q11 * x9)) + (q16 * x10)) + q19)) (e142 : q142 = (q127 - x2)) (e146 : q146 = (((q140 * x3) + (q141 * x4)) + (q142 * x5))) (e151 : q151 = (q146 * x3)) (e1 : q1 = (((x3 * x3) + (x4 * x4)) + (x5 * x5))) (c4 : q1 = Z1) : q122 = (q125 - q151) := by
  subst Y0 Y1 e108 e109 e110 e114 e116 e122 e5 e6 e7 e17 e125 e140 e10 e11 e18 e126 e141 e16 e19 e127 e142 e146 e151 e1
  grind

theorem AffineBends_al160 {Z0 Z1 : Rat} (Y0 : Z0 = (0 : Rat)) (Y1 : Z1 = (1 : Rat)) {q123 x9 q117 q114 q108 x8 x0 x3 q109 x1 x4 q110 x10 x2 x5 q126 q6 x6 q10 q11 q18 q152 q146 q140 q125 q5 q7 q17 q141 q142 q127 q16 q19 q1 : Rat} (e108 : q108 = (x8 - x0)) (e109 : q109 = (x9 - x1)) (e110 : q110 = (x10 - x2)) (e114 : q114 = (((q108 * x3) + (q109 * x4)) + (q110 * x5))) (e117 : q117 = (q114 * x4)) (e123 : q123 = (x9 - q117)) (e6 : q6 = (Z0 + (((x6 - Z1) * x3) * x4))) (e10 : q10 = (Z1 + (((x6 - Z1) * x4) * x4))) (e11 : q11 = (Z0 + (((x6 - Z1) * x4) * x5))) (e18 : q18 = ((-((x6 - Z1) * (((x0 * x3) + (x1 * x4)) + (x2 * x5)))) * x4)) (e126 : q126 = ((((q6 * x8) + (q10 * x9)) + (q11 * x10)) + q18)) (e5 : q5 = (Z1 + (((x6 - Z1) * x3) * x3))) (e7 : q7 = (Z0 + (((x6 - Z1) * x3) * x5))) (e17 : q17 = ((-((x6 - Z1) * (((x0 * x3) + (x1 * x4)) + (x2 * x5)))) * x3)) (e125 : q125 = ((((q5 * x8) + (q6 * x9)) + (q7 * x10)) + q17)) (e140 : q140 = (q125 - x0)) (e141 : q141 = (q126 - x1)) (e16 : q16 = (Z1 + (((x6 - Z1) * x5) * x5))) (e19 : q19 = ((-((x6 - Z1) * (((x0 * x3) + (x1 * x4)) + (x2 * x5)))) * x5)) (e127 : q127 = ((((q7 * x8) + (q11 * x9)) + (q16 * x10)) + q19)) (e142 : q142 = (q127 - x2)) (e146 : q146 = (((q140 * x3) + (q141 * x4)) + (q142 * x5))) (e152 : q152 = (q146 * x4)) (e1 : q1 = (((x3 * x3) + (x4 * x4)) + (x5 * x5))) (c4 : q1 = Z1) : q123 = (q126 - q152) := by
  subst Y0 Y1 e108 e109 e110 e114 e117 e123 e6 e10 e11 e18 e126 e5 e7 e17 e125 e140 e141 e16 e19 e127 e142 e146 e152 e1
  grind

theorem AffineBends_al162 {Z0 Z1 : Rat} (Y0 : Z0 = (0 : Rat)) (Y1 : Z1 = (1 : Rat)) {q124 x10 q118 q114 q108 x8 x0 x3 q109 x9 x1 x4 q110 x2 x5 q127 q7 x6 q11 q16 q19 q153 q146 q140 q125 q5 q6 q17 q141 q126 q10 q18 q142 q1 : Rat} (e108 : q108 = (x8 - x0)) (e109 : q109 = (x9 - x1)) (e110 : q110 = (x10 - x2)) (e114 : q114 = (((q108 * x3) + (q109 * x4)) + (q110 * x5))) (e118 : q118 = (q114 * x5)) (e124 : q124 = (x10 - q118)) (e7 : q7 = (Z0 + (((x6 - Z1) * x3) * x5))) (e11 : q11 = (Z0 + (((x6 - Z1) * x4) * x5))) (e16 : q16 = (Z1 + (((x6 - Z1) * x5) * x5))) (e19 : q19 = ((-((x6 - Z1) * (((x0 * x3) + (x1 * x4)) + (x2 * x5)))) * x5)) (e127 : q127 = ((((q7 * x8) + (q11 * x9)) + (q16 * x10)) + q19)) (e5 : q5 = (Z1 + (((x6 - Z1) * x3) * x3))) (e6 : q6 = (Z0 + (((x6 - Z1) * x3) * x4))) (e17 : q17 = ((-((x6 - Z1) * (((x0 * x3) + (x1 * x4)) + (x2 * x5)))) * x3)) (e125 : q125 = ((((q5 * x8) + (q6 * x9)) + (q7 * x10)) + q17)) (e140 : q140 = (q125 - x0)) (e10 : q10 = (Z1 + (((x6 - Z1) * x4) * x4))) (e18 : q18 = ((-((x6 - Z1) * (((x0 * x3) + (x1 * x4)) + (x2 * x5)))) * x4)) (e126 : q126 = ((((q6 * x8) + (q10 * x9)) + (q11 * x10)) + q18)) (e141 : q141 = (q126 - x1)) (e142 : q142 = (q127 - x2)) (e146 : q146 = (((q140 * x3) + (q141 * x4)) + (q142 * x5))) (e153 : q153 = (q146 * x5)) (e1 : q1 = (((x3 * x3) + (x4 * x4)) + (x5 * x5))) (c4 : q1 = Z1) : q124 = (q127 - q153) := by
  subst Y0 Y1 e108 e109 e110 e114 e118 e124 e7 e11 e16 e19 e127 e5 e6 e17 e125 e140 e10 e18 e126 e141 e142 e146 e153 e1
  grind

theorem AffineBends_al165 {Zm2 Zm1 Z1 : Rat} (Ym2 : Zm2 = (-2 : Rat)) (Ym1 : Zm1 = (-1 : Rat)) (Y1 : Z1 = (1 : Rat)) {x3 : Rat} : (Z1 + ((Zm2 * x3) * x3)) = (Z1 + (((Zm1 - Z1) * x3) * x3)) := by
  subst Ym2 Ym1 Y1
  grind

theorem AffineBends_al167 {Zm2 Zm1 Z0 Z1 : Rat} (Ym2 : Zm2 = (-2 : Rat)) (Ym1 : Zm1 = (-1 : Rat)) (Y0 : Z0 = (0 : Rat)) (Y1 : Z1 = (1 : Rat)) {x3 x4 : Rat} : (Z0 + ((Zm2 * x3) * x4)) = (Z0 + (((Zm1 - Z1) * x3) * x4)) := by
  subst Ym2 Ym1 Y0 Y1
  grind

theorem AffineBends_al169 {Zm2 Zm1 Z0 Z1 : Rat} (Ym2 : Zm2 = (-2 : Rat)) (Ym1 : Zm1 = (-1 : Rat)) (Y0 : Z0 = (0 : Rat)) (Y1 : Z1 = (1 : Rat)) {x3 x5 : Rat} : (Z0 + ((Zm2 * x3) * x5)) = (Z0 + (((Zm1 - Z1) * x3) * x5)) := by
  subst Ym2 Ym1 Y0 Y1
  grind

theorem AffineBends_al171 {Zm2 Z0 : Rat} (Ym2 : Zm2 = (-2 : Rat)) (Y0 : Z0 = (0 : Rat)) {q166 x3 x4 : Rat} (e166 : q166 = (Z0 + ((Zm2 * x3) * x4))) : q166 = (Z0 + ((Zm2 * x4) * x3)) := by
  subst Ym2 Y0 e166
  grind

theorem AffineBends_al172 {Zm2 Zm1 Z0 Z1 : Rat} (Ym2 : Zm2 = (-2 : Rat)) (Ym1 : Zm1 = (-1 : Rat)) (Y0 : Z0 = (0 : Rat)) (Y1 : Z1 = (1 : Rat)) {x4 x3 : Rat} : (Z0 + ((Zm2 * x4) * x3)) = (Z0 + (((Zm1 - Z1) * x4) * x3)) := by
  subst Ym2 Ym1 Y0 Y1
  grind

theorem AffineBends_al174 {Zm2 Zm1 Z1 : Rat} (Ym2 : Zm2 = (-2 : Rat)) (Ym1 : Zm1 = (-1 : Rat)) (Y1 : Z1 = (1 : Rat)) {x4 : Rat} : (Z1 + ((Zm2 * x4) * x4)) = (Z1 + (((Zm1 - Z1) * x4) * x4)) := by
  subst Ym2 Ym1 Y1
  grind

theorem AffineBends_al176 {Zm2 Zm1 Z0 Z1 : Rat} (Ym2 : Zm2 = (-2 : Rat)) (Ym1 : Zm1 = (-1 : Rat)) (Y0 : Z0 = (0 : Rat)) (Y1 : Z1 = (1 : Rat)) {x4 x5 : Rat} : (Z0 + ((Zm2 * x4) * x5)) = (Z0 + (((Zm1 - Z1) * x4) * x5)) := by
  subst Ym2 Ym1 Y0 Y1
  grind

theorem AffineBends_al178 {Zm2 Z0 : Rat} (Ym2 : Zm2 = (-2 : Rat)) (Y0 : Z0 = (0 : Rat)) {q168 x3 x5 : Rat} (e168 : q168 = (Z0 + ((Zm2 * x3) * x5))) : q168 = (Z0 + ((Zm2 * x5) * x3)) := by
  subst Ym2 Y0 e168
  grind

theorem AffineBends_al179 {Zm2 Zm1 Z0 Z1 : Rat} (Ym2 : Zm2 = (-2 : Rat)) (Ym1 : Zm1 = (-1 : Rat)) (Y0 : Z0 = (0 : Rat)) (Y1 : Z1 = (1 : Rat)) {x5 x3 : Rat} : (Z0 + ((Zm2 * x5) * x3)) = (Z0 + (((Zm1 - Z1) * x5) * x3)) := by
  subst Ym2 Ym1 Y0 Y1
  grind

theorem AffineBends_al181 {Zm2 Z0 : Rat} (Ym2 : Zm2 = (-2 : Rat)) (Y0 : Z0 = (0 : Rat)) {q175 x4 x5 : Rat} (e175 : q175 = (Z0 + ((Zm2 * x4) * x5))) : q175 = (Z0 + ((Zm2 * x5) * x4)) := by
  subst Ym2 Y0 e175
  grind

theorem AffineBends_al182 {Zm2 Zm1 Z0 Z1 : Rat} (Ym2 : Zm2 = (-2 : Rat)) (Ym1 : Zm1 = (-1 : Rat)) (Y0 : Z0 = (0 : Rat)) (Y1 : Z1 = (1 : Rat)) {x5 x4 : Rat} : (Z0 + ((Zm2 * x5) * x4)) = (Z0 + (((Zm1 - Z1) * x5) * x4)) := by
  subst Ym2 Ym1 Y0 Y1
  grind

theorem AffineBends_al184 {Zm2 Zm1 Z1 : Rat} (Ym2 : Zm2 = (-2 : Rat)) (Ym1 : Zm1 = (-1 : Rat)) (Y1 : Z1 = (1 : Rat)) {x5 : Rat} : (Z1 + ((Zm2 * x5) * x5)) = (Z1 + (((Zm1 - Z1) * x5) * x5)) := by
  subst Ym2 Ym1 Y1
  grind

theorem AffineBends_al186 {Zm2 Zm1 Z1 : Rat} (Ym2 : Zm2 = (-2 : Rat)) (Ym1 : Zm1 = (-1 : Rat)) (Y1 : Z1 = (1 : Rat)) {x0 x3 x1 x4 x2 x5 : Rat} : ((-(Zm2 * (((x0 * x3) + (x1 * x4)) + (x2 * x5)))) * x3) = ((-((Zm1 - Z1) * (((x0 * x3) + (x1 * x4)) + (x2 * x5)))) * x3) := by
  subst Ym2 Ym1 Y1
  grind

theorem AffineBends_al188 {Zm2 Zm1 Z1 : Rat} (Ym2 : Zm2 = (-2 : Rat)) (Ym1 : Zm1 = (-1 : Rat)) (Y1 : Z1 = (1 : Rat)) {x0 x3 x1 x4 x2 x5 : Rat} : ((-(Zm2 * (((x0 * x3) + (x1 * x4)) + (x2 * x5)))) * x4) = ((-((Zm1 - Z1) * (((x0 * x3) + (x1 * x4)) + (x2 * x5)))) * x4) := by
  subst Ym2 Ym1 Y1
  grind

theorem AffineBends_al190 {Zm2 Zm1 Z1 : Rat} (Ym2 : Zm2 = (-2 : Rat)) (Ym1 : Zm1 = (-1 : Rat)) (Y1 : Z1 = (1 : Rat)) {x0 x3 x1 x4 x2 x5 : Rat} : ((-(Zm2 * (((x0 * x3) + (x1 * x4)) + (x2 * x5)))) * x5) = ((-((Zm1 - Z1) * (((x0 * x3) + (x1 * x4)) + (x2 * x5)))) * x5) := by
  subst Ym2 Ym1 Y1
  grind

theorem AffineBends_al209 {Zm2 Z0 Z1 : Rat} (Ym2 : Zm2 = (-2 : Rat)) (Y0 : Z0 = (0 : Rat)) (Y1 : Z1 = (1 : Rat)) {q207 q201 q164 x3 x8 q166 x4 x9 q168 x5 x10 q202 q173 q175 q203 q183 q1 : Rat} (e164 : q164 = (Z1 + ((Zm2 * x3) * x3))) (e166 : q166 = (Z0 + ((Zm2 * x3) * x4))) (e168 : q168 = (Z0 + ((Zm2 * x3) * x5))) (e201 : q201 = (((q164 * x8) + (q166 * x9)) + (q168 * x10))) (e173 : q173 = (Z1 + ((Zm2 * x4) * x4))) (e175 : q175 = (Z0 + ((Zm2 * x4) * x5))) (e202 : q202 = (((q166 * x8) + (q173 * x9)) + (q175 * x10))) (e183 : q183 = (Z1 + ((Zm2 * x5) * x5))) (e203 : q203 = (((q168 * x8) + (q175 * x9)) + (q183 * x10))) (e207 : q207 = (((q201 * q201) + (q202 * q202)) + (q203 * q203))) (e1 : q1 = (((x3 * x3) + (x4 * x4)) + (x5 * x5))) (c4 : q1 = Z1) : q207 = (((x8 * x8) + (x9 * x9)) + (x10 * x10)) := by
  subst Ym2 Y0 Y1 e164 e166 e168 e201 e173 e175 e202 e183 e203 e207 e1
  grind

theorem pure_AffineBends {r0 r1 r2 r3 r4 r5 r6 r7 r8 r9 r10 : RR} (g0 : r0.ok 1048576) (g1 : r1.ok 1048576) (g2 : r2.ok 1048576) (g3 : r3.ok 1048576) (g4 : r4.ok 1048576) (g5 : r5.ok 1048576) (g6 : r6.ok 1048576) (g7 : r7.ok 1048576) (g8 : r8.ok 1048576) (g9 : r9.ok 1048576) (g10 : r10.ok 1048576) : PureCalls prog F.penumbralaw07_AffineBends [.agg ([.bool r0.neg, nl r0.num, nl r0.den, .bool r1.neg, nl r1.num, nl r1.den, .bool r2.neg, nl r2.num, nl r2.den, .bool r3.neg, nl r3.num, nl r3.den, .bool r4.neg, nl r4.num, nl r4.den, .bool r5.neg, nl r5.num, nl r5.den, .bool r6.neg, nl r6.num, nl r6.den, .bool r7.neg, nl r7.num, nl r7.den, .bool r8.neg, nl r8.num, nl r8.den, .bool r9.neg, nl r9.num, nl r9.den, .bool r10.neg, nl r10.num, nl r10.den])] [.one (.bool true)] := by
  obtain ⟨Zm2, Ym2⟩ := ex_eq (-2 : Rat)
  obtain ⟨Zm1, Ym1⟩ := ex_eq (-1 : Rat)
  obtain ⟨Z0, Y0⟩ := ex_eq (0 : Rat)
  obtain ⟨Z1, Y1⟩ := ex_eq (1 : Rat)
  obtain ⟨x0, h0⟩ := Num.raw g0 (by decide)
  obtain ⟨x1, h1⟩ := Num.raw g1 (by decide)
  obtain ⟨x2, h2⟩ := Num.raw g2 (by decide)
  obtain ⟨x3, h3⟩ := Num.raw g3 (by decide)
  obtain ⟨x4, h4⟩ := Num.raw g4 (by decide)
  obtain ⟨x5, h5⟩ := Num.raw g5 (by decide)
  obtain ⟨x6, h6⟩ := Num.raw g6 (by decide)
  obtain ⟨x7, h7⟩ := Num.raw g7 (by decide)
  obtain ⟨x8, h8⟩ := Num.raw g8 (by decide)
  obtain ⟨x9, h9⟩ := Num.raw g9 (by decide)
  obtain ⟨x10, h10⟩ := Num.raw g10 (by decide)
  refine symFunc_sound hmix tree_penumbralaw07_AffineBends (by kernel_rfl) rfl ?_
  unfold ir_penumbralaw07_AffineBends
  simp only [fa_agg, fa_one, fa_nil, List.cons_append, List.nil_append, List.append_nil]
  refine call_step n_penumbralaw07_fixed rfl ?_
  simp only [fa_agg, fa_one, fa_nil, List.cons_append, List.nil_append, List.append_nil]
  refine primS (.bool false) rfl ?_
  refine itF rfl ?_
  obtain ⟨q1, e1⟩ := ex_eq (((x3 * x3) + (x4 * x4)) + (x5 * x5))
  refine call_step (n_vec_Dot_0 (k0 := q1) (h3.mono (by decide)) (h4.mono (by decide)) (h5.mono (by decide)) (h3.mono (by decide)) (h4.mono (by decide)) (h5.mono (by decide)) e1) rfl ?_
  simp only [fa_agg, fa_one, fa_nil, List.cons_append, List.nil_append, List.append_nil]
  refine call_step (n_rat_Of (1) (1) (by decide) (by decide) (by decide) (by decide) (Y1.trans (by decide +kernel))) rfl ?_
  simp only [fa_agg, fa_one, fa_nil, List.cons_append, List.nil_append, List.append_nil]
  have m2 : Num 6291458 (cr q1) q1 := Num.eqn e1 (Sm.add (Sm.add (Sm.mul h3.sm h3.sm) (Sm.mul h4.sm h4.sm)) (Sm.mul h5.sm h5.sm))
  have m3 : Num 1 (cr Z1) Z1 := Num.c Y1 (by decide +kernel) (by decide +kernel)
  by_cases c4 : q1 = Z1
  · skip
    refine call_step (n_rat_Same_t (m2.mono (by decide)) (m3.mono (by decide)) c4) rfl ?_
    simp only [fa_agg, fa_one, fa_nil, List.cons_append, List.nil_append, List.append_nil]
    refine primS (.bool false) rfl ?_
    refine itF rfl ?_
    obtain ⟨q5, e5⟩ := ex_eq (Z1 + (((x6 - Z1) * x3) * x3))
    obtain ⟨q6, e6⟩ := ex_eq (Z0 + (((x6 - Z1) * x3) * x4))
    obtain ⟨q7, e7⟩ := ex_eq (Z0 + (((x6 - Z1) * x3) * x5))
    have u8 : q6 = (Z0 + (((x6 - Z1) * x4) * x3)) := (AffineBends_al9 Y0 Y1 e6)
    obtain ⟨q10, e10⟩ := ex_eq (Z1 + (((x6 - Z1) * x4) * x4))
    obtain ⟨q11, e11⟩ := ex_eq (Z0 + (((x6 - Z1) * x4) * x5))
    have u12 : q7 = (Z0 + (((x6 - Z1) * x5) * x3)) := (AffineBends_al13 Y0 Y1 e7)
    have u14 : q11 = (Z0 + (((x6 - Z1) * x5) * x4)) := (AffineBends_al15 Y0 Y1 e11)
    obtain ⟨q16, e16⟩ := ex_eq (Z1 + (((x6 - Z1) * x5) * x5))
    obtain ⟨q17, e17⟩ := ex_eq ((-((x6 - Z1) * (((x0 * x3) + (x1 * x4)) + (x2 * x5)))) * x3)
    obtain ⟨q18, e18⟩ := ex_eq ((-((x6 - Z1) * (((x0 * x3) + (x1 * x4)) + (x2 * x5)))) * x4)
    obtain ⟨q19, e19⟩ := ex_eq ((-((x6 - Z1) * (((x0 * x3) + (x1 * x4)) + (x2 * x5)))) * x5)
    refine call_step (n_affine_Stretch_0 (k0 := q5) (k1 := q6) (k2 := q7) (k3 := q6) (k4 := q10) (k5 := q11) (k6 := q7) (k7 := q11) (k8 := q16) (k9 := q17) (k10 := q18) (k11 := q19) Y0 Y1 (h0.mono (by decide)) (h1.mono (by decide)) (h2.mono (by decide)) (h3.mono (by decide)) (h4.mono (by decide)) (h5.mono (by decide)) (h6.mono (by decide)) e5 e6 e7 u8 e10 e11 u12 u14 e16 e17 e18 e19) rfl ?_
    simp only [fa_agg, fa_one, fa_nil, List.cons_append, List.nil_append, List.append_nil]
    obtain ⟨q20, e20⟩ := ex_eq (Z1 + (((x7 - Z1) * x3) * x3))
    obtain ⟨q21, e21⟩ := ex_eq (Z0 + (((x7 - Z1) * x3) * x4))
    obtain ⟨q22, e22⟩ := ex_eq (Z0 + (((x7 - Z1) * x3) * x5))
    have u23 : q21 = (Z0 + (((x7 - Z1) * x4) * x3)) := (AffineBends_al24 Y0 Y1 e21)
    obtain ⟨q25, e25⟩ := ex_eq (Z1 + (((x7 - Z1) * x4) * x4))
    obtain ⟨q26, e26⟩ := ex_eq (Z0 + (((x7 - Z1) * x4) * x5))
    have u27 : q22 = (Z0 + (((x7 - Z1) * x5) * x3)) := (AffineBends_al28 Y0 Y1 e22)
    have u29 : q26 = (Z0 + (((x7 - Z1) * x5) * x4)) := (AffineBends_al30 Y0 Y1 e26)
    obtain ⟨q31, e31⟩ := ex_eq (Z1 + (((x7 - Z1) * x5) * x5))
    obtain ⟨q32, e32⟩ := ex_eq ((-((x7 - Z1) * (((x0 * x3) + (x1 * x4)) + (x2 * x5)))) * x3)
    obtain ⟨q33, e33⟩ := ex_eq ((-((x7 - Z1) * (((x0 * x3) + (x1 * x4)) + (x2 * x5)))) * x4)
    obtain ⟨q34, e34⟩ := ex_eq ((-((x7 - Z1) * (((x0 * x3) + (x1 * x4)) + (x2 * x5)))) * x5)
    refine call_step (n_affine_Stretch_0 (k0 := q20) (k1 := q21) (k2 := q22) (k3 := q21) (k4 := q25) (k5 := q26) (k6 := q22) (k7 := q26) (k8 := q31) (k9 := q32) (k10 := q33) (k11 := q34) Y0 Y1 (h0.mono (by decide)) (h1.mono (by decide)) (h2.mono (by decide)) (h3.mono (by decide)) (h4.mono (by decide)) (h5.mono (by decide)) (h7.mono (by decide)) e20 e21 e22 u23 e25 e26 u27 u29 e31 e32 e33 e34) rfl ?_
    simp only [fa_agg, fa_one, fa_nil, List.cons_append, List.nil_append, List.append_nil]
    have m35 : Num 3145732 (cr q5) q5 := Num.eqn e5 (Sm.add m3.sm (Sm.mul (Sm.mul (Sm.sub h6.sm m3.sm) h3.sm) h3.sm))
    have m37 : Num 1 (cr Z0) Z0 := Num.c Y0 (by decide +kernel) (by decide +kernel)
    have m36 : Num 3145732 (cr q6) q6 := Num.eqn e6 (Sm.add m37.sm (Sm.mul (Sm.mul (Sm.sub h6.sm m3.sm) h3.sm) h4.sm))
    have m38 : Num 3145732 (cr q7) q7 := Num.eqn e7 (Sm.add m37.sm (Sm.mul (Sm.mul (Sm.sub h6.sm m3.sm) h3.sm) h5.sm))
    have m39 : Num 3145732 (cr q10) q10 := Num.eqn e10 (Sm.add m3.sm (Sm.mul (Sm.mul (Sm.sub h6.sm m3.sm) h4.sm) h4.sm))
    have m40 : Num 3145732 (cr q11) q11 := Num.eqn e11 (Sm.add m37.sm (Sm.mul (Sm.mul (Sm.sub h6.sm m3.sm) h4.sm) h5.sm))
    have m41 : Num 3145732 (cr q16) q16 := Num.eqn e16 (Sm.add m3.sm (Sm.mul (Sm.mul (Sm.sub h6.sm m3.sm) h5.sm) h5.sm))
    have m42 : Num 8388612 (cr q17) q17 := Num.eqn e17 (Sm.mul (Sm.neg (Sm.mul (Sm.sub h6.sm m3.sm) (Sm.add (Sm.add (Sm.mul h0.sm h3.sm) (Sm.mul h1.sm h4.sm)) (Sm.mul h2.sm h5.sm)))) h3.sm)
    have m43 : Num 8388612 (cr q18) q18 := Num.eqn e18 (Sm.mul (Sm.neg (Sm.mul (Sm.sub h6.sm m3.sm) (Sm.add (Sm.add (Sm.mul h0.sm h3.sm) (Sm.mul h1.sm h4.sm)) (Sm.mul h2.sm h5.sm)))) h4.sm)
    have m44 : Num 8388612 (cr q19) q19 := Num.eqn e19 (Sm.mul (Sm.neg (Sm.mul (Sm.sub h6.sm m3.sm) (Sm.add (Sm.add (Sm.mul h0.sm h3.sm) (Sm.mul h1.sm h4.sm)) (Sm.mul h2.sm h5.sm)))) h5.sm)
    have m45 : Num 3145732 (cr q20) q20 := Num.eqn e20 (Sm.add m3.sm (Sm.mul (Sm.mul (Sm.sub h7.sm m3.sm) h3.sm) h3.sm))
    have m46 : Num 3145732 (cr q21) q21 := Num.eqn e21 (Sm.add m37.sm (Sm.mul (Sm.mul (Sm.sub h7.sm m3.sm) h3.sm) h4.sm))
    have m47 : Num 3145732 (cr q22) q22 := Num.eqn e22 (Sm.add m37.sm (Sm.mul (Sm.mul (Sm.sub h7.sm m3.sm) h3.sm) h5.sm))
    have m48 : Num 3145732 (cr q25) q25 := Num.eqn e25 (Sm.add m3.sm (Sm.mul (Sm.mul (Sm.sub h7.sm m3.sm) h4.sm) h4.sm))
    have m49 : Num 3145732 (cr q26) q26 := Num.eqn e26 (Sm.add m37.sm (Sm.mul (Sm.mul (Sm.sub h7.sm m3.sm) h4.sm) h5.sm))
    have m50 : Num 3145732 (cr q31) q31 := Num.eqn e31 (Sm.add m3.sm (Sm.mul (Sm.mul (Sm.sub h7.sm m3.sm) h5.sm) h5.sm))
    have m51 : Num 8388612 (cr q32) q32 := Num.eqn e32 (Sm.mul (Sm.neg (Sm.mul (Sm.sub h7.sm m3.sm) (Sm.add (Sm.add (Sm.mul h0.sm h3.sm) (Sm.mul h1.sm h4.sm)) (Sm.mul h2.sm h5.sm)))) h3.sm)
    have m52 : Num 8388612 (cr q33) q33 := Num.eqn e33 (Sm.mul (Sm.neg (Sm.mul (Sm.sub h7.sm m3.sm) (Sm.add (Sm.add (Sm.mul h0.sm h3.sm) (Sm.mul h1.sm h4.sm)) (Sm.mul h2.sm h5.sm)))) h4.sm)
    have m53 : Num 8388612 (cr q34) q34 := Num.eqn e34 (Sm.mul (Sm.neg (Sm.mul (Sm.sub h7.sm m3.sm) (Sm.add (Sm.add (Sm.mul h0.sm h3.sm) (Sm.mul h1.sm h4.sm)) (Sm.mul h2.sm h5.sm)))) h5.sm)
    obtain ⟨q54, e54⟩ := ex_eq (((q20 * q5) + (q21 * q6)) + (q22 * q7))
    obtain ⟨q55, e55⟩ := ex_eq (((q20 * q6) + (q21 * q10)) + (q22 * q11))
    obtain ⟨q56, e56⟩ := ex_eq (((q20 * q7) + (q21 * q11)) + (q22 * q16))
    have u57 : q55 = (((q21 * q5) + (q25 * q6)) + (q26 * q7)) := (AffineBends_al58 Y0 Y1 e20 e6 e21 e10 e22 e11 e55 e5 e25 e26 e7 e1 c4)
    obtain ⟨q59, e59⟩ := ex_eq (((q21 * q6) + (q25 * q10)) + (q26 * q11))
    obtain ⟨q60, e60⟩ := ex_eq (((q21 * q7) + (q25 * q11)) + (q26 * q16))
    have u61 : q56 = (((q22 * q5) + (q26 * q6)) + (q31 * q7)) := (AffineBends_al62 Y0 Y1 e20 e7 e21 e11 e22 e16 e56 e5 e26 e6 e31 e1 c4)
    have u63 : q60 = (((q22 * q6) + (q26 * q10)) + (q31 * q11)) := (AffineBends_al64 Y0 Y1 e21 e7 e25 e11 e26 e16 e60 e22 e6 e10 e31 e1 c4)
    obtain ⟨q65, e65⟩ := ex_eq (((q22 * q7) + (q26 * q11)) + (q31 * q16))
    obtain ⟨q66, e66⟩ := ex_eq ((((q20 * q17) + (q21 * q18)) + (q22 * q19)) + q32)
    obtain ⟨q67, e67⟩ := ex_eq ((((q21 * q17) + (q25 * q18)) + (q26 * q19)) + q33)
    obtain ⟨q68, e68⟩ := ex_eq ((((q22 * q17) + (q26 * q18)) + (q31 * q19)) + q34)
    refine call_step (n_affine_Then_0 (k0 := q54) (k1 := q55) (k2 := q56) (k3 := q55) (k4 := q59) (k5 := q60) (k6 := q56) (k7 := q60) (k8 := q65) (k9 := q66) (k10 := q67) (k11 := q68) (m35.mono (by decide)) (m36.mono (by decide)) (m38.mono (by decide)) (m36.mono (by decide)) (m39.mono (by decide)) (m40.mono (by decide)) (m38.mono (by decide)) (m40.mono (by decide)) (m41.mono (by decide)) (m42.mono (by decide)) (m43.mono (by decide)) (m44.mono (by decide)) (m45.mono (by decide)) (m46.mono (by decide)) (m47.mono (by decide)) (m46.mono (by decide)) (m48.mono (by decide)) (m49.mono (by decide)) (m47.mono (by decide)) (m49.mono (by decide)) (m50.mono (by decide)) (m51.mono (by decide)) (m52.mono (by decide)) (m53.mono (by decide)) e54 e55 e56 u57 e59 e60 u61 u63 e65 e66 e67 e68) rfl ?_
    simp only [fa_agg, fa_one, fa_nil, List.cons_append, List.nil_append, List.append_nil]
    refine primS (rl [r6, r7]) rfl ?_
    obtain ⟨q70, e70⟩ := ex_eq (x6 * x7)
    refine call_step (n_rat_Product_2 (k0 := q70) (h6.mono (by decide)) (h7.mono (by decide)) e70) rfl ?_
    simp only [fa_agg, fa_one, fa_nil, List.cons_append, List.nil_append, List.append_nil]
    have m71 : Num 2097152 (cr q70) q70 := Num.eqn e70 (Sm.mul h6.sm h7.sm)
    have u72 : q54 = (Z1 + (((q70 - Z1) * x3) * x3)) := (AffineBends_al73 Y0 Y1 e20 e5 e21 e6 e22 e7 e54 e70 e1 c4)
    have u74 : q55 = (Z0 + (((q70 - Z1) * x3) * x4)) := (AffineBends_al75 Y0 Y1 e20 e6 e21 e10 e22 e11 e55 e70 e1 c4)
    have u76 : q56 = (Z0 + (((q70 - Z1) * x3) * x5)) := (AffineBends_al77 Y0 Y1 e20 e7 e21 e11 e22 e16 e56 e70 e1 c4)
    have u78 : q55 = (Z0 + (((q70 - Z1) * x4) * x3)) := (AffineBends_al79 Y0 Y1 e20 e6 e21 e10 e22 e11 e55 e70 e1 c4)
    have u80 : q59 = (Z1 + (((q70 - Z1) * x4) * x4)) := (AffineBends_al81 Y0 Y1 e21 e6 e25 e10 e26 e11 e59 e70 e1 c4)
    have u82 : q60 = (Z0 + (((q70 - Z1) * x4) * x5)) := (AffineBends_al83 Y0 Y1 e21 e7 e25 e11 e26 e16 e60 e70 e1 c4)
    have u84 : q56 = (Z0 + (((q70 - Z1) * x5) * x3)) := (AffineBends_al85 Y0 Y1 e20 e7 e21 e11 e22 e16 e56 e70 e1 c4)
    have u86 : q60 = (Z0 + (((q70 - Z1) * x5) * x4)) := (AffineBends_al87 Y0 Y1 e21 e7 e25 e11 e26 e16 e60 e70 e1 c4)
    have u88 : q65 = (Z1 + (((q70 - Z1) * x5) * x5)) := (AffineBends_al89 Y0 Y1 e22 e7 e26 e11 e31 e16 e65 e70 e1 c4)
    have u90 : q66 = ((-((q70 - Z1) * (((x0 * x3) + (x1 * x4)) + (x2 * x5)))) * x3) := (AffineBends_al91 Y0 Y1 e20 e17 e21 e18 e22 e19 e32 e66 e70 e1 c4)
    have u92 : q67 = ((-((q70 - Z1) * (((x0 * x3) + (x1 * x4)) + (x2 * x5)))) * x4) := (AffineBends_al93 Y0 Y1 e21 e17 e25 e18 e26 e19 e33 e67 e70 e1 c4)
    have u94 : q68 = ((-((q70 - Z1) * (((x0 * x3) + (x1 * x4)) + (x2 * x5)))) * x5) := (AffineBends_al95 Y0 Y1 e22 e17 e26 e18 e31 e19 e34 e68 e70 e1 c4)
    refine call_step (n_affine_Stretch_0 (k0 := q54) (k1 := q55) (k2 := q56) (k3 := q55) (k4 := q59) (k5 := q60) (k6 := q56) (k7 := q60) (k8 := q65) (k9 := q66) (k10 := q67) (k11 := q68) Y0 Y1 (h0.mono (by decide)) (h1.mono (by decide)) (h2.mono (by decide)) (h3.mono (by decide)) (h4.mono (by decide)) (h5.mono (by decide)) (m71.mono (by decide)) u72 u74 u76 u78 u80 u82 u84 u86 u88 u90 u92 u94) rfl ?_
    simp only [fa_agg, fa_one, fa_nil, List.cons_append, List.nil_append, List.append_nil]
    have m96 : Num 18874394 (cr q54) q54 := Num.eqn e54 (Sm.add (Sm.add (Sm.mul m45.sm m35.sm) (Sm.mul m46.sm m36.sm)) (Sm.mul m47.sm m38.sm))
    have m97 : Num 18874394 (cr q55) q55 := Num.eqn e55 (Sm.add (Sm.add (Sm.mul m45.sm m36.sm) (Sm.mul m46.sm m39.sm)) (Sm.mul m47.sm m40.sm))
    have m98 : Num 18874394 (cr q56) q56 := Num.eqn e56 (Sm.add (Sm.add (Sm.mul m45.sm m38.sm) (Sm.mul m46.sm m40.sm)) (Sm.mul m47.sm m41.sm))
    have m99 : Num 18874394 (cr q59) q59 := Num.eqn e59 (Sm.add (Sm.add (Sm.mul m46.sm m36.sm) (Sm.mul m48.sm m39.sm)) (Sm.mul m49.sm m40.sm))
    have m100 : Num 18874394 (cr q60) q60 := Num.eqn e60 (Sm.add (Sm.add (Sm.mul m46.sm m38.sm) (Sm.mul m48.sm m40.sm)) (Sm.mul m49.sm m41.sm))
    have m101 : Num 18874394 (cr q65) q65 := Num.eqn e65 (Sm.add (Sm.add (Sm.mul m47.sm m38.sm) (Sm.mul m49.sm m40.sm)) (Sm.mul m50.sm m41.sm))
    have m102 : Num 42991647 (cr q66) q66 := Num.eqn e66 (Sm.add (Sm.add (Sm.add (Sm.mul m45.sm m42.sm) (Sm.mul m46.sm m43.sm)) (Sm.mul m47.sm m44.sm)) m51.sm)
    have m103 : Num 42991647 (cr q67) q67 := Num.eqn e67 (Sm.add (Sm.add (Sm.add (Sm.mul m46.sm m42.sm) (Sm.mul m48.sm m43.sm)) (Sm.mul m49.sm m44.sm)) m52.sm)
    have m104 : Num 42991647 (cr q68) q68 := Num.eqn e68 (Sm.add (Sm.add (Sm.add (Sm.mul m47.sm m42.sm) (Sm.mul m49.sm m43.sm)) (Sm.mul m50.sm m44.sm)) m53.sm)
    refine call_step (n_penumbraref07_Is_0 (m96.mono (by decide)) (m97.mono (by decide)) (m98.mono (by decide)) (m97.mono (by decide)) (m99.mono (by decide)) (m100.mono (by decide)) (m98.mono (by decide)) (m100.mono (by decide)) (m101.mono (by decide)) (m102.mono (by decide)) (m103.mono (by decide)) (m104.mono (by decide)) (m96.mono (by decide)) (m97.mono (by decide)) (m98.mono (by decide)) (m97.mono (by decide)) (m99.mono (by decide)) (m100.mono (by decide)) (m98.mono (by decide)) (m100.mono (by decide)) (m101.mono (by decide)) (m102.mono (by decide)) (m103.mono (by decide)) (m104.mono (by decide)) rfl rfl rfl rfl rfl rfl rfl rfl rfl rfl rfl rfl) rfl ?_
    simp only [fa_agg, fa_one, fa_nil, List.cons_append, List.nil_append, List.append_nil]
    refine primS (.bool false) rfl ?_
    refine itF rfl ?_
    have u105 : x6 = (((q5 * ((q10 * q16) - (q11 * q11))) + (q6 * ((q11 * q7) - (q6 * q16)))) + (q7 * ((q6 * q11) - (q10 * q7)))) := (AffineBends_al106 Y0 Y1 e5 e10 e16 e11 e6 e7 e1 c4)
    refine call_step (n_affine_Det_0 (k0 := x6) (m35.mono (by decide)) (m36.mono (by decide)) (m38.mono (by decide)) (m36.mono (by decide)) (m39.mono (by decide)) (m40.mono (by decide)) (m38.mono (by decide)) (m40.mono (by decide)) (m41.mono (by decide)) (m42.mono (by decide)) (m43.mono (by decide)) (m44.mono (by decide)) u105) rfl ?_
    simp only [fa_agg, fa_one, fa_nil, List.cons_append, List.nil_append, List.append_nil]
    refine call_step (n_rat_Read (h6.mono (by decide))) rfl ?_
    simp only [fa_agg, fa_one, fa_nil, List.cons_append, List.nil_append, List.append_nil]
    have m107 : Num 1048576 (cr x6) x6 := Num.of h6.sm
    refine call_step (n_penumbraref03_Is_t (m107.mono (by decide)) (m107.mono (by decide)) rfl) rfl ?_
    simp only [fa_agg, fa_one, fa_nil, List.cons_append, List.nil_append, List.append_nil]
    refine primS (.bool false) rfl ?_
    refine itF rfl ?_
    obtain ⟨q108, e108⟩ := ex_eq (x8 - x0)
    obtain ⟨q109, e109⟩ := ex_eq (x9 - x1)
    obtain ⟨q110, e110⟩ := ex_eq (x10 - x2)
    refine call_step (n_vec_Sub_0 (k0 := q108) (k1 := q109) (k2 := q110) (h8.mono (by decide)) (h9.mono (by decide)) (h10.mono (by decide)) (h0.mono (by decide)) (h1.mono (by decide)) (h2.mono (by decide)) e108 e109 e110) rfl ?_
    simp only [fa_agg, fa_one, fa_nil, List.cons_append, List.nil_append, List.append_nil]
    have m111 : Num 2097153 (cr q108) q108 := Num.eqn e108 (Sm.sub h8.sm h0.sm)
    have m112 : Num 2097153 (cr q109) q109 := Num.eqn e109 (Sm.sub h9.sm h1.sm)
    have m113 : Num 2097153 (cr q110) q110 := Num.eqn e110 (Sm.sub h10.sm h2.sm)
    obtain ⟨q114, e114⟩ := ex_eq (((q108 * x3) + (q109 * x4)) + (q110 * x5))
    refine call_step (n_vec_Dot_0 (k0 := q114) (m111.mono (by decide)) (m112.mono (by decide)) (m113.mono (by decide)) (h3.mono (by decide)) (h4.mono (by decide)) (h5.mono (by decide)) e114) rfl ?_
    simp only [fa_agg, fa_one, fa_nil, List.cons_append, List.nil_append, List.append_nil]
    have m115 : Num 9437189 (cr q114) q114 := Num.eqn e114 (Sm.add (Sm.add (Sm.mul m111.sm h3.sm) (Sm.mul m112.sm h4.sm)) (Sm.mul m113.sm h5.sm))
    obtain ⟨q116, e116⟩ := ex_eq (q114 * x3)
    obtain ⟨q117, e117⟩ := ex_eq (q114 * x4)
    obtain ⟨q118, e118⟩ := ex_eq (q114 * x5)
    refine call_step (n_vec_Scale_0 (k0 := q116) (k1 := q117) (k2 := q118) (m115.mono (by decide)) (h3.mono (by decide)) (h4.mono (by decide)) (h5.mono (by decide)) e116 e117 e118) rfl ?_
    simp only [fa_agg, fa_one, fa_nil, List.cons_append, List.nil_append, List.append_nil]
    have m119 : Num 10485765 (cr q116) q116 := Num.eqn e116 (Sm.mul m115.sm h3.sm)
    have m120 : Num 10485765 (cr q117) q117 := Num.eqn e117 (Sm.mul m115.sm h4.sm)
    have m121 : Num 10485765 (cr q118) q118 := Num.eqn e118 (Sm.mul m115.sm h5.sm)
    obtain ⟨q122, e122⟩ := ex_eq (x8 - q116)
    obtain ⟨q123, e123⟩ := ex_eq (x9 - q117)
    obtain ⟨q124, e124⟩ := ex_eq (x10 - q118)
    refine call_step (n_vec_Sub_0 (k0 := q122) (k1 := q123) (k2 := q124) (h8.mono (by decide)) (h9.mono (by decide)) (h10.mono (by decide)) (m119.mono (by decide)) (m120.mono (by decide)) (m121.mono (by decide)) e122 e123 e124) rfl ?_
    simp only [fa_agg, fa_one, fa_nil, List.cons_append, List.nil_append, List.append_nil]
    obtain ⟨q125, e125⟩ := ex_eq ((((q5 * x8) + (q6 * x9)) + (q7 * x10)) + q17)
    obtain ⟨q126, e126⟩ := ex_eq ((((q6 * x8) + (q10 * x9)) + (q11 * x10)) + q18)
    obtain ⟨q127, e127⟩ := ex_eq ((((q7 * x8) + (q11 * x9)) + (q16 * x10)) + q19)
    refine call_step (n_affine_Apply_0 (k0 := q125) (k1 := q126) (k2 := q127) (m35.mono (by decide)) (m36.mono (by decide)) (m38.mono (by decide)) (m36.mono (by decide)) (m39.mono (by decide)) (m40.mono (by decide)) (m38.mono (by decide)) (m40.mono (by decide)) (m41.mono (by decide)) (m42.mono (by decide)) (m43.mono (by decide)) (m44.mono (by decide)) (h8.mono (by decide)) (h9.mono (by decide)) (h10.mono (by decide)) e125 e126 e127) rfl ?_
    simp only [fa_agg, fa_one, fa_nil, List.cons_append, List.nil_append, List.append_nil]
    have m128 : Num 11534342 (cr q122) q122 := Num.eqn e122 (Sm.sub h8.sm m119.sm)
    have m129 : Num 11534342 (cr q123) q123 := Num.eqn e123 (Sm.sub h9.sm m120.sm)
    have m130 : Num 11534342 (cr q124) q124 := Num.eqn e124 (Sm.sub h10.sm m121.sm)
    have u131 : q122 = ((((q5 * q122) + (q6 * q123)) + (q7 * q124)) + q17) := (AffineBends_al132 Y0 Y1 e108 e109 e110 e114 e116 e122 e5 e6 e117 e123 e7 e118 e124 e17 e1 c4)
    have u133 : q123 = ((((q6 * q122) + (q10 * q123)) + (q11 * q124)) + q18) := (AffineBends_al134 Y0 Y1 e108 e109 e110 e114 e117 e123 e6 e116 e122 e10 e11 e118 e124 e18 e1 c4)
    have u135 : q124 = ((((q7 * q122) + (q11 * q123)) + (q16 * q124)) + q19) := (AffineBends_al136 Y0 Y1 e108 e109 e110 e114 e118 e124 e7 e116 e122 e11 e117 e123 e16 e19 e1 c4)
    refine call_step (n_affine_Apply_0 (k0 := q122) (k1 := q123) (k2 := q124) (m35.mono (by decide)) (m36.mono (by decide)) (m38.mono (by decide)) (m36.mono (by decide)) (m39.mono (by decide)) (m40.mono (by decide)) (m38.mono (by decide)) (m40.mono (by decide)) (m41.mono (by decide)) (m42.mono (by decide)) (m43.mono (by decide)) (m44.mono (by decide)) (m128.mono (by decide)) (m129.mono (by decide)) (m130.mono (by decide)) u131 u133 u135) rfl ?_
    simp only [fa_agg, fa_one, fa_nil, List.cons_append, List.nil_append, List.append_nil]
    refine call_step (n_penumbraref05_Is_0 (m128.mono (by decide)) (m129.mono (by decide)) (m130.mono (by decide)) (m128.mono (by decide)) (m129.mono (by decide)) (m130.mono (by decide)) rfl rfl rfl) rfl ?_
    simp only [fa_agg, fa_one, fa_nil, List.cons_append, List.nil_append, List.append_nil]
    refine primS (.bool false) rfl ?_
    refine itF rfl ?_
    have m137 : Num 20971539 (cr q125) q125 := Num.eqn e125 (Sm.add (Sm.add (Sm.add (Sm.mul m35.sm h8.sm) (Sm.mul m36.sm h9.sm)) (Sm.mul m38.sm h10.sm)) m42.sm)
    have m138 : Num 20971539 (cr q126) q126 := Num.eqn e126 (Sm.add (Sm.add (Sm.add (Sm.mul m36.sm h8.sm) (Sm.mul m39.sm h9.sm)) (Sm.mul m40.sm h10.sm)) m43.sm)
    have m139 : Num 20971539 (cr q127) q127 := Num.eqn e127 (Sm.add (Sm.add (Sm.add (Sm.mul m38.sm h8.sm) (Sm.mul m40.sm h9.sm)) (Sm.mul m41.sm h10.sm)) m44.sm)
    obtain ⟨q140, e140⟩ := ex_eq (q125 - x0)
    obtain ⟨q141, e141⟩ := ex_eq (q126 - x1)
    obtain ⟨q142, e142⟩ := ex_eq (q127 - x2)
    refine call_step (n_vec_Sub_0 (k0 := q140) (k1 := q141) (k2 := q142) (m137.mono (by decide)) (m138.mono (by decide)) (m139.mono (by decide)) (h0.mono (by decide)) (h1.mono (by decide)) (h2.mono (by decide)) e140 e141 e142) rfl ?_
    simp only [fa_agg, fa_one, fa_nil, List.cons_append, List.nil_append, List.append_nil]
    have m143 : Num 22020116 (cr q140) q140 := Num.eqn e140 (Sm.sub m137.sm h0.sm)
    have m144 : Num 22020116 (cr q141) q141 := Num.eqn e141 (Sm.sub m138.sm h1.sm)
    have m145 : Num 22020116 (cr q142) q142 := Num.eqn e142 (Sm.sub m139.sm h2.sm)
    obtain ⟨q146, e146⟩ := ex_eq (((q140 * x3) + (q141 * x4)) + (q142 * x5))
    refine call_step (n_vec_Dot_0 (k0 := q146) (m143.mono (by decide)) (m144.mono (by decide)) (m145.mono (by decide)) (h3.mono (by decide)) (h4.mono (by decide)) (h5.mono (by decide)) e146) rfl ?_
    simp only [fa_agg, fa_one, fa_nil, List.cons_append, List.nil_append, List.append_nil]
    refine primS (rl [r6, (cr q114)]) rfl ?_
    have u148 : q146 = (x6 * q114) := (AffineBends_al149 Y0 Y1 e5 e6 e7 e17 e125 e140 e10 e11 e18 e126 e141 e16 e19 e127 e142 e146 e108 e109 e110 e114 e1 c4)
    refine call_step (n_rat_Product_2 (k0 := q146) (h6.mono (by decide)) (m115.mono (by decide)) u148) rfl ?_
    simp only [fa_agg, fa_one, fa_nil, List.cons_append, List.nil_append, List.append_nil]
    have m150 : Num 69206078 (cr q146) q146 := Num.eqn e146 (Sm.add (Sm.add (Sm.mul m143.sm h3.sm) (Sm.mul m144.sm h4.sm)) (Sm.mul m145.sm h5.sm))
    refine call_step (n_penumbraref03_Is_t (m150.mono (by decide)) (m150.mono (by decide)) rfl) rfl ?_
    simp only [fa_agg, fa_one, fa_nil, List.cons_append, List.nil_append, List.append_nil]
    refine primS (.bool false) rfl ?_
    refine itF rfl ?_
    refine call_step (n_vec_Sub_0 (k0 := q140) (k1 := q141) (k2 := q142) (m137.mono (by decide)) (m138.mono (by decide)) (m139.mono (by decide)) (h0.mono (by decide)) (h1.mono (by decide)) (h2.mono (by decide)) e140 e141 e142) rfl ?_
    simp only [fa_agg, fa_one, fa_nil, List.cons_append, List.nil_append, List.append_nil]
    refine call_step (n_vec_Dot_0 (k0 := q146) (m143.mono (by decide)) (m144.mono (by decide)) (m145.mono (by decide)) (h3.mono (by decide)) (h4.mono (by decide)) (h5.mono (by decide)) e146) rfl ?_
    simp only [fa_agg, fa_one, fa_nil, List.cons_append, List.nil_append, List.append_nil]
    obtain ⟨q151, e151⟩ := ex_eq (q146 * x3)
    obtain ⟨q152, e152⟩ := ex_eq (q146 * x4)
    obtain ⟨q153, e153⟩ := ex_eq (q146 * x5)
    refine call_step (n_vec_Scale_0 (k0 := q151) (k1 := q152) (k2 := q153) (m150.mono (by decide)) (h3.mono (by decide)) (h4.mono (by decide)) (h5.mono (by decide)) e151 e152 e153) rfl ?_
    simp only [fa_agg, fa_one, fa_nil, List.cons_append, List.nil_append, List.append_nil]
    have m154 : Num 70254654 (cr q151) q151 := Num.eqn e151 (Sm.mul m150.sm h3.sm)
    have m155 : Num 70254654 (cr q152) q152 := Num.eqn e152 (Sm.mul m150.sm h4.sm)
    have m156 : Num 70254654 (cr q153) q153 := Num.eqn e153 (Sm.mul m150.sm h5.sm)
    have u157 : q122 = (q125 - q151) := (AffineBends_al158 Y0 Y1 e108 e109 e110 e114 e116 e122 e5 e6 e7 e17 e125 e140 e10 e11 e18 e126 e141 e16 e19 e127 e142 e146 e151 e1 c4)
    have u159 : q123 = (q126 - q152) := (AffineBends_al160 Y0 Y1 e108 e109 e110 e114 e117 e123 e6 e10 e11 e18 e126 e5 e7 e17 e125 e140 e141 e16 e19 e127 e142 e146 e152 e1 c4)
    have u161 : q124 = (q127 - q153) := (AffineBends_al162 Y0 Y1 e108 e109 e110 e114 e118 e124 e7 e11 e16 e19 e127 e5 e6 e17 e125 e140 e10 e18 e126 e141 e142 e146 e153 e1 c4)
    refine call_step (n_vec_Sub_0 (k0 := q122) (k1 := q123) (k2 := q124) (m137.mono (by decide)) (m138.mono (by decide)) (m139.mono (by decide)) (m154.mono (by decide)) (m155.mono (by decide)) (m156.mono (by decide)) u157 u159 u161) rfl ?_
    simp only [fa_agg, fa_one, fa_nil, List.cons_append, List.nil_append, List.append_nil]
    refine call_step (n_penumbraref05_Is_0 (m128.mono (by decide)) (m129.mono (by decide)) (m130.mono (by decide)) (m128.mono (by decide)) (m129.mono (by decide)) (m130.mono (by decide)) rfl rfl rfl) rfl ?_
    simp only [fa_agg, fa_one, fa_nil, List.cons_append, List.nil_append, List.append_nil]
    refine primS (.bool false) rfl ?_
    refine itF rfl ?_
    refine call_step (n_rat_Of (-1) (1) (by decide) (by decide) (by decide) (by decide) (Ym1.trans (by decide +kernel))) rfl ?_
    simp only [fa_agg, fa_one, fa_nil, List.cons_append, List.nil_append, List.append_nil]
    have m163 : Num 1 (cr Zm1) Zm1 := Num.c Ym1 (by decide +kernel) (by decide +kernel)
    obtain ⟨q164, e164⟩ := ex_eq (Z1 + ((Zm2 * x3) * x3))
    obtain ⟨q166, e166⟩ := ex_eq (Z0 + ((Zm2 * x3) * x4))
    obtain ⟨q168, e168⟩ := ex_eq (Z0 + ((Zm2 * x3) * x5))
    have u170 : q166 = (Z0 + ((Zm2 * x4) * x3)) := (AffineBends_al171 Ym2 Y0 e166)
    obtain ⟨q173, e173⟩ := ex_eq (Z1 + ((Zm2 * x4) * x4))
    obtain ⟨q175, e175⟩ := ex_eq (Z0 + ((Zm2 * x4) * x5))
    have u177 : q168 = (Z0 + ((Zm2 * x5) * x3)) := (AffineBends_al178 Ym2 Y0 e168)
    have u180 : q175 = (Z0 + ((Zm2 * x5) * x4)) := (AffineBends_al181 Ym2 Y0 e175)
    obtain ⟨q183, e183⟩ := ex_eq (Z1 + ((Zm2 * x5) * x5))
    obtain ⟨q185, e185⟩ := ex_eq ((-(Zm2 * (((x0 * x3) + (x1 * x4)) + (x2 * x5)))) * x3)
    obtain ⟨q187, e187⟩ := ex_eq ((-(Zm2 * (((x0 * x3) + (x1 * x4)) + (x2 * x5)))) * x4)
    obtain ⟨q189, e189⟩ := ex_eq ((-(Zm2 * (((x0 * x3) + (x1 * x4)) + (x2 * x5)))) * x5)
    refine call_step (n_affine_Stretch_0 (k0 := q164) (k1 := q166) (k2 := q168) (k3 := q166) (k4 := q173) (k5 := q175) (k6 := q168) (k7 := q175) (k8 := q183) (k9 := q185) (k10 := q187) (k11 := q189) Y0 Y1 (h0.mono (by decide)) (h1.mono (by decide)) (h2.mono (by decide)) (h3.mono (by decide)) (h4.mono (by decide)) (h5.mono (by decide)) (m163.mono (by decide)) (e164.trans (AffineBends_al165 Ym2 Ym1 Y1)) (e166.trans (AffineBends_al167 Ym2 Ym1 Y0 Y1)) (e168.trans (AffineBends_al169 Ym2 Ym1 Y0 Y1)) (u170.trans (AffineBends_al172 Ym2 Ym1 Y0 Y1)) (e173.trans (AffineBends_al174 Ym2 Ym1 Y1)) (e175.trans (AffineBends_al176 Ym2 Ym1 Y0 Y1)) (u177.trans (AffineBends_al179 Ym2 Ym1 Y0 Y1)) (u180.trans (AffineBends_al182 Ym2 Ym1 Y0 Y1)) (e183.trans (AffineBends_al184 Ym2 Ym1 Y1)) (e185.trans (AffineBends_al186 Ym2 Ym1 Y1)) (e187.trans (AffineBends_al188 Ym2 Ym1 Y1)) (e189.trans (AffineBends_al190 Ym2 Ym1 Y1))) rfl ?_
    simp only [fa_agg, fa_one, fa_nil, List.cons_append, List.nil_append, List.append_nil]
    have m192 : Num 1 (cr Zm2) Zm2 := Num.c Ym2 (by decide +kernel) (by decide +kernel)
    have m191 : Num 2097155 (cr q164) q164 := Num.eqn e164 (Sm.add m3.sm (Sm.mul (Sm.mul m192.sm h3.sm) h3.sm))
    have m193 : Num 2097155 (cr q166) q166 := Num.eqn e166 (Sm.add m37.sm (Sm.mul (Sm.mul m192.sm h3.sm) h4.sm))
    have m194 : Num 2097155 (cr q168) q168 := Num.eqn e168 (Sm.add m37.sm (Sm.mul (Sm.mul m192.sm h3.sm) h5.sm))
    have m195 : Num 2097155 (cr q173) q173 := Num.eqn e173 (Sm.add m3.sm (Sm.mul (Sm.mul m192.sm h4.sm) h4.sm))
    have m196 : Num 2097155 (cr q175) q175 := Num.eqn e175 (Sm.add m37.sm (Sm.mul (Sm.mul m192.sm h4.sm) h5.sm))
    have m197 : Num 2097155 (cr q183) q183 := Num.eqn e183 (Sm.add m3.sm (Sm.mul (Sm.mul m192.sm h5.sm) h5.sm))
    have m198 : Num 7340035 (cr q185) q185 := Num.eqn e185 (Sm.mul (Sm.neg (Sm.mul m192.sm (Sm.add (Sm.add (Sm.mul h0.sm h3.sm) (Sm.mul h1.sm h4.sm)) (Sm.mul h2.sm h5.sm)))) h3.sm)
    have m199 : Num 7340035 (cr q187) q187 := Num.eqn e187 (Sm.mul (Sm.neg (Sm.mul m192.sm (Sm.add (Sm.add (Sm.mul h0.sm h3.sm) (Sm.mul h1.sm h4.sm)) (Sm.mul h2.sm h5.sm)))) h4.sm)
    have m200 : Num 7340035 (cr q189) q189 := Num.eqn e189 (Sm.mul (Sm.neg (Sm.mul m192.sm (Sm.add (Sm.add (Sm.mul h0.sm h3.sm) (Sm.mul h1.sm h4.sm)) (Sm.mul h2.sm h5.sm)))) h5.sm)
    obtain ⟨q201, e201⟩ := ex_eq (((q164 * x8) + (q166 * x9)) + (q168 * x10))
    obtain ⟨q202, e202⟩ := ex_eq (((q166 * x8) + (q173 * x9)) + (q175 * x10))
    obtain ⟨q203, e203⟩ := ex_eq (((q168 * x8) + (q175 * x9)) + (q183 * x10))
    refine call_step (n_affine_Turn_0 (k0 := q201) (k1 := q202) (k2 := q203) (m191.mono (by decide)) (m193.mono (by decide)) (m194.mono (by decide)) (m193.mono (by decide)) (m195.mono (by decide)) (m196.mono (by decide)) (m194.mono (by decide)) (m196.mono (by decide)) (m197.mono (by decide)) (m198.mono (by decide)) (m199.mono (by decide)) (m200.mono (by decide)) (h8.mono (by decide)) (h9.mono (by decide)) (h10.mono (by decide)) e201 e202 e203) rfl ?_
    simp only [fa_agg, fa_one, fa_nil, List.cons_append, List.nil_append, List.append_nil]
    have m204 : Num 9437195 (cr q201) q201 := Num.eqn e201 (Sm.add (Sm.add (Sm.mul m191.sm h8.sm) (Sm.mul m193.sm h9.sm)) (Sm.mul m194.sm h10.sm))
    have m205 : Num 9437195 (cr q202) q202 := Num.eqn e202 (Sm.add (Sm.add (Sm.mul m193.sm h8.sm) (Sm.mul m195.sm h9.sm)) (Sm.mul m196.sm h10.sm))
    have m206 : Num 9437195 (cr q203) q203 := Num.eqn e203 (Sm.add (Sm.add (Sm.mul m194.sm h8.sm) (Sm.mul m196.sm h9.sm)) (Sm.mul m197.sm h10.sm))
    obtain ⟨q207, e207⟩ := ex_eq (((q201 * q201) + (q202 * q202)) + (q203 * q203))
    refine call_step (n_vec_Dot_0 (k0 := q207) (m204.mono (by decide)) (m205.mono (by decide)) (m206.mono (by decide)) (m204.mono (by decide)) (m205.mono (by decide)) (m206.mono (by decide)) e207) rfl ?_
    simp only [fa_agg, fa_one, fa_nil, List.cons_append, List.nil_append, List.append_nil]
    have u208 : q207 = (((x8 * x8) + (x9 * x9)) + (x10 * x10)) := (AffineBends_al209 Ym2 Y0 Y1 e164 e166 e168 e201 e173 e175 e202 e183 e203 e207 e1 c4)
    refine call_step (n_vec_Dot_0 (k0 := q207) (h8.mono (by decide)) (h9.mono (by decide)) (h10.mono (by decide)) (h8.mono (by decide)) (h9.mono (by decide)) (h10.mono (by decide)) u208) rfl ?_
    simp only [fa_agg, fa_one, fa_nil, List.cons_append, List.nil_append, List.append_nil]
    have m210 : Num 56623172 (cr q207) q207 := Num.eqn e207 (Sm.add (Sm.add (Sm.mul m204.sm m204.sm) (Sm.mul m205.sm m205.sm)) (Sm.mul m206.sm m206.sm))
    refine call_step (n_penumbraref03_Is_t (m210.mono (by decide)) (m210.mono (by decide)) rfl) rfl ?_
    simp only [fa_agg, fa_one, fa_nil, List.cons_append, List.nil_append, List.append_nil]
    exact ret_step rfl
  · skip
    refine call_step (n_rat_Same_f (m2.mono (by decide)) (m3.mono (by decide)) c4) rfl ?_
    simp only [fa_agg, fa_one, fa_nil, List.cons_append, List.nil_append, List.append_nil]
    refine primS (.bool true) rfl ?_
    refine itT rfl ?_
    refine call_step n_penumbralaw07_fixed rfl ?_
    simp only [fa_agg, fa_one, fa_nil, List.cons_append, List.nil_append, List.append_nil]
    exact ret_step rfl

end Go.Px.Na

/- QAffineBack: whatever the numbers, the law tells true. -/
import Derived.Test.YtbpadnlpkdmkmaaXAffineBack
set_option maxRecDepth 20000
set_option maxHeartbeats 40000000
set_option linter.unusedVariables false
set_option linter.unusedSimpArgs false
namespace Go.Px.Na
open Go.RowKit
open Go.Proofs.Try (prog)

theorem AffineBack_al35  {q25 q1 x12 x0 x13 x3 x14 x6 x24 q2 x1 x4 x7 x25 q3 x2 x5 x8 x26 q10 x9 x10 x11 x21 q28 q29 q30 : Rat} (e1 : q1 = (((x12 * x0) + (x13 * x3)) + (x14 * x6))) (e2 : q2 = (((x12 * x1) + (x13 * x4)) + (x14 * x7))) (e3 : q3 = (((x12 * x2) + (x13 * x5)) + (x14 * x8))) (e10 : q10 = ((((x12 * x9) + (x13 * x10)) + (x14 * x11)) + x21)) (e25 : q25 = ((((q1 * x24) + (q2 * x25)) + (q3 * x26)) + q10)) (e28 : q28 = ((((x0 * x24) + (x1 * x25)) + (x2 * x26)) + x9)) (e29 : q29 = ((((x3 * x24) + (x4 * x25)) + (x5 * x26)) + x10)) (e30 : q30 = ((((x6 * x24) + (x7 * x25)) + (x8 * x26)) + x11)) : q25 = ((((x12 * q28) + (x13 * q29)) + (x14 * q30)) + x21) := by
  subst e1 e2 e3 e10 e25 e28 e29 e30
  grind

theorem AffineBack_al37  {q26 q4 x15 x0 x16 x3 x17 x6 x24 q5 x1 x4 x7 x25 q6 x2 x5 x8 x26 q11 x9 x10 x11 x22 q28 q29 q30 : Rat} (e4 : q4 = (((x15 * x0) + (x16 * x3)) + (x17 * x6))) (e5 : q5 = (((x15 * x1) + (x16 * x4)) + (x17 * x7))) (e6 : q6 = (((x15 * x2) + (x16 * x5)) + (x17 * x8))) (e11 : q11 = ((((x15 * x9) + (x16 * x10)) + (x17 * x11)) + x22)) (e26 : q26 = ((((q4 * x24) + (q5 * x25)) + (q6 * x26)) + q11)) (e28 : q28 = ((((x0 * x24) + (x1 * x25)) + (x2 * x26)) + x9)) (e29 : q29 = ((((x3 * x24) + (x4 * x25)) + (x5 * x26)) + x10)) (e30 : q30 = ((((x6 * x24) + (x7 * x25)) + (x8 * x26)) + x11)) : q26 = ((((x15 * q28) + (x16 * q29)) + (x17 * q30)) + x22) := by
  subst e4 e5 e6 e11 e26 e28 e29 e30
  grind

theorem AffineBack_al39  {q27 q7 x18 x0 x19 x3 x20 x6 x24 q8 x1 x4 x7 x25 q9 x2 x5 x8 x26 q12 x9 x10 x11 x23 q28 q29 q30 : Rat} (e7 : q7 = (((x18 * x0) + (x19 * x3)) + (x20 * x6))) (e8 : q8 = (((x18 * x1) + (x19 * x4)) + (x20 * x7))) (e9 : q9 = (((x18 * x2) + (x19 * x5)) + (x20 * x8))) (e12 : q12 = ((((x18 * x9) + (x19 * x10)) + (x20 * x11)) + x23)) (e27 : q27 = ((((q7 * x24) + (q8 * x25)) + (q9 * x26)) + q12)) (e28 : q28 = ((((x0 * x24) + (x1 * x25)) + (x2 * x26)) + x9)) (e29 : q29 = ((((x3 * x24) + (x4 * x25)) + (x5 * x26)) + x10)) (e30 : q30 = ((((x6 * x24) + (x7 * x25)) + (x8 * x26)) + x11)) : q27 = ((((x18 * q28) + (x19 * q29)) + (x20 * q30)) + x23) := by
  subst e7 e8 e9 e12 e27 e28 e29 e30
  grind

theorem AffineBack_al50  {q43 q1 x12 x0 x13 x3 x14 x6 q5 x15 x1 x16 x4 x17 x7 q9 x18 x2 x19 x5 x20 x8 q6 q8 q2 q7 q4 q3 q44 q45 : Rat} (e1 : q1 = (((x12 * x0) + (x13 * x3)) + (x14 * x6))) (e5 : q5 = (((x15 * x1) + (x16 * x4)) + (x17 * x7))) (e9 : q9 = (((x18 * x2) + (x19 * x5)) + (x20 * x8))) (e6 : q6 = (((x15 * x2) + (x16 * x5)) + (x17 * x8))) (e8 : q8 = (((x18 * x1) + (x19 * x4)) + (x20 * x7))) (e2 : q2 = (((x12 * x1) + (x13 * x4)) + (x14 * x7))) (e7 : q7 = (((x18 * x0) + (x19 * x3)) + (x20 * x6))) (e4 : q4 = (((x15 * x0) + (x16 * x3)) + (x17 * x6))) (e3 : q3 = (((x12 * x2) + (x13 * x5)) + (x14 * x8))) (e43 : q43 = (((q1 * ((q5 * q9) - (q6 * q8))) + (q2 * ((q6 * q7) - (q4 * q9)))) + (q3 * ((q4 * q8) - (q5 * q7))))) (e44 : q44 = (((x0 * ((x4 * x8) - (x5 * x7))) + (x1 * ((x5 * x6) - (x3 * x8)))) + (x2 * ((x3 * x7) - (x4 * x6))))) (e45 : q45 = (((x12 * ((x16 * x20) - (x17 * x19))) + (x13 * ((x17 * x18) - (x15 * x20)))) + (x14 * ((x15 * x19) - (x16 * x18))))) : q43 = (q44 * q45) := by
  subst e1 e5 e9 e6 e8 e2 e7 e4 e3 e43 e44 e45
  grind

theorem AffineBack_al82 {Z0 Z1 : Rat} (Y0 : Z0 = (0 : Rat)) (Y1 : Z1 = (1 : Rat)) {q54 q53 q44 x0 x4 x8 x5 x7 x1 x6 x3 x2 q55 q56 : Rat} (e44 : q44 = (((x0 * ((x4 * x8) - (x5 * x7))) + (x1 * ((x5 * x6) - (x3 * x8)))) + (x2 * ((x3 * x7) - (x4 * x6))))) (d53 : q53 * q44 = Z1) (e54 : q54 = (q53 * ((x4 * x8) - (x5 * x7)))) (e55 : q55 = (q53 * ((x7 * x2) - (x8 * x1)))) (e56 : q56 = (q53 * ((x1 * x5) - (x2 * x4)))) (c52 : ¬q44 = Z0) : Z1 = (((q54 * x0) + (q55 * x3)) + (q56 * x6)) := by
  subst Y0 Y1 e44 e54 e55 e56
  grind

theorem AffineBack_al84 {Z0 Z1 : Rat} (Y0 : Z0 = (0 : Rat)) (Y1 : Z1 = (1 : Rat)) {q54 q53 q44 x0 x4 x8 x5 x7 x1 x6 x3 x2 q55 q56 : Rat} (e44 : q44 = (((x0 * ((x4 * x8) - (x5 * x7))) + (x1 * ((x5 * x6) - (x3 * x8)))) + (x2 * ((x3 * x7) - (x4 * x6))))) (d53 : q53 * q44 = Z1) (e54 : q54 = (q53 * ((x4 * x8) - (x5 * x7)))) (e55 : q55 = (q53 * ((x7 * x2) - (x8 * x1)))) (e56 : q56 = (q53 * ((x1 * x5) - (x2 * x4)))) (c52 : ¬q44 = Z0) : Z0 = (((q54 * x1) + (q55 * x4)) + (q56 * x7)) := by
  subst Y0 Y1 e44 e54 e55 e56
  grind

theorem AffineBack_al86 {Z0 Z1 : Rat} (Y0 : Z0 = (0 : Rat)) (Y1 : Z1 = (1 : Rat)) {q54 q53 q44 x0 x4 x8 x5 x7 x1 x6 x3 x2 q55 q56 : Rat} (e44 : q44 = (((x0 * ((x4 * x8) - (x5 * x7))) + (x1 * ((x5 * x6) - (x3 * x8)))) + (x2 * ((x3 * x7) - (x4 * x6))))) (d53 : q53 * q44 = Z1) (e54 : q54 = (q53 * ((x4 * x8) - (x5 * x7)))) (e55 : q55 = (q53 * ((x7 * x2) - (x8 * x1)))) (e56 : q56 = (q53 * ((x1 * x5) - (x2 * x4)))) (c52 : ¬q44 = Z0) : Z0 = (((q54 * x2) + (q55 * x5)) + (q56 * x8)) := by
  subst Y0 Y1 e44 e54 e55 e56
  grind

theorem AffineBack_al88 {Z0 Z1 : Rat} (Y0 : Z0 = (0 : Rat)) (Y1 : Z1 = (1 : Rat)) {q57 q53 q44 x0 x4 x8 x5 x7 x1 x6 x3 x2 q58 q59 : Rat} (e44 : q44 = (((x0 * ((x4 * x8) - (x5 * x7))) + (x1 * ((x5 * x6) - (x3 * x8)))) + (x2 * ((x3 * x7) - (x4 * x6))))) (d53 : q53 * q44 = Z1) (e57 : q57 = (q53 * ((x5 * x6) - (x3 * x8)))) (e58 : q58 = (q53 * ((x8 * x0) - (x6 * x2)))) (e59 : q59 = (q53 * ((x2 * x3) - (x0 * x5)))) (c52 : ¬q44 = Z0) : Z0 = (((q57 * x0) + (q58 * x3)) + (q59 * x6)) := by
  subst Y0 Y1 e44 e57 e58 e59
  grind

theorem AffineBack_al90 {Z0 Z1 : Rat} (Y0 : Z0 = (0 : Rat)) (Y1 : Z1 = (1 : Rat)) {q57 q53 q44 x0 x4 x8 x5 x7 x1 x6 x3 x2 q58 q59 : Rat} (e44 : q44 = (((x0 * ((x4 * x8) - (x5 * x7))) + (x1 * ((x5 * x6) - (x3 * x8)))) + (x2 * ((x3 * x7) - (x4 * x6))))) (d53 : q53 * q44 = Z1) (e57 : q57 = (q53 * ((x5 * x6) - (x3 * x8)))) (e58 : q58 = (q53 * ((x8 * x0) - (x6 * x2)))) (e59 : q59 = (q53 * ((x2 * x3) - (x0 * x5)))) (c52 : ¬q44 = Z0) : Z1 = (((q57 * x1) + (q58 * x4)) + (q59 * x7)) := by
  subst Y0 Y1 e44 e57 e58 e59
  grind

theorem AffineBack_al92 {Z0 Z1 : Rat} (Y0 : Z0 = (0 : Rat)) (Y1 : Z1 = (1 : Rat)) {q57 q53 q44 x0 x4 x8 x5 x7 x1 x6 x3 x2 q58 q59 : Rat} (e44 : q44 = (((x0 * ((x4 * x8) - (x5 * x7))) + (x1 * ((x5 * x6) - (x3 * x8)))) + (x2 * ((x3 * x7) - (x4 * x6))))) (d53 : q53 * q44 = Z1) (e57 : q57 = (q53 * ((x5 * x6) - (x3 * x8)))) (e58 : q58 = (q53 * ((x8 * x0) - (x6 * x2)))) (e59 : q59 = (q53 * ((x2 * x3) - (x0 * x5)))) (c52 : ¬q44 = Z0) : Z0 = (((q57 * x2) + (q58 * x5)) + (q59 * x8)) := by
  subst Y0 Y1 e44 e57 e58 e59
  grind

theorem AffineBack_al94 {Z0 Z1 : Rat} (Y0 : Z0 = (0 : Rat)) (Y1 : Z1 = (1 : Rat)) {q60 q53 q44 x0 x4 x8 x5 x7 x1 x6 x3 x2 q61 q62 : Rat} (e44 : q44 = (((x0 * ((x4 * x8) - (x5 * x7))) + (x1 * ((x5 * x6) - (x3 * x8)))) + (x2 * ((x3 * x7) - (x4 * x6))))) (d53 : q53 * q44 = Z1) (e60 : q60 = (q53 * ((x3 * x7) - (x4 * x6)))) (e61 : q61 = (q53 * ((x6 * x1) - (x7 * x0)))) (e62 : q62 = (q53 * ((x0 * x4) - (x1 * x3)))) (c52 : ¬q44 = Z0) : Z0 = (((q60 * x0) + (q61 * x3)) + (q62 * x6)) := by
  subst Y0 Y1 e44 e60 e61 e62
  grind

theorem AffineBack_al96 {Z0 Z1 : Rat} (Y0 : Z0 = (0 : Rat)) (Y1 : Z1 = (1 : Rat)) {q60 q53 q44 x0 x4 x8 x5 x7 x1 x6 x3 x2 q61 q62 : Rat} (e44 : q44 = (((x0 * ((x4 * x8) - (x5 * x7))) + (x1 * ((x5 * x6) - (x3 * x8)))) + (x2 * ((x3 * x7) - (x4 * x6))))) (d53 : q53 * q44 = Z1) (e60 : q60 = (q53 * ((x3 * x7) - (x4 * x6)))) (e61 : q61 = (q53 * ((x6 * x1) - (x7 * x0)))) (e62 : q62 = (q53 * ((x0 * x4) - (x1 * x3)))) (c52 : ¬q44 = Z0) : Z0 = (((q60 * x1) + (q61 * x4)) + (q62 * x7)) := by
  subst Y0 Y1 e44 e60 e61 e62
  grind

theorem AffineBack_al98 {Z0 Z1 : Rat} (Y0 : Z0 = (0 : Rat)) (Y1 : Z1 = (1 : Rat)) {q60 q53 q44 x0 x4 x8 x5 x7 x1 x6 x3 x2 q61 q62 : Rat} (e44 : q44 = (((x0 * ((x4 * x8) - (x5 * x7))) + (x1 * ((x5 * x6) - (x3 * x8)))) + (x2 * ((x3 * x7) - (x4 * x6))))) (d53 : q53 * q44 = Z1) (e60 : q60 = (q53 * ((x3 * x7) - (x4 * x6)))) (e61 : q61 = (q53 * ((x6 * x1) - (x7 * x0)))) (e62 : q62 = (q53 * ((x0 * x4) - (x1 * x3)))) (c52 : ¬q44 = Z0) : Z1 = (((q60 * x2) + (q61 * x5)) + (q62 * x8)) := by
  subst Y0 Y1 e44 e60 e61 e62
  grind

theorem AffineBack_al100 {Zm1 Z0 Z1 : Rat} (Ym1 : Zm1 = (-1 : Rat)) (Y0 : Z0 = (0 : Rat)) (Y1 : Z1 = (1 : Rat)) {q54 q53 q44 x0 x4 x8 x5 x7 x1 x6 x3 x2 x9 q55 x10 q56 x11 q63 : Rat} (e44 : q44 = (((x0 * ((x4 * x8) - (x5 * x7))) + (x1 * ((x5 * x6) - (x3 * x8)))) + (x2 * ((x3 * x7) - (x4 * x6))))) (d53 : q53 * q44 = Z1) (e54 : q54 = (q53 * ((x4 * x8) - (x5 * x7)))) (e55 : q55 = (q53 * ((x7 * x2) - (x8 * x1)))) (e56 : q56 = (q53 * ((x1 * x5) - (x2 * x4)))) (e63 : q63 = (Zm1 * (((q54 * x9) + (q55 * x10)) + (q56 * x11)))) (c52 : ¬q44 = Z0) : Z0 = ((((q54 * x9) + (q55 * x10)) + (q56 * x11)) + q63) := by
  subst Ym1 Y0 Y1 e44 e54 e55 e56 e63
  grind

theorem AffineBack_al102 {Zm1 Z0 Z1 : Rat} (Ym1 : Zm1 = (-1 : Rat)) (Y0 : Z0 = (0 : Rat)) (Y1 : Z1 = (1 : Rat)) {q57 q53 q44 x0 x4 x8 x5 x7 x1 x6 x3 x2 x9 q58 x10 q59 x11 q64 : Rat} (e44 : q44 = (((x0 * ((x4 * x8) - (x5 * x7))) + (x1 * ((x5 * x6) - (x3 * x8)))) + (x2 * ((x3 * x7) - (x4 * x6))))) (d53 : q53 * q44 = Z1) (e57 : q57 = (q53 * ((x5 * x6) - (x3 * x8)))) (e58 : q58 = (q53 * ((x8 * x0) - (x6 * x2)))) (e59 : q59 = (q53 * ((x2 * x3) - (x0 * x5)))) (e64 : q64 = (Zm1 * (((q57 * x9) + (q58 * x10)) + (q59 * x11)))) (c52 : ¬q44 = Z0) : Z0 = ((((q57 * x9) + (q58 * x10)) + (q59 * x11)) + q64) := by
  subst Ym1 Y0 Y1 e44 e57 e58 e59 e64
  grind

theorem AffineBack_al104 {Zm1 Z0 Z1 : Rat} (Ym1 : Zm1 = (-1 : Rat)) (Y0 : Z0 = (0 : Rat)) (Y1 : Z1 = (1 : Rat)) {q60 q53 q44 x0 x4 x8 x5 x7 x1 x6 x3 x2 x9 q61 x10 q62 x11 q65 : Rat} (e44 : q44 = (((x0 * ((x4 * x8) - (x5 * x7))) + (x1 * ((x5 * x6) - (x3 * x8)))) + (x2 * ((x3 * x7) - (x4 * x6))))) (d53 : q53 * q44 = Z1) (e60 : q60 = (q53 * ((x3 * x7) - (x4 * x6)))) (e61 : q61 = (q53 * ((x6 * x1) - (x7 * x0)))) (e62 : q62 = (q53 * ((x0 * x4) - (x1 * x3)))) (e65 : q65 = (Zm1 * (((q60 * x9) + (q61 * x10)) + (q62 * x11)))) (c52 : ¬q44 = Z0) : Z0 = ((((q60 * x9) + (q61 * x10)) + (q62 * x11)) + q65) := by
  subst Ym1 Y0 Y1 e44 e60 e61 e62 e65
  grind

theorem AffineBack_al107 {Z0 Z1 : Rat} (Y0 : Z0 = (0 : Rat)) (Y1 : Z1 = (1 : Rat)) {x0 q54 q53 q44 x4 x8 x5 x7 x1 x6 x3 x2 q57 q60 : Rat} (e44 : q44 = (((x0 * ((x4 * x8) - (x5 * x7))) + (x1 * ((x5 * x6) - (x3 * x8)))) + (x2 * ((x3 * x7) - (x4 * x6))))) (d53 : q53 * q44 = Z1) (e54 : q54 = (q53 * ((x4 * x8) - (x5 * x7)))) (e57 : q57 = (q53 * ((x5 * x6) - (x3 * x8)))) (e60 : q60 = (q53 * ((x3 * x7) - (x4 * x6)))) (c52 : ¬q44 = Z0) : Z1 = (((x0 * q54) + (x1 * q57)) + (x2 * q60)) := by
  subst Y0 Y1 e44 e54 e57 e60
  grind

theorem AffineBack_al109 {Z0 Z1 : Rat} (Y0 : Z0 = (0 : Rat)) (Y1 : Z1 = (1 : Rat)) {x0 q55 q53 q44 x4 x8 x5 x7 x1 x6 x3 x2 q58 q61 : Rat} (e44 : q44 = (((x0 * ((x4 * x8) - (x5 * x7))) + (x1 * ((x5 * x6) - (x3 * x8)))) + (x2 * ((x3 * x7) - (x4 * x6))))) (d53 : q53 * q44 = Z1) (e55 : q55 = (q53 * ((x7 * x2) - (x8 * x1)))) (e58 : q58 = (q53 * ((x8 * x0) - (x6 * x2)))) (e61 : q61 = (q53 * ((x6 * x1) - (x7 * x0)))) (c52 : ¬q44 = Z0) : Z0 = (((x0 * q55) + (x1 * q58)) + (x2 * q61)) := by
  subst Y0 Y1 e44 e55 e58 e61
  grind

theorem AffineBack_al111 {Z0 Z1 : Rat} (Y0 : Z0 = (0 : Rat)) (Y1 : Z1 = (1 : Rat)) {x0 q56 q53 q44 x4 x8 x5 x7 x1 x6 x3 x2 q59 q62 : Rat} (e44 : q44 = (((x0 * ((x4 * x8) - (x5 * x7))) + (x1 * ((x5 * x6) - (x3 * x8)))) + (x2 * ((x3 * x7) - (x4 * x6))))) (d53 : q53 * q44 = Z1) (e56 : q56 = (q53 * ((x1 * x5) - (x2 * x4)))) (e59 : q59 = (q53 * ((x2 * x3) - (x0 * x5)))) (e62 : q62 = (q53 * ((x0 * x4) - (x1 * x3)))) (c52 : ¬q44 = Z0) : Z0 = (((x0 * q56) + (x1 * q59)) + (x2 * q62)) := by
  subst Y0 Y1 e44 e56 e59 e62
  grind

theorem AffineBack_al113 {Z0 Z1 : Rat} (Y0 : Z0 = (0 : Rat)) (Y1 : Z1 = (1 : Rat)) {x3 q54 q53 q44 x0 x4 x8 x5 x7 x1 x6 x2 q57 q60 : Rat} (e44 : q44 = (((x0 * ((x4 * x8) - (x5 * x7))) + (x1 * ((x5 * x6) - (x3 * x8)))) + (x2 * ((x3 * x7) - (x4 * x6))))) (d53 : q53 * q44 = Z1) (e54 : q54 = (q53 * ((x4 * x8) - (x5 * x7)))) (e57 : q57 = (q53 * ((x5 * x6) - (x3 * x8)))) (e60 : q60 = (q53 * ((x3 * x7) - (x4 * x6)))) (c52 : ¬q44 = Z0) : Z0 = (((x3 * q54) + (x4 * q57)) + (x5 * q60)) := by
  subst Y0 Y1 e44 e54 e57 e60
  grind

theorem AffineBack_al115 {Z0 Z1 : Rat} (Y0 : Z0 = (0 : Rat)) (Y1 : Z1 = (1 : Rat)) {x3 q55 q53 q44 x0 x4 x8 x5 x7 x1 x6 x2 q58 q61 : Rat} (e44 : q44 = (((x0 * ((x4 * x8) - (x5 * x7))) + (x1 * ((x5 * x6) - (x3 * x8)))) + (x2 * ((x3 * x7) - (x4 * x6))))) (d53 : q53 * q44 = Z1) (e55 : q55 = (q53 * ((x7 * x2) - (x8 * x1)))) (e58 : q58 = (q53 * ((x8 * x0) - (x6 * x2)))) (e61 : q61 = (q53 * ((x6 * x1) - (x7 * x0)))) (c52 : ¬q44 = Z0) : Z1 = (((x3 * q55) + (x4 * q58)) + (x5 * q61)) := by
  subst Y0 Y1 e44 e55 e58 e61
  grind

theorem AffineBack_al117 {Z0 Z1 : Rat} (Y0 : Z0 = (0 : Rat)) (Y1 : Z1 = (1 : Rat)) {x3 q56 q53 q44 x0 x4 x8 x5 x7 x1 x6 x2 q59 q62 : Rat} (e44 : q44 = (((x0 * ((x4 * x8) - (x5 * x7))) + (x1 * ((x5 * x6) - (x3 * x8)))) + (x2 * ((x3 * x7) - (x4 * x6))))) (d53 : q53 * q44 = Z1) (e56 : q56 = (q53 * ((x1 * x5) - (x2 * x4)))) (e59 : q59 = (q53 * ((x2 * x3) - (x0 * x5)))) (e62 : q62 = (q53 * ((x0 * x4) - (x1 * x3)))) (c52 : ¬q44 = Z0) : Z0 = (((x3 * q56) + (x4 * q59)) + (x5 * q62)) := by
  subst Y0 Y1 e44 e56 e59 e62
  grind

theorem AffineBack_al119 {Z0 Z1 : Rat} (Y0 : Z0 = (0 : Rat)) (Y1 : Z1 = (1 : Rat)) {x6 q54 q53 q44 x0 x4 x8 x5 x7 x1 x3 x2 q57 q60 : Rat} (e44 : q44 = (((x0 * ((x4 * x8) - (x5 * x7))) + (x1 * ((x5 * x6) - (x3 * x8)))) + (x2 * ((x3 * x7) - (x4 * x6))))) (d53 : q53 * q44 = Z1) (e54 : q54 = (q53 * ((x4 * x8) - (x5 * x7)))) (e57 : q57 = (q53 * ((x5 * x6) - (x3 * x8)))) (e60 : q60 = (q53 * ((x3 * x7) - (x4 * x6)))) (c52 : ¬q44 = Z0) : Z0 = (((x6 * q54) + (x7 * q57)) + (x8 * q60)) := by
  subst Y0 Y1 e44 e54 e57 e60
  grind

theorem AffineBack_al121 {Z0 Z1 : Rat} (Y0 : Z0 = (0 : Rat)) (Y1 : Z1 = (1 : Rat)) {x6 q55 q53 q44 x0 x4 x8 x5 x7 x1 x3 x2 q58 q61 : Rat} (e44 : q44 = (((x0 * ((x4 * x8) - (x5 * x7))) + (x1 * ((x5 * x6) - (x3 * x8)))) + (x2 * ((x3 * x7) - (x4 * x6))))) (d53 : q53 * q44 = Z1) (e55 : q55 = (q53 * ((x7 * x2) - (x8 * x1)))) (e58 : q58 = (q53 * ((x8 * x0) - (x6 * x2)))) (e61 : q61 = (q53 * ((x6 * x1) - (x7 * x0)))) (c52 : ¬q44 = Z0) : Z0 = (((x6 * q55) + (x7 * q58)) + (x8 * q61)) := by
  subst Y0 Y1 e44 e55 e58 e61
  grind

theorem AffineBack_al123 {Z0 Z1 : Rat} (Y0 : Z0 = (0 : Rat)) (Y1 : Z1 = (1 : Rat)) {x6 q56 q53 q44 x0 x4 x8 x5 x7 x1 x3 x2 q59 q62 : Rat} (e44 : q44 = (((x0 * ((x4 * x8) - (x5 * x7))) + (x1 * ((x5 * x6) - (x3 * x8)))) + (x2 * ((x3 * x7) - (x4 * x6))))) (d53 : q53 * q44 = Z1) (e56 : q56 = (q53 * ((x1 * x5) - (x2 * x4)))) (e59 : q59 = (q53 * ((x2 * x3) - (x0 * x5)))) (e62 : q62 = (q53 * ((x0 * x4) - (x1 * x3)))) (c52 : ¬q44 = Z0) : Z1 = (((x6 * q56) + (x7 * q59)) + (x8 * q62)) := by
  subst Y0 Y1 e44 e56 e59 e62
  grind

theorem AffineBack_al125 {Zm1 Z0 Z1 : Rat} (Ym1 : Zm1 = (-1 : Rat)) (Y0 : Z0 = (0 : Rat)) (Y1 : Z1 = (1 : Rat)) {x0 q63 q54 q53 q44 x4 x8 x5 x7 x1 x6 x3 x2 x9 q55 x10 q56 x11 q64 q57 q58 q59 q65 q60 q61 q62 : Rat} (e44 : q44 = (((x0 * ((x4 * x8) - (x5 * x7))) + (x1 * ((x5 * x6) - (x3 * x8)))) + (x2 * ((x3 * x7) - (x4 * x6))))) (d53 : q53 * q44 = Z1) (e54 : q54 = (q53 * ((x4 * x8) - (x5 * x7)))) (e55 : q55 = (q53 * ((x7 * x2) - (x8 * x1)))) (e56 : q56 = (q53 * ((x1 * x5) - (x2 * x4)))) (e63 : q63 = (Zm1 * (((q54 * x9) + (q55 * x10)) + (q56 * x11)))) (e57 : q57 = (q53 * ((x5 * x6) - (x3 * x8)))) (e58 : q58 = (q53 * ((x8 * x0) - (x6 * x2)))) (e59 : q59 = (q53 * ((x2 * x3) - (x0 * x5)))) (e64 : q64 = (Zm1 * (((q57 * x9) + (q58 * x10)) + (q59 * x11)))) (e60 : q60 = (q53 * ((x3 * x7) - (x4 * x6)))) (e61 : q61 = (q53 * ((x6 * x1) - (x7 * x0)))) (e62 : q62 = (q53 * ((x0 * x4) - (x1 * x3)))) (e65 : q65 = (Zm1 * (((q60 * x9) + (q61 * x10)) + (q62 * x11)))) (c52 : ¬q44 = Z0) : Z0 = ((((x0 * q63) + (x1 * q64)) + (x2 * q65)) + x9) := by
  subst Ym1 Y0 Y1 e44 e54 e55 e56 e63 e57 e58 e59 e64 e60 e61 e62 e65
  grind

theorem AffineBack_al127 {Zm1 Z0 Z1 : Rat} (Ym1 : Zm1 = (-1 : Rat)) (Y0 : Z0 = (0 : Rat)) (Y1 : Z1 = (1 : Rat)) {x3 q63 q54 q53 q44 x0 x4 x8 x5 x7 x1 x6 x2 x9 q55 x10 q56 x11 q64 q57 q58 q59 q65 q60 q61 q62 : Rat} (e44 : q44 = (((x0 * ((x4 * x8) - (x5 * x7))) + (x1 * ((x5 * x6) - (x3 * x8)))) + (x2 * ((x3 * x7) - (x4 * x6))))) (d53 : q53 * q44 = Z1) (e54 : q54 = (q53 * ((x4 * x8) - (x5 * x7)))) (e55 : q55 = (q53 * ((x7 * x2) - (x8 * x1)))) (e56 : q56 = (q53 * ((x1 * x5) - (x2 * x4)))) (e63 : q63 = (Zm1 * (((q54 * x9) + (q55 * x10)) + (q56 * x11)))) (e57 : q57 = (q53 * ((x5 * x6) - (x3 * x8)))) (e58 : q58 = (q53 * ((x8 * x0) - (x6 * x2)))) (e59 : q59 = (q53 * ((x2 * x3) - (x0 * x5)))) (e64 : q64 = (Zm1 * (((q57 * x9) + (q58 * x10)) + (q59 * x11)))) (e60 : q60 = (q53 * ((x3 * x7) - (x4 * x6)))) (e61 : q61 = (q53 * ((x6 * x1) - (x7 * x0)))) (e62 : q62 = (q53 * ((x0 * x4) - (x1 * x3)))) (e65 : q65 = (Zm1 * (((q60 * x9) + (q61 * x10)) + (q62 * x11)))) (c52 : ¬q44 = Z0) : Z0 = ((((x3 * q63) + (x4 * q64)) + (x5 * q65)) + x10) := by
  subst Ym1 Y0 Y1 e44 e54 e55 e56 e63 e57 e58 e59 e64 e60 e61 e62 e65
  grind

theorem AffineBack_al129 {Zm1 Z0 Z1 : Rat} (Ym1 : Zm1 = (-1 : Rat)) (Y0 : Z0 = (0 : Rat)) (Y1 : Z1 = (1 : Rat)) {x6 q63 q54 q53 q44 x0 x4 x8 x5 x7 x1 x3 x2 x9 q55 x10 q56 x11 q64 q57 q58 q59 q65 q60 q61 q62 : Rat} (e44 : q44 = (((x0 * ((x4 * x8) - (x5 * x7))) + (x1 * ((x5 * x6) - (x3 * x8)))) + (x2 * ((x3 * x7) - (x4 * x6))))) (d53 : q53 * q44 = Z1) (e54 : q54 = (q53 * ((x4 * x8) - (x5 * x7)))) (e55 : q55 = (q53 * ((x7 * x2) - (x8 * x1)))) (e56 : q56 = (q53 * ((x1 * x5) - (x2 * x4)))) (e63 : q63 = (Zm1 * (((q54 * x9) + (q55 * x10)) + (q56 * x11)))) (e57 : q57 = (q53 * ((x5 * x6) - (x3 * x8)))) (e58 : q58 = (q53 * ((x8 * x0) - (x6 * x2)))) (e59 : q59 = (q53 * ((x2 * x3) - (x0 * x5)))) (e64 : q64 = (Zm1 * (((q57 * x9) + (q58 * x10)) + (q59 * x11)))) (e60 : q60 = (q53 * ((x3 * x7) - (x4 * x6)))) (e61 : q61 = (q53 * ((x6 * x1) - (x7 * x0)))) (e62 : q62 = (q53 * ((x0 * x4) - (x1 * x3)))) (e65 : q65 = (Zm1 * (((q60 * x9) + (q61 * x10)) + (q62 * x11)))) (c52 : ¬q44 = Z0) : Z0 = ((((x6 * q63) + (x7 * q64)) + (x8 * q65)) + x11) := by
  subst Ym1 Y0 Y1 e44 e54 e55 e56 e63 e57 e58 e59 e64 e60 e61 e62 e65
  grind

theorem AffineBack_al131 {Zm1 Z0 Z1 : Rat} (Ym1 : Zm1 = (-1 : Rat)) (Y0 : Z0 = (0 : Rat)) (Y1 : Z1 = (1 : Rat)) {x24 q54 q53 q44 x0 x4 x8 x5 x7 x1 x6 x3 x2 q28 x25 x26 x9 q55 q29 x10 q56 q30 x11 q63 : Rat} (e44 : q44 = (((x0 * ((x4 * x8) - (x5 * x7))) + (x1 * ((x5 * x6) - (x3 * x8)))) + (x2 * ((x3 * x7) - (x4 * x6))))) (d53 : q53 * q44 = Z1) (e54 : q54 = (q53 * ((x4 * x8) - (x5 * x7)))) (e28 : q28 = ((((x0 * x24) + (x1 * x25)) + (x2 * x26)) + x9)) (e55 : q55 = (q53 * ((x7 * x2) - (x8 * x1)))) (e29 : q29 = ((((x3 * x24) + (x4 * x25)) + (x5 * x26)) + x10)) (e56 : q56 = (q53 * ((x1 * x5) - (x2 * x4)))) (e30 : q30 = ((((x6 * x24) + (x7 * x25)) + (x8 * x26)) + x11)) (e63 : q63 = (Zm1 * (((q54 * x9) + (q55 * x10)) + (q56 * x11)))) (c52 : ¬q44 = Z0) : x24 = ((((q54 * q28) + (q55 * q29)) + (q56 * q30)) + q63) := by
  subst Ym1 Y0 Y1 e44 e54 e28 e55 e29 e56 e30 e63
  grind

theorem AffineBack_al133 {Zm1 Z0 Z1 : Rat} (Ym1 : Zm1 = (-1 : Rat)) (Y0 : Z0 = (0 : Rat)) (Y1 : Z1 = (1 : Rat)) {x25 q57 q53 q44 x0 x4 x8 x5 x7 x1 x6 x3 x2 q28 x24 x26 x9 q58 q29 x10 q59 q30 x11 q64 : Rat} (e44 : q44 = (((x0 * ((x4 * x8) - (x5 * x7))) + (x1 * ((x5 * x6) - (x3 * x8)))) + (x2 * ((x3 * x7) - (x4 * x6))))) (d53 : q53 * q44 = Z1) (e57 : q57 = (q53 * ((x5 * x6) - (x3 * x8)))) (e28 : q28 = ((((x0 * x24) + (x1 * x25)) + (x2 * x26)) + x9)) (e58 : q58 = (q53 * ((x8 * x0) - (x6 * x2)))) (e29 : q29 = ((((x3 * x24) + (x4 * x25)) + (x5 * x26)) + x10)) (e59 : q59 = (q53 * ((x2 * x3) - (x0 * x5)))) (e30 : q30 = ((((x6 * x24) + (x7 * x25)) + (x8 * x26)) + x11)) (e64 : q64 = (Zm1 * (((q57 * x9) + (q58 * x10)) + (q59 * x11)))) (c52 : ¬q44 = Z0) : x25 = ((((q57 * q28) + (q58 * q29)) + (q59 * q30)) + q64) := by
  subst Ym1 Y0 Y1 e44 e57 e28 e58 e29 e59 e30 e64
  grind

theorem AffineBack_al135 {Zm1 Z0 Z1 : Rat} (Ym1 : Zm1 = (-1 : Rat)) (Y0 : Z0 = (0 : Rat)) (Y1 : Z1 = (1 : Rat)) {x26 q60 q53 q44 x0 x4 x8 x5 x7 x1 x6 x3 x2 q28 x24 x25 x9 q61 q29 x10 q62 q30 x11 q65 : Rat} (e44 : q44 = (((x0 * ((x4 * x8) - (x5 * x7))) + (x1 * ((x5 * x6) - (x3 * x8)))) + (x2 * ((x3 * x7) - (x4 * x6))))) (d53 : q53 * q44 = Z1) (e60 : q60 = (q53 * ((x3 * x7) - (x4 * x6)))) (e28 : q28 = ((((x0 * x24) + (x1 * x25)) + (x2 * x26)) + x9)) (e61 : q61 = (q53 * ((x6 * x1) - (x7 * x0)))) (e29 : q29 = ((((x3 * x24) + (x4 * x25)) + (x5 * x26)) + x10)) (e62 : q62 = (q53 * ((x0 * x4) - (x1 * x3)))) (e30 : q30 = ((((x6 * x24) + (x7 * x25)) + (x8 * x26)) + x11)) (e65 : q65 = (Zm1 * (((q60 * x9) + (q61 * x10)) + (q62 * x11)))) (c52 : ¬q44 = Z0) : x26 = ((((q60 * q28) + (q61 * q29)) + (q62 * q30)) + q65) := by
  subst Ym1 Y0 Y1 e44 e60 e28 e61 e29 e62 e30 e65
  grind

theorem pure_AffineBack {r0 r1 r2 r3 r4 r5 r6 r7 r8 r9 r10 r11 r12 r13 r14 r15 r16 r17 r18 r19 r20 r21 r22 r23 r24 r25 r26 : RR} (g0 : r0.ok 1048576) (g1 : r1.ok 1048576) (g2 : r2.ok 1048576) (g3 : r3.ok 1048576) (g4 : r4.ok 1048576) (g5 : r5.ok 1048576) (g6 : r6.ok 1048576) (g7 : r7.ok 1048576) (g8 : r8.ok 1048576) (g9 : r9.ok 1048576) (g10 : r10.ok 1048576) (g11 : r11.ok 1048576) (g12 : r12.ok 1048576) (g13 : r13.ok 1048576) (g14 : r14.ok 1048576) (g15 : r15.ok 1048576) (g16 : r16.ok 1048576) (g17 : r17.ok 1048576) (g18 : r18.ok 1048576) (g19 : r19.ok 1048576) (g20 : r20.ok 1048576) (g21 : r21.ok 1048576) (g22 : r22.ok 1048576) (g23 : r23.ok 1048576) (g24 : r24.ok 1048576) (g25 : r25.ok 1048576) (g26 : r26.ok 1048576) : PureCalls prog F.penumbralaw07_AffineBack [.agg ([.bool r0.neg, nl r0.num, nl r0.den, .bool r1.neg, nl r1.num, nl r1.den, .bool r2.neg, nl r2.num, nl r2.den, .bool r3.neg, nl r3.num, nl r3.den, .bool r4.neg, nl r4.num, nl r4.den, .bool r5.neg, nl r5.num, nl r5.den, .bool r6.neg, nl r6.num, nl r6.den, .bool r7.neg, nl r7.num, nl r7.den, .bool r8.neg, nl r8.num, nl r8.den, .bool r9.neg, nl r9.num, nl r9.den, .bool r10.neg, nl r10.num, nl r10.den, .bool r11.neg, nl r11.num, nl r11.den]), .agg ([.bool r12.neg, nl r12.num, nl r12.den, .bool r13.neg, nl r13.num, nl r13.den, .bool r14.neg, nl r14.num, nl r14.den, .bool r15.neg, nl r15.num, nl r15.den, .bool r16.neg, nl r16.num, nl r16.den, .bool r17.neg, nl r17.num, nl r17.den, .bool r18.neg, nl r18.num, nl r18.den, .bool r19.neg, nl r19.num, nl r19.den, .bool r20.neg, nl r20.num, nl r20.den, .bool r21.neg, nl r21.num, nl r21.den, .bool r22.neg, nl r22.num, nl r22.den, .bool r23.neg, nl r23.num, nl r23.den]), .agg ([.bool r24.neg, nl r24.num, nl r24.den, .bool r25.neg, nl r25.num, nl r25.den, .bool r26.neg, nl r26.num, nl r26.den])] [.one (.bool true)] := by
  obtain ⟨Zm1, Ym1⟩ := ex_eq (-1 : Rat)
  obtain ⟨Z0, Y0⟩ := ex_eq (0 : Rat)
  obtain ⟨Z1, Y1⟩ := ex_eq (1 : Rat)
  obtain ⟨x0, h0⟩ := Num.raw g0 (by decide)
  obtain ⟨x1, h1⟩ := Num.raw g1 (by decide)
  obtain ⟨x2, h2⟩ := Num.raw g2 (by decide)
  obtain ⟨x3, h3⟩ := Num.raw g3 (by decide)
  obtain ⟨x4, h4⟩ := Num.raw g4 (by decide)
  obtain ⟨x5, h5⟩ := Num.raw g5 (by decide)
  obtain ⟨x6, h6⟩ := Num.raw g6 (by decide)
  obtain ⟨x7, h7⟩ := Num.raw g7 (by decide)
  obtain ⟨x8, h8⟩ := Num.raw g8 (by decide)
  obtain ⟨x9, h9⟩ := Num.raw g9 (by decide)
  obtain ⟨x10, h10⟩ := Num.raw g10 (by decide)
  obtain ⟨x11, h11⟩ := Num.raw g11 (by decide)
  obtain ⟨x12, h12⟩ := Num.raw g12 (by decide)
  obtain ⟨x13, h13⟩ := Num.raw g13 (by decide)
  obtain ⟨x14, h14⟩ := Num.raw g14 (by decide)
  obtain ⟨x15, h15⟩ := Num.raw g15 (by decide)
  obtain ⟨x16, h16⟩ := Num.raw g16 (by decide)
  obtain ⟨x17, h17⟩ := Num.raw g17 (by decide)
  obtain ⟨x18, h18⟩ := Num.raw g18 (by decide)
  obtain ⟨x19, h19⟩ := Num.raw g19 (by decide)
  obtain ⟨x20, h20⟩ := Num.raw g20 (by decide)
  obtain ⟨x21, h21⟩ := Num.raw g21 (by decide)
  obtain ⟨x22, h22⟩ := Num.raw g22 (by decide)
  obtain ⟨x23, h23⟩ := Num.raw g23 (by decide)
  obtain ⟨x24, h24⟩ := Num.raw g24 (by decide)
  obtain ⟨x25, h25⟩ := Num.raw g25 (by decide)
  obtain ⟨x26, h26⟩ := Num.raw g26 (by decide)
  refine symFunc_sound hmix tree_penumbralaw07_AffineBack (by kernel_rfl) rfl ?_
  unfold ir_penumbralaw07_AffineBack
  simp only [fa_agg, fa_one, fa_nil, List.cons_append, List.nil_append, List.append_nil]
  obtain ⟨q1, e1⟩ := ex_eq (((x12 * x0) + (x13 * x3)) + (x14 * x6))
  obtain ⟨q2, e2⟩ := ex_eq (((x12 * x1) + (x13 * x4)) + (x14 * x7))
  obtain ⟨q3, e3⟩ := ex_eq (((x12 * x2) + (x13 * x5)) + (x14 * x8))
  obtain ⟨q4, e4⟩ := ex_eq (((x15 * x0) + (x16 * x3)) + (x17 * x6))
  obtain ⟨q5, e5⟩ := ex_eq (((x15 * x1) + (x16 * x4)) + (x17 * x7))
  obtain ⟨q6, e6⟩ := ex_eq (((x15 * x2) + (x16 * x5)) + (x17 * x8))
  obtain ⟨q7, e7⟩ := ex_eq (((x18 * x0) + (x19 * x3)) + (x20 * x6))
  obtain ⟨q8, e8⟩ := ex_eq (((x18 * x1) + (x19 * x4)) + (x20 * x7))
  obtain ⟨q9, e9⟩ := ex_eq (((x18 * x2) + (x19 * x5)) + (x20 * x8))
  obtain ⟨q10, e10⟩ := ex_eq ((((x12 * x9) + (x13 * x10)) + (x14 * x11)) + x21)
  obtain ⟨q11, e11⟩ := ex_eq ((((x15 * x9) + (x16 * x10)) + (x17 * x11)) + x22)
  obtain ⟨q12, e12⟩ := ex_eq ((((x18 * x9) + (x19 * x10)) + (x20 * x11)) + x23)
  refine call_step (n_affine_Then_0 (k0 := q1) (k1 := q2) (k2 := q3) (k3 := q4) (k4 := q5) (k5 := q6) (k6 := q7) (k7 := q8) (k8 := q9) (k9 := q10) (k10 := q11) (k11 := q12) (h0.mono (by decide)) (h1.mono (by decide)) (h2.mono (by decide)) (h3.mono (by decide)) (h4.mono (by decide)) (h5.mono (by decide)) (h6.mono (by decide)) (h7.mono (by decide)) (h8.mono (by decide)) (h9.mono (by decide)) (h10.mono (by decide)) (h11.mono (by decide)) (h12.mono (by decide)) (h13.mono (by decide)) (h14.mono (by decide)) (h15.mono (by decide)) (h16.mono (by decide)) (h17.mono (by decide)) (h18.mono (by decide)) (h19.mono (by decide)) (h20.mono (by decide)) (h21.mono (by decide)) (h22.mono (by decide)) (h23.mono (by decide)) e1 e2 e3 e4 e5 e6 e7 e8 e9 e10 e11 e12) rfl ?_
  simp only [fa_agg, fa_one, fa_nil, List.cons_append, List.nil_append, List.append_nil]
  refine call_step n_penumbralaw07_fixed rfl ?_
  simp only [fa_agg, fa_one, fa_nil, List.cons_append, List.nil_append, List.append_nil]
  refine primS (.bool false) rfl ?_
  refine itF rfl ?_
  have m13 : Num 6291458 (cr q1) q1 := Num.eqn e1 (Sm.add (Sm.add (Sm.mul h12.sm h0.sm) (Sm.mul h13.sm h3.sm)) (Sm.mul h14.sm h6.sm))
  have m14 : Num 6291458 (cr q2) q2 := Num.eqn e2 (Sm.add (Sm.add (Sm.mul h12.sm h1.sm) (Sm.mul h13.sm h4.sm)) (Sm.mul h14.sm h7.sm))
  have m15 : Num 6291458 (cr q3) q3 := Num.eqn e3 (Sm.add (Sm.add (Sm.mul h12.sm h2.sm) (Sm.mul h13.sm h5.sm)) (Sm.mul h14.sm h8.sm))
  have m16 : Num 6291458 (cr q4) q4 := Num.eqn e4 (Sm.add (Sm.add (Sm.mul h15.sm h0.sm) (Sm.mul h16.sm h3.sm)) (Sm.mul h17.sm h6.sm))
  have m17 : Num 6291458 (cr q5) q5 := Num.eqn e5 (Sm.add (Sm.add (Sm.mul h15.sm h1.sm) (Sm.mul h16.sm h4.sm)) (Sm.mul h17.sm h7.sm))
  have m18 : Num 6291458 (cr q6) q6 := Num.eqn e6 (Sm.add (Sm.add (Sm.mul h15.sm h2.sm) (Sm.mul h16.sm h5.sm)) (Sm.mul h17.sm h8.sm))
  have m19 : Num 6291458 (cr q7) q7 := Num.eqn e7 (Sm.add (Sm.add (Sm.mul h18.sm h0.sm) (Sm.mul h19.sm h3.sm)) (Sm.mul h20.sm h6.sm))
  have m20 : Num 6291458 (cr q8) q8 := Num.eqn e8 (Sm.add (Sm.add (Sm.mul h18.sm h1.sm) (Sm.mul h19.sm h4.sm)) (Sm.mul h20.sm h7.sm))
  have m21 : Num 6291458 (cr q9) q9 := Num.eqn e9 (Sm.add (Sm.add (Sm.mul h18.sm h2.sm) (Sm.mul h19.sm h5.sm)) (Sm.mul h20.sm h8.sm))
  have m22 : Num 7340035 (cr q10) q10 := Num.eqn e10 (Sm.add (Sm.add (Sm.add (Sm.mul h12.sm h9.sm) (Sm.mul h13.sm h10.sm)) (Sm.mul h14.sm h11.sm)) h21.sm)
  have m23 : Num 7340035 (cr q11) q11 := Num.eqn e11 (Sm.add (Sm.add (Sm.add (Sm.mul h15.sm h9.sm) (Sm.mul h16.sm h10.sm)) (Sm.mul h17.sm h11.sm)) h22.sm)
  have m24 : Num 7340035 (cr q12) q12 := Num.eqn e12 (Sm.add (Sm.add (Sm.add (Sm.mul h18.sm h9.sm) (Sm.mul h19.sm h10.sm)) (Sm.mul h20.sm h11.sm)) h23.sm)
  obtain ⟨q25, e25⟩ := ex_eq ((((q1 * x24) + (q2 * x25)) + (q3 * x26)) + q10)
  obtain ⟨q26, e26⟩ := ex_eq ((((q4 * x24) + (q5 * x25)) + (q6 * x26)) + q11)
  obtain ⟨q27, e27⟩ := ex_eq ((((q7 * x24) + (q8 * x25)) + (q9 * x26)) + q12)
  refine call_step (n_affine_Apply_0 (k0 := q25) (k1 := q26) (k2 := q27) (m13.mono (by decide)) (m14.mono (by decide)) (m15.mono (by decide)) (m16.mono (by decide)) (m17.mono (by decide)) (m18.mono (by decide)) (m19.mono (by decide)) (m20.mono (by decide)) (m21.mono (by decide)) (m22.mono (by decide)) (m23.mono (by decide)) (m24.mono (by decide)) (h24.mono (by decide)) (h25.mono (by decide)) (h26.mono (by decide)) e25 e26 e27) rfl ?_
  simp only [fa_agg, fa_one, fa_nil, List.cons_append, List.nil_append, List.append_nil]
  obtain ⟨q28, e28⟩ := ex_eq ((((x0 * x24) + (x1 * x25)) + (x2 * x26)) + x9)
  obtain ⟨q29, e29⟩ := ex_eq ((((x3 * x24) + (x4 * x25)) + (x5 * x26)) + x10)
  obtain ⟨q30, e30⟩ := ex_eq ((((x6 * x24) + (x7 * x25)) + (x8 * x26)) + x11)
  refine call_step (n_affine_Apply_0 (k0 := q28) (k1 := q29) (k2 := q30) (h0.mono (by decide)) (h1.mono (by decide)) (h2.mono (by decide)) (h3.mono (by decide)) (h4.mono (by decide)) (h5.mono (by decide)) (h6.mono (by decide)) (h7.mono (by decide)) (h8.mono (by decide)) (h9.mono (by decide)) (h10.mono (by decide)) (h11.mono (by decide)) (h24.mono (by decide)) (h25.mono (by decide)) (h26.mono (by decide)) e28 e29 e30) rfl ?_
  simp only [fa_agg, fa_one, fa_nil, List.cons_append, List.nil_append, List.append_nil]
  have m31 : Num 7340035 (cr q28) q28 := Num.eqn e28 (Sm.add (Sm.add (Sm.add (Sm.mul h0.sm h24.sm) (Sm.mul h1.sm h25.sm)) (Sm.mul h2.sm h26.sm)) h9.sm)
  have m32 : Num 7340035 (cr q29) q29 := Num.eqn e29 (Sm.add (Sm.add (Sm.add (Sm.mul h3.sm h24.sm) (Sm.mul h4.sm h25.sm)) (Sm.mul h5.sm h26.sm)) h10.sm)
  have m33 : Num 7340035 (cr q30) q30 := Num.eqn e30 (Sm.add (Sm.add (Sm.add (Sm.mul h6.sm h24.sm) (Sm.mul h7.sm h25.sm)) (Sm.mul h8.sm h26.sm)) h11.sm)
  have u34 : q25 = ((((x12 * q28) + (x13 * q29)) + (x14 * q30)) + x21) := (AffineBack_al35 e1 e2 e3 e10 e25 e28 e29 e30)
  have u36 : q26 = ((((x15 * q28) + (x16 * q29)) + (x17 * q30)) + x22) := (AffineBack_al37 e4 e5 e6 e11 e26 e28 e29 e30)
  have u38 : q27 = ((((x18 * q28) + (x19 * q29)) + (x20 * q30)) + x23) := (AffineBack_al39 e7 e8 e9 e12 e27 e28 e29 e30)
  refine call_step (n_affine_Apply_0 (k0 := q25) (k1 := q26) (k2 := q27) (h12.mono (by decide)) (h13.mono (by decide)) (h14.mono (by decide)) (h15.mono (by decide)) (h16.mono (by decide)) (h17.mono (by decide)) (h18.mono (by decide)) (h19.mono (by decide)) (h20.mono (by decide)) (h21.mono (by decide)) (h22.mono (by decide)) (h23.mono (by decide)) (m31.mono (by decide)) (m32.mono (by decide)) (m33.mono (by decide)) u34 u36 u38) rfl ?_
  simp only [fa_agg, fa_one, fa_nil, List.cons_append, List.nil_append, List.append_nil]
  have m40 : Num 29360140 (cr q25) q25 := Num.eqn e25 (Sm.add (Sm.add (Sm.add (Sm.mul m13.sm h24.sm) (Sm.mul m14.sm h25.sm)) (Sm.mul m15.sm h26.sm)) m22.sm)
  have m41 : Num 29360140 (cr q26) q26 := Num.eqn e26 (Sm.add (Sm.add (Sm.add (Sm.mul m16.sm h24.sm) (Sm.mul m17.sm h25.sm)) (Sm.mul m18.sm h26.sm)) m23.sm)
  have m42 : Num 29360140 (cr q27) q27 := Num.eqn e27 (Sm.add (Sm.add (Sm.add (Sm.mul m19.sm h24.sm) (Sm.mul m20.sm h25.sm)) (Sm.mul m21.sm h26.sm)) m24.sm)
  refine call_step (n_penumbraref05_Is_0 (m40.mono (by decide)) (m41.mono (by decide)) (m42.mono (by decide)) (m40.mono (by decide)) (m41.mono (by decide)) (m42.mono (by decide)) rfl rfl rfl) rfl ?_
  simp only [fa_agg, fa_one, fa_nil, List.cons_append, List.nil_append, List.append_nil]
  refine primS (.bool false) rfl ?_
  refine itF rfl ?_
  obtain ⟨q43, e43⟩ := ex_eq (((q1 * ((q5 * q9) - (q6 * q8))) + (q2 * ((q6 * q7) - (q4 * q9)))) + (q3 * ((q4 * q8) - (q5 * q7))))
  refine call_step (n_affine_Det_0 (k0 := q43) (m13.mono (by decide)) (m14.mono (by decide)) (m15.mono (by decide)) (m16.mono (by decide)) (m17.mono (by decide)) (m18.mono (by decide)) (m19.mono (by decide)) (m20.mono (by decide)) (m21.mono (by decide)) (m22.mono (by decide)) (m23.mono (by decide)) (m24.mono (by decide)) e43) rfl ?_
  simp only [fa_agg, fa_one, fa_nil, List.cons_append, List.nil_append, List.append_nil]
  obtain ⟨q44, e44⟩ := ex_eq (((x0 * ((x4 * x8) - (x5 * x7))) + (x1 * ((x5 * x6) - (x3 * x8)))) + (x2 * ((x3 * x7) - (x4 * x6))))
  refine call_step (n_affine_Det_0 (k0 := q44) (h0.mono (by decide)) (h1.mono (by decide)) (h2.mono (by decide)) (h3.mono (by decide)) (h4.mono (by decide)) (h5.mono (by decide)) (h6.mono (by decide)) (h7.mono (by decide)) (h8.mono (by decide)) (h9.mono (by decide)) (h10.mono (by decide)) (h11.mono (by decide)) e44) rfl ?_
  simp only [fa_agg, fa_one, fa_nil, List.cons_append, List.nil_append, List.append_nil]
  obtain ⟨q45, e45⟩ := ex_eq (((x12 * ((x16 * x20) - (x17 * x19))) + (x13 * ((x17 * x18) - (x15 * x20)))) + (x14 * ((x15 * x19) - (x16 * x18))))
  refine call_step (n_affine_Det_0 (k0 := q45) (h12.mono (by decide)) (h13.mono (by decide)) (h14.mono (by decide)) (h15.mono (by decide)) (h16.mono (by decide)) (h17.mono (by decide)) (h18.mono (by decide)) (h19.mono (by decide)) (h20.mono (by decide)) (h21.mono (by decide)) (h22.mono (by decide)) (h23.mono (by decide)) e45) rfl ?_
  simp only [fa_agg, fa_one, fa_nil, List.cons_append, List.nil_append, List.append_nil]
  refine primS (rl [(cr q44), (cr q45)]) rfl ?_
  have m47 : Num 15728645 (cr q44) q44 := Num.eqn e44 (Sm.add (Sm.add (Sm.mul h0.sm (Sm.sub (Sm.mul h4.sm h8.sm) (Sm.mul h5.sm h7.sm))) (Sm.mul h1.sm (Sm.sub (Sm.mul h5.sm h6.sm) (Sm.mul h3.sm h8.sm)))) (Sm.mul h2.sm (Sm.sub (Sm.mul h3.sm h7.sm) (Sm.mul h4.sm h6.sm))))
  have m48 : Num 15728645 (cr q45) q45 := Num.eqn e45 (Sm.add (Sm.add (Sm.mul h12.sm (Sm.sub (Sm.mul h16.sm h20.sm) (Sm.mul h17.sm h19.sm))) (Sm.mul h13.sm (Sm.sub (Sm.mul h17.sm h18.sm) (Sm.mul h15.sm h20.sm)))) (Sm.mul h14.sm (Sm.sub (Sm.mul h15.sm h19.sm) (Sm.mul h16.sm h18.sm))))
  have u49 : q43 = (q44 * q45) := (AffineBack_al50 e1 e5 e9 e6 e8 e2 e7 e4 e3 e43 e44 e45)
  refine call_step (n_rat_Product_2 (k0 := q43) (m47.mono (by decide)) (m48.mono (by decide)) u49) rfl ?_
  simp only [fa_agg, fa_one, fa_nil, List.cons_append, List.nil_append, List.append_nil]
  have m51 : Num 94371875 (cr q43) q43 := Num.eqn e43 (Sm.add (Sm.add (Sm.mul m13.sm (Sm.sub (Sm.mul m17.sm m21.sm) (Sm.mul m18.sm m20.sm))) (Sm.mul m14.sm (Sm.sub (Sm.mul m18.sm m19.sm) (Sm.mul m16.sm m21.sm)))) (Sm.mul m15.sm (Sm.sub (Sm.mul m16.sm m20.sm) (Sm.mul m17.sm m19.sm))))
  refine call_step (n_penumbraref03_Is_t (m51.mono (by decide)) (m51.mono (by decide)) rfl) rfl ?_
  simp only [fa_agg, fa_one, fa_nil, List.cons_append, List.nil_append, List.append_nil]
  refine primS (.bool false) rfl ?_
  refine itF rfl ?_
  by_cases c52 : q44 = Z0
  · skip
    refine call_step (n_affine_Inverse_0 (k0 := q44) Y0 Y1 (h0.mono (by decide)) (h1.mono (by decide)) (h2.mono (by decide)) (h3.mono (by decide)) (h4.mono (by decide)) (h5.mono (by decide)) (h6.mono (by decide)) (h7.mono (by decide)) (h8.mono (by decide)) (h9.mono (by decide)) (h10.mono (by decide)) (h11.mono (by decide)) e44 c52) rfl ?_
    simp only [fa_agg, fa_one, fa_nil, List.cons_append, List.nil_append, List.append_nil]
    refine primS (.bool true) rfl ?_
    refine itT rfl ?_
    refine call_step (n_affine_Det_0 (k0 := q44) (h0.mono (by decide)) (h1.mono (by decide)) (h2.mono (by decide)) (h3.mono (by decide)) (h4.mono (by decide)) (h5.mono (by decide)) (h6.mono (by decide)) (h7.mono (by decide)) (h8.mono (by decide)) (h9.mono (by decide)) (h10.mono (by decide)) (h11.mono (by decide)) e44) rfl ?_
    simp only [fa_agg, fa_one, fa_nil, List.cons_append, List.nil_append, List.append_nil]
    refine call_step (n_rat_Sign (m47.mono (by decide))) rfl ?_
    simp only [fa_agg, fa_one, fa_nil, List.cons_append, List.nil_append, List.append_nil]
    refine primS (.bool true) (cs_eql_t ((sg_eq Y0).2 c52)) ?_
    exact ret_step rfl
  · skip
    obtain ⟨q53, e53⟩ := ex_eq (Z1 / q44)
    have d53 := div_mul Y0 e53 c52
    obtain ⟨q54, e54⟩ := ex_eq (q53 * ((x4 * x8) - (x5 * x7)))
    obtain ⟨q55, e55⟩ := ex_eq (q53 * ((x7 * x2) - (x8 * x1)))
    obtain ⟨q56, e56⟩ := ex_eq (q53 * ((x1 * x5) - (x2 * x4)))
    obtain ⟨q57, e57⟩ := ex_eq (q53 * ((x5 * x6) - (x3 * x8)))
    obtain ⟨q58, e58⟩ := ex_eq (q53 * ((x8 * x0) - (x6 * x2)))
    obtain ⟨q59, e59⟩ := ex_eq (q53 * ((x2 * x3) - (x0 * x5)))
    obtain ⟨q60, e60⟩ := ex_eq (q53 * ((x3 * x7) - (x4 * x6)))
    obtain ⟨q61, e61⟩ := ex_eq (q53 * ((x6 * x1) - (x7 * x0)))
    obtain ⟨q62, e62⟩ := ex_eq (q53 * ((x0 * x4) - (x1 * x3)))
    obtain ⟨q63, e63⟩ := ex_eq (Zm1 * (((q54 * x9) + (q55 * x10)) + (q56 * x11)))
    obtain ⟨q64, e64⟩ := ex_eq (Zm1 * (((q57 * x9) + (q58 * x10)) + (q59 * x11)))
    obtain ⟨q65, e65⟩ := ex_eq (Zm1 * (((q60 * x9) + (q61 * x10)) + (q62 * x11)))
    refine call_step (n_affine_Inverse_1 (k0 := q44) (k1 := q53) (k2 := q54) (k3 := q55) (k4 := q56) (k5 := q57) (k6 := q58) (k7 := q59) (k8 := q60) (k9 := q61) (k10 := q62) (k11 := q63) (k12 := q64) (k13 := q65) Ym1 Y0 Y1 (h0.mono (by decide)) (h1.mono (by decide)) (h2.mono (by decide)) (h3.mono (by decide)) (h4.mono (by decide)) (h5.mono (by decide)) (h6.mono (by decide)) (h7.mono (by decide)) (h8.mono (by decide)) (h9.mono (by decide)) (h10.mono (by decide)) (h11.mono (by decide)) e44 e53 e54 e55 e56 e57 e58 e59 e60 e61 e62 e63 e64 e65 c52) rfl ?_
    simp only [fa_agg, fa_one, fa_nil, List.cons_append, List.nil_append, List.append_nil]
    refine primS (.bool false) rfl ?_
    refine itF rfl ?_
    have m68 : Num 1 (cr Z1) Z1 := Num.c Y1 (by decide +kernel) (by decide +kernel)
    have m67 : Num 15728646 (cr q53) q53 := Num.eqn e53 (Sm.div m68.sm m47.sm)
    have m66 : Num 19922951 (cr q54) q54 := Num.eqn e54 (Sm.mul m67.sm (Sm.sub (Sm.mul h4.sm h8.sm) (Sm.mul h5.sm h7.sm)))
    have m69 : Num 19922951 (cr q55) q55 := Num.eqn e55 (Sm.mul m67.sm (Sm.sub (Sm.mul h7.sm h2.sm) (Sm.mul h8.sm h1.sm)))
    have m70 : Num 19922951 (cr q56) q56 := Num.eqn e56 (Sm.mul m67.sm (Sm.sub (Sm.mul h1.sm h5.sm) (Sm.mul h2.sm h4.sm)))
    have m71 : Num 19922951 (cr q57) q57 := Num.eqn e57 (Sm.mul m67.sm (Sm.sub (Sm.mul h5.sm h6.sm) (Sm.mul h3.sm h8.sm)))
    have m72 : Num 19922951 (cr q58) q58 := Num.eqn e58 (Sm.mul m67.sm (Sm.sub (Sm.mul h8.sm h0.sm) (Sm.mul h6.sm h2.sm)))
    have m73 : Num 19922951 (cr q59) q59 := Num.eqn e59 (Sm.mul m67.sm (Sm.sub (Sm.mul h2.sm h3.sm) (Sm.mul h0.sm h5.sm)))
    have m74 : Num 19922951 (cr q60) q60 := Num.eqn e60 (Sm.mul m67.sm (Sm.sub (Sm.mul h3.sm h7.sm) (Sm.mul h4.sm h6.sm)))
    have m75 : Num 19922951 (cr q61) q61 := Num.eqn e61 (Sm.mul m67.sm (Sm.sub (Sm.mul h6.sm h1.sm) (Sm.mul h7.sm h0.sm)))
    have m76 : Num 19922951 (cr q62) q62 := Num.eqn e62 (Sm.mul m67.sm (Sm.sub (Sm.mul h0.sm h4.sm) (Sm.mul h1.sm h3.sm)))
    have m78 : Num 1 (cr Zm1) Zm1 := Num.c Ym1 (by decide +kernel) (by decide +kernel)
    have m77 : Num 62914584 (cr q63) q63 := Num.eqn e63 (Sm.mul m78.sm (Sm.add (Sm.add (Sm.mul m66.sm h9.sm) (Sm.mul m69.sm h10.sm)) (Sm.mul m70.sm h11.sm)))
    have m79 : Num 62914584 (cr q64) q64 := Num.eqn e64 (Sm.mul m78.sm (Sm.add (Sm.add (Sm.mul m71.sm h9.sm) (Sm.mul m72.sm h10.sm)) (Sm.mul m73.sm h11.sm)))
    have m80 : Num 62914584 (cr q65) q65 := Num.eqn e65 (Sm.mul m78.sm (Sm.add (Sm.add (Sm.mul m74.sm h9.sm) (Sm.mul m75.sm h10.sm)) (Sm.mul m76.sm h11.sm)))
    have u81 : Z1 = (((q54 * x0) + (q55 * x3)) + (q56 * x6)) := (AffineBack_al82 Y0 Y1 e44 d53 e54 e55 e56 c52)
    have u83 : Z0 = (((q54 * x1) + (q55 * x4)) + (q56 * x7)) := (AffineBack_al84 Y0 Y1 e44 d53 e54 e55 e56 c52)
    have u85 : Z0 = (((q54 * x2) + (q55 * x5)) + (q56 * x8)) := (AffineBack_al86 Y0 Y1 e44 d53 e54 e55 e56 c52)
    have u87 : Z0 = (((q57 * x0) + (q58 * x3)) + (q59 * x6)) := (AffineBack_al88 Y0 Y1 e44 d53 e57 e58 e59 c52)
    have u89 : Z1 = (((q57 * x1) + (q58 * x4)) + (q59 * x7)) := (AffineBack_al90 Y0 Y1 e44 d53 e57 e58 e59 c52)
    have u91 : Z0 = (((q57 * x2) + (q58 * x5)) + (q59 * x8)) := (AffineBack_al92 Y0 Y1 e44 d53 e57 e58 e59 c52)
    have u93 : Z0 = (((q60 * x0) + (q61 * x3)) + (q62 * x6)) := (AffineBack_al94 Y0 Y1 e44 d53 e60 e61 e62 c52)
    have u95 : Z0 = (((q60 * x1) + (q61 * x4)) + (q62 * x7)) := (AffineBack_al96 Y0 Y1 e44 d53 e60 e61 e62 c52)
    have u97 : Z1 = (((q60 * x2) + (q61 * x5)) + (q62 * x8)) := (AffineBack_al98 Y0 Y1 e44 d53 e60 e61 e62 c52)
    have u99 : Z0 = ((((q54 * x9) + (q55 * x10)) + (q56 * x11)) + q63) := (AffineBack_al100 Ym1 Y0 Y1 e44 d53 e54 e55 e56 e63 c52)
    have u101 : Z0 = ((((q57 * x9) + (q58 * x10)) + (q59 * x11)) + q64) := (AffineBack_al102 Ym1 Y0 Y1 e44 d53 e57 e58 e59 e64 c52)
    have u103 : Z0 = ((((q60 * x9) + (q61 * x10)) + (q62 * x11)) + q65) := (AffineBack_al104 Ym1 Y0 Y1 e44 d53 e60 e61 e62 e65 c52)
    refine call_step (n_affine_Then_0 (k0 := Z1) (k1 := Z0) (k2 := Z0) (k3 := Z0) (k4 := Z1) (k5 := Z0) (k6 := Z0) (k7 := Z0) (k8 := Z1) (k9 := Z0) (k10 := Z0) (k11 := Z0) (h0.mono (by decide)) (h1.mono (by decide)) (h2.mono (by decide)) (h3.mono (by decide)) (h4.mono (by decide)) (h5.mono (by decide)) (h6.mono (by decide)) (h7.mono (by decide)) (h8.mono (by decide)) (h9.mono (by decide)) (h10.mono (by decide)) (h11.mono (by decide)) (m66.mono (by decide)) (m69.mono (by decide)) (m70.mono (by decide)) (m71.mono (by decide)) (m72.mono (by decide)) (m73.mono (by decide)) (m74.mono (by decide)) (m75.mono (by decide)) (m76.mono (by decide)) (m77.mono (by decide)) (m79.mono (by decide)) (m80.mono (by decide)) u81 u83 u85 u87 u89 u91 u93 u95 u97 u99 u101 u103) rfl ?_
    simp only [fa_agg, fa_one, fa_nil, List.cons_append, List.nil_append, List.append_nil]
    refine call_step (n_penumbraref07_Identity_0 Y0 Y1) rfl ?_
    simp only [fa_agg, fa_one, fa_nil, List.cons_append, List.nil_append, List.append_nil]
    have m105 : Num 1 (cr Z0) Z0 := Num.c Y0 (by decide +kernel) (by decide +kernel)
    refine call_step (n_penumbraref07_Is_0 (m68.mono (by decide)) (m105.mono (by decide)) (m105.mono (by decide)) (m105.mono (by decide)) (m68.mono (by decide)) (m105.mono (by decide)) (m105.mono (by decide)) (m105.mono (by decide)) (m68.mono (by decide)) (m105.mono (by decide)) (m105.mono (by decide)) (m105.mono (by decide)) (m68.mono (by decide)) (m105.mono (by decide)) (m105.mono (by decide)) (m105.mono (by decide)) (m68.mono (by decide)) (m105.mono (by decide)) (m105.mono (by decide)) (m105.mono (by decide)) (m68.mono (by decide)) (m105.mono (by decide)) (m105.mono (by decide)) (m105.mono (by decide)) rfl rfl rfl rfl rfl rfl rfl rfl rfl rfl rfl rfl) rfl ?_
    simp only [fa_agg, fa_one, fa_nil, List.cons_append, List.nil_append, List.append_nil]
    refine itT rfl ?_
    have u106 : Z1 = (((x0 * q54) + (x1 * q57)) + (x2 * q60)) := (AffineBack_al107 Y0 Y1 e44 d53 e54 e57 e60 c52)
    have u108 : Z0 = (((x0 * q55) + (x1 * q58)) + (x2 * q61)) := (AffineBack_al109 Y0 Y1 e44 d53 e55 e58 e61 c52)
    have u110 : Z0 = (((x0 * q56) + (x1 * q59)) + (x2 * q62)) := (AffineBack_al111 Y0 Y1 e44 d53 e56 e59 e62 c52)
    have u112 : Z0 = (((x3 * q54) + (x4 * q57)) + (x5 * q60)) := (AffineBack_al113 Y0 Y1 e44 d53 e54 e57 e60 c52)
    have u114 : Z1 = (((x3 * q55) + (x4 * q58)) + (x5 * q61)) := (AffineBack_al115 Y0 Y1 e44 d53 e55 e58 e61 c52)
    have u116 : Z0 = (((x3 * q56) + (x4 * q59)) + (x5 * q62)) := (AffineBack_al117 Y0 Y1 e44 d53 e56 e59 e62 c52)
    have u118 : Z0 = (((x6 * q54) + (x7 * q57)) + (x8 * q60)) := (AffineBack_al119 Y0 Y1 e44 d53 e54 e57 e60 c52)
    have u120 : Z0 = (((x6 * q55) + (x7 * q58)) + (x8 * q61)) := (AffineBack_al121 Y0 Y1 e44 d53 e55 e58 e61 c52)
    have u122 : Z1 = (((x6 * q56) + (x7 * q59)) + (x8 * q62)) := (AffineBack_al123 Y0 Y1 e44 d53 e56 e59 e62 c52)
    have u124 : Z0 = ((((x0 * q63) + (x1 * q64)) + (x2 * q65)) + x9) := (AffineBack_al125 Ym1 Y0 Y1 e44 d53 e54 e55 e56 e63 e57 e58 e59 e64 e60 e61 e62 e65 c52)
    have u126 : Z0 = ((((x3 * q63) + (x4 * q64)) + (x5 * q65)) + x10) := (AffineBack_al127 Ym1 Y0 Y1 e44 d53 e54 e55 e56 e63 e57 e58 e59 e64 e60 e61 e62 e65 c52)
    have u128 : Z0 = ((((x6 * q63) + (x7 * q64)) + (x8 * q65)) + x11) := (AffineBack_al129 Ym1 Y0 Y1 e44 d53 e54 e55 e56 e63 e57 e58 e59 e64 e60 e61 e62 e65 c52)
    refine call_step (n_affine_Then_0 (k0 := Z1) (k1 := Z0) (k2 := Z0) (k3 := Z0) (k4 := Z1) (k5 := Z0) (k6 := Z0) (k7 := Z0) (k8 := Z1) (k9 := Z0) (k10 := Z0) (k11 := Z0) (m66.mono (by decide)) (m69.mono (by decide)) (m70.mono (by decide)) (m71.mono (by decide)) (m72.mono (by decide)) (m73.mono (by decide)) (m74.mono (by decide)) (m75.mono (by decide)) (m76.mono (by decide)) (m77.mono (by decide)) (m79.mono (by decide)) (m80.mono (by decide)) (h0.mono (by decide)) (h1.mono (by decide)) (h2.mono (by decide)) (h3.mono (by decide)) (h4.mono (by decide)) (h5.mono (by decide)) (h6.mono (by decide)) (h7.mono (by decide)) (h8.mono (by decide)) (h9.mono (by decide)) (h10.mono (by decide)) (h11.mono (by decide)) u106 u108 u110 u112 u114 u116 u118 u120 u122 u124 u126 u128) rfl ?_
    simp only [fa_agg, fa_one, fa_nil, List.cons_append, List.nil_append, List.append_nil]
    refine call_step (n_penumbraref07_Identity_0 Y0 Y1) rfl ?_
    simp only [fa_agg, fa_one, fa_nil, List.cons_append, List.nil_append, List.append_nil]
    refine call_step (n_penumbraref07_Is_0 (m68.mono (by decide)) (m105.mono (by decide)) (m105.mono (by decide)) (m105.mono (by decide)) (m68.mono (by decide)) (m105.mono (by decide)) (m105.mono (by decide)) (m105.mono (by decide)) (m68.mono (by decide)) (m105.mono (by decide)) (m105.mono (by decide)) (m105.mono (by decide)) (m68.mono (by decide)) (m105.mono (by decide)) (m105.mono (by decide)) (m105.mono (by decide)) (m68.mono (by decide)) (m105.mono (by decide)) (m105.mono (by decide)) (m105.mono (by decide)) (m68.mono (by decide)) (m105.mono (by decide)) (m105.mono (by decide)) (m105.mono (by decide)) rfl rfl rfl rfl rfl rfl rfl rfl rfl rfl rfl rfl) rfl ?_
    simp only [fa_agg, fa_one, fa_nil, List.cons_append, List.nil_append, List.append_nil]
    refine itT rfl ?_
    refine call_step (n_affine_Apply_0 (k0 := q28) (k1 := q29) (k2 := q30) (h0.mono (by decide)) (h1.mono (by decide)) (h2.mono (by decide)) (h3.mono (by decide)) (h4.mono (by decide)) (h5.mono (by decide)) (h6.mono (by decide)) (h7.mono (by decide)) (h8.mono (by decide)) (h9.mono (by decide)) (h10.mono (by decide)) (h11.mono (by decide)) (h24.mono (by decide)) (h25.mono (by decide)) (h26.mono (by decide)) e28 e29 e30) rfl ?_
    simp only [fa_agg, fa_one, fa_nil, List.cons_append, List.nil_append, List.append_nil]
    have u130 : x24 = ((((q54 * q28) + (q55 * q29)) + (q56 * q30)) + q63) := (AffineBack_al131 Ym1 Y0 Y1 e44 d53 e54 e28 e55 e29 e56 e30 e63 c52)
    have u132 : x25 = ((((q57 * q28) + (q58 * q29)) + (q59 * q30)) + q64) := (AffineBack_al133 Ym1 Y0 Y1 e44 d53 e57 e28 e58 e29 e59 e30 e64 c52)
    have u134 : x26 = ((((q60 * q28) + (q61 * q29)) + (q62 * q30)) + q65) := (AffineBack_al135 Ym1 Y0 Y1 e44 d53 e60 e28 e61 e29 e62 e30 e65 c52)
    refine call_step (n_affine_Apply_0 (k0 := x24) (k1 := x25) (k2 := x26) (m66.mono (by decide)) (m69.mono (by decide)) (m70.mono (by decide)) (m71.mono (by decide)) (m72.mono (by decide)) (m73.mono (by decide)) (m74.mono (by decide)) (m75.mono (by decide)) (m76.mono (by decide)) (m77.mono (by decide)) (m79.mono (by decide)) (m80.mono (by decide)) (m31.mono (by decide)) (m32.mono (by decide)) (m33.mono (by decide)) u130 u132 u134) rfl ?_
    simp only [fa_agg, fa_one, fa_nil, List.cons_append, List.nil_append, List.append_nil]
    refine call_step (n_vec_Read_0 (h24.mono (by decide)) (h25.mono (by decide)) (h26.mono (by decide))) rfl ?_
    simp only [fa_agg, fa_one, fa_nil, List.cons_append, List.nil_append, List.append_nil]
    have m136 : Num 1048576 (cr x24) x24 := Num.of h24.sm
    have m137 : Num 1048576 (cr x25) x25 := Num.of h25.sm
    have m138 : Num 1048576 (cr x26) x26 := Num.of h26.sm
    refine call_step (n_penumbraref05_Is_0 (m136.mono (by decide)) (m137.mono (by decide)) (m138.mono (by decide)) (m136.mono (by decide)) (m137.mono (by decide)) (m138.mono (by decide)) rfl rfl rfl) rfl ?_
    simp only [fa_agg, fa_one, fa_nil, List.cons_append, List.nil_append, List.append_nil]
    exact ret_step rfl

end Go.Px.Na

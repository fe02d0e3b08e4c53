/- QAffineTurns: whatever the numbers, the law tells true. -/
import Derived.Test.YtbpadnlpkdmkmaaXAffineTurns
set_option maxRecDepth 20000
set_option maxHeartbeats 40000000
set_option linter.unusedVariables false
set_option linter.unusedSimpArgs false
namespace Go.Px.Na
open Go.RowKit
open Go.Proofs.Try (prog)

theorem AffineTurns_al9 {Z0 Z1 : Rat} (Y0 : Z0 = (0 : Rat)) (Y1 : Z1 = (1 : Rat)) {q6 x18 x15 x16 : Rat} (e6 : q6 = (Z0 + (((x18 - Z1) * x15) * x16))) : q6 = (Z0 + (((x18 - Z1) * x16) * x15)) := by
  subst Y0 Y1 e6
  grind

theorem AffineTurns_al13 {Z0 Z1 : Rat} (Y0 : Z0 = (0 : Rat)) (Y1 : Z1 = (1 : Rat)) {q7 x18 x15 x17 : Rat} (e7 : q7 = (Z0 + (((x18 - Z1) * x15) * x17))) : q7 = (Z0 + (((x18 - Z1) * x17) * x15)) := by
  subst Y0 Y1 e7
  grind

theorem AffineTurns_al15 {Z0 Z1 : Rat} (Y0 : Z0 = (0 : Rat)) (Y1 : Z1 = (1 : Rat)) {q11 x18 x16 x17 : Rat} (e11 : q11 = (Z0 + (((x18 - Z1) * x16) * x17))) : q11 = (Z0 + (((x18 - Z1) * x17) * x16)) := by
  subst Y0 Y1 e11
  grind

theorem AffineTurns_al21 {Z0 Z1 : Rat} (Y0 : Z0 = (0 : Rat)) (Y1 : Z1 = (1 : Rat)) {q17 x18 x12 x15 x13 x16 x14 x17 : Rat} (e17 : q17 = ((-((x18 - Z1) * (((x12 * x15) + (x13 * x16)) + (x14 * x17)))) * x15)) : q17 = (Z0 + (((x18 - Z1) * ((((Z0 - x12) * x15) + ((Z0 - x13) * x16)) + ((Z0 - x14) * x17))) * x15)) := by
  subst Y0 Y1 e17
  grind

theorem AffineTurns_al23 {Z0 Z1 : Rat} (Y0 : Z0 = (0 : Rat)) (Y1 : Z1 = (1 : Rat)) {q5 x18 x15 x12 x13 x16 x14 x17 q17 : Rat} (e5 : q5 = (Z1 + (((x18 - Z1) * x15) * x15))) (e17 : q17 = ((-((x18 - Z1) * (((x12 * x15) + (x13 * x16)) + (x14 * x17)))) * x15)) : q5 = ((Z1 + (((x18 - Z1) * ((((Z1 - x12) * x15) + ((Z0 - x13) * x16)) + ((Z0 - x14) * x17))) * x15)) - q17) := by
  subst Y0 Y1 e5 e17
  grind

theorem AffineTurns_al25 {Z0 Z1 : Rat} (Y0 : Z0 = (0 : Rat)) (Y1 : Z1 = (1 : Rat)) {q6 x18 x15 x16 x12 x13 x14 x17 q17 : Rat} (e6 : q6 = (Z0 + (((x18 - Z1) * x15) * x16))) (e17 : q17 = ((-((x18 - Z1) * (((x12 * x15) + (x13 * x16)) + (x14 * x17)))) * x15)) : q6 = ((Z0 + (((x18 - Z1) * ((((Z0 - x12) * x15) + ((Z1 - x13) * x16)) + ((Z0 - x14) * x17))) * x15)) - q17) := by
  subst Y0 Y1 e6 e17
  grind

theorem AffineTurns_al27 {Z0 Z1 : Rat} (Y0 : Z0 = (0 : Rat)) (Y1 : Z1 = (1 : Rat)) {q7 x18 x15 x17 x12 x13 x16 x14 q17 : Rat} (e7 : q7 = (Z0 + (((x18 - Z1) * x15) * x17))) (e17 : q17 = ((-((x18 - Z1) * (((x12 * x15) + (x13 * x16)) + (x14 * x17)))) * x15)) : q7 = ((Z0 + (((x18 - Z1) * ((((Z0 - x12) * x15) + ((Z0 - x13) * x16)) + ((Z1 - x14) * x17))) * x15)) - q17) := by
  subst Y0 Y1 e7 e17
  grind

theorem AffineTurns_al29 {Z0 Z1 : Rat} (Y0 : Z0 = (0 : Rat)) (Y1 : Z1 = (1 : Rat)) {q18 x18 x12 x15 x13 x16 x14 x17 : Rat} (e18 : q18 = ((-((x18 - Z1) * (((x12 * x15) + (x13 * x16)) + (x14 * x17)))) * x16)) : q18 = (Z0 + (((x18 - Z1) * ((((Z0 - x12) * x15) + ((Z0 - x13) * x16)) + ((Z0 - x14) * x17))) * x16)) := by
  subst Y0 Y1 e18
  grind

theorem AffineTurns_al31 {Z0 Z1 : Rat} (Y0 : Z0 = (0 : Rat)) (Y1 : Z1 = (1 : Rat)) {q6 x18 x15 x16 x12 x13 x14 x17 q18 : Rat} (e6 : q6 = (Z0 + (((x18 - Z1) * x15) * x16))) (e18 : q18 = ((-((x18 - Z1) * (((x12 * x15) + (x13 * x16)) + (x14 * x17)))) * x16)) : q6 = ((Z0 + (((x18 - Z1) * ((((Z1 - x12) * x15) + ((Z0 - x13) * x16)) + ((Z0 - x14) * x17))) * x16)) - q18) := by
  subst Y0 Y1 e6 e18
  grind

theorem AffineTurns_al33 {Z0 Z1 : Rat} (Y0 : Z0 = (0 : Rat)) (Y1 : Z1 = (1 : Rat)) {q10 x18 x16 x12 x15 x13 x14 x17 q18 : Rat} (e10 : q10 = (Z1 + (((x18 - Z1) * x16) * x16))) (e18 : q18 = ((-((x18 - Z1) * (((x12 * x15) + (x13 * x16)) + (x14 * x17)))) * x16)) : q10 = ((Z1 + (((x18 - Z1) * ((((Z0 - x12) * x15) + ((Z1 - x13) * x16)) + ((Z0 - x14) * x17))) * x16)) - q18) := by
  subst Y0 Y1 e10 e18
  grind

theorem AffineTurns_al35 {Z0 Z1 : Rat} (Y0 : Z0 = (0 : Rat)) (Y1 : Z1 = (1 : Rat)) {q11 x18 x16 x17 x12 x15 x13 x14 q18 : Rat} (e11 : q11 = (Z0 + (((x18 - Z1) * x16) * x17))) (e18 : q18 = ((-((x18 - Z1) * (((x12 * x15) + (x13 * x16)) + (x14 * x17)))) * x16)) : q11 = ((Z0 + (((x18 - Z1) * ((((Z0 - x12) * x15) + ((Z0 - x13) * x16)) + ((Z1 - x14) * x17))) * x16)) - q18) := by
  subst Y0 Y1 e11 e18
  grind

theorem AffineTurns_al37 {Z0 Z1 : Rat} (Y0 : Z0 = (0 : Rat)) (Y1 : Z1 = (1 : Rat)) {q19 x18 x12 x15 x13 x16 x14 x17 : Rat} (e19 : q19 = ((-((x18 - Z1) * (((x12 * x15) + (x13 * x16)) + (x14 * x17)))) * x17)) : q19 = (Z0 + (((x18 - Z1) * ((((Z0 - x12) * x15) + ((Z0 - x13) * x16)) + ((Z0 - x14) * x17))) * x17)) := by
  subst Y0 Y1 e19
  grind

theorem AffineTurns_al39 {Z0 Z1 : Rat} (Y0 : Z0 = (0 : Rat)) (Y1 : Z1 = (1 : Rat)) {q7 x18 x15 x17 x12 x13 x16 x14 q19 : Rat} (e7 : q7 = (Z0 + (((x18 - Z1) * x15) * x17))) (e19 : q19 = ((-((x18 - Z1) * (((x12 * x15) + (x13 * x16)) + (x14 * x17)))) * x17)) : q7 = ((Z0 + (((x18 - Z1) * ((((Z1 - x12) * x15) + ((Z0 - x13) * x16)) + ((Z0 - x14) * x17))) * x17)) - q19) := by
  subst Y0 Y1 e7 e19
  grind

theorem AffineTurns_al41 {Z0 Z1 : Rat} (Y0 : Z0 = (0 : Rat)) (Y1 : Z1 = (1 : Rat)) {q11 x18 x16 x17 x12 x15 x13 x14 q19 : Rat} (e11 : q11 = (Z0 + (((x18 - Z1) * x16) * x17))) (e19 : q19 = ((-((x18 - Z1) * (((x12 * x15) + (x13 * x16)) + (x14 * x17)))) * x17)) : q11 = ((Z0 + (((x18 - Z1) * ((((Z0 - x12) * x15) + ((Z1 - x13) * x16)) + ((Z0 - x14) * x17))) * x17)) - q19) := by
  subst Y0 Y1 e11 e19
  grind

theorem AffineTurns_al43 {Z0 Z1 : Rat} (Y0 : Z0 = (0 : Rat)) (Y1 : Z1 = (1 : Rat)) {q16 x18 x17 x12 x15 x13 x16 x14 q19 : Rat} (e16 : q16 = (Z1 + (((x18 - Z1) * x17) * x17))) (e19 : q19 = ((-((x18 - Z1) * (((x12 * x15) + (x13 * x16)) + (x14 * x17)))) * x17)) : q16 = ((Z1 + (((x18 - Z1) * ((((Z0 - x12) * x15) + ((Z0 - x13) * x16)) + ((Z1 - x14) * x17))) * x17)) - q19) := by
  subst Y0 Y1 e16 e19
  grind

theorem AffineTurns_al67 {Zm1 Z0 Z1 : Rat} (Ym1 : Zm1 = (-1 : Rat)) (Y0 : Z0 = (0 : Rat)) (Y1 : Z1 = (1 : Rat)) {q63 q54 q53 q1 x0 x4 x8 x5 x7 x1 x6 x3 x2 x9 q55 x10 q56 x11 : Rat} (e1 : q1 = (((x0 * ((x4 * x8) - (x5 * x7))) + (x1 * ((x5 * x6) - (x3 * x8)))) + (x2 * ((x3 * x7) - (x4 * x6))))) (d53 : q53 * q1 = Z1) (e54 : q54 = (q53 * ((x4 * x8) - (x5 * x7)))) (e55 : q55 = (q53 * ((x7 * x2) - (x8 * x1)))) (e56 : q56 = (q53 * ((x1 * x5) - (x2 * x4)))) (e63 : q63 = (Zm1 * (((q54 * x9) + (q55 * x10)) + (q56 * x11)))) (c2 : ¬q1 = Z0) : q63 = (q53 * ((((Z0 - x9) * ((x4 * x8) - (x7 * x5))) + ((Z0 - x10) * ((x7 * x2) - (x1 * x8)))) + ((Z0 - x11) * ((x1 * x5) - (x4 * x2))))) := by
  subst Ym1 Y0 Y1 e1 e54 e55 e56 e63
  grind

theorem AffineTurns_al69 {Zm1 Z0 Z1 : Rat} (Ym1 : Zm1 = (-1 : Rat)) (Y0 : Z0 = (0 : Rat)) (Y1 : Z1 = (1 : Rat)) {q54 q53 q1 x0 x4 x8 x5 x7 x1 x6 x3 x2 q63 x9 q55 x10 q56 x11 : Rat} (e1 : q1 = (((x0 * ((x4 * x8) - (x5 * x7))) + (x1 * ((x5 * x6) - (x3 * x8)))) + (x2 * ((x3 * x7) - (x4 * x6))))) (d53 : q53 * q1 = Z1) (e54 : q54 = (q53 * ((x4 * x8) - (x5 * x7)))) (e55 : q55 = (q53 * ((x7 * x2) - (x8 * x1)))) (e56 : q56 = (q53 * ((x1 * x5) - (x2 * x4)))) (e63 : q63 = (Zm1 * (((q54 * x9) + (q55 * x10)) + (q56 * x11)))) (c2 : ¬q1 = Z0) : q54 = ((q63 + (q53 * (((Z1 * ((x4 * x8) - (x7 * x5))) + (Z0 * ((x7 * x2) - (x1 * x8)))) + (Z0 * ((x1 * x5) - (x4 * x2)))))) - q63) := by
  subst Ym1 Y0 Y1 e1 e54 e55 e56 e63
  grind

theorem AffineTurns_al71 {Zm1 Z0 Z1 : Rat} (Ym1 : Zm1 = (-1 : Rat)) (Y0 : Z0 = (0 : Rat)) (Y1 : Z1 = (1 : Rat)) {q55 q53 q1 x0 x4 x8 x5 x7 x1 x6 x3 x2 q63 q54 x9 x10 q56 x11 : Rat} (e1 : q1 = (((x0 * ((x4 * x8) - (x5 * x7))) + (x1 * ((x5 * x6) - (x3 * x8)))) + (x2 * ((x3 * x7) - (x4 * x6))))) (d53 : q53 * q1 = Z1) (e55 : q55 = (q53 * ((x7 * x2) - (x8 * x1)))) (e54 : q54 = (q53 * ((x4 * x8) - (x5 * x7)))) (e56 : q56 = (q53 * ((x1 * x5) - (x2 * x4)))) (e63 : q63 = (Zm1 * (((q54 * x9) + (q55 * x10)) + (q56 * x11)))) (c2 : ¬q1 = Z0) : q55 = ((q63 + (q53 * (((Z0 * ((x4 * x8) - (x7 * x5))) + (Z1 * ((x7 * x2) - (x1 * x8)))) + (Z0 * ((x1 * x5) - (x4 * x2)))))) - q63) := by
  subst Ym1 Y0 Y1 e1 e55 e54 e56 e63
  grind

theorem AffineTurns_al73 {Zm1 Z0 Z1 : Rat} (Ym1 : Zm1 = (-1 : Rat)) (Y0 : Z0 = (0 : Rat)) (Y1 : Z1 = (1 : Rat)) {q56 q53 q1 x0 x4 x8 x5 x7 x1 x6 x3 x2 q63 q54 x9 q55 x10 x11 : Rat} (e1 : q1 = (((x0 * ((x4 * x8) - (x5 * x7))) + (x1 * ((x5 * x6) - (x3 * x8)))) + (x2 * ((x3 * x7) - (x4 * x6))))) (d53 : q53 * q1 = Z1) (e56 : q56 = (q53 * ((x1 * x5) - (x2 * x4)))) (e54 : q54 = (q53 * ((x4 * x8) - (x5 * x7)))) (e55 : q55 = (q53 * ((x7 * x2) - (x8 * x1)))) (e63 : q63 = (Zm1 * (((q54 * x9) + (q55 * x10)) + (q56 * x11)))) (c2 : ¬q1 = Z0) : q56 = ((q63 + (q53 * (((Z0 * ((x4 * x8) - (x7 * x5))) + (Z0 * ((x7 * x2) - (x1 * x8)))) + (Z1 * ((x1 * x5) - (x4 * x2)))))) - q63) := by
  subst Ym1 Y0 Y1 e1 e56 e54 e55 e63
  grind

theorem AffineTurns_al75 {Zm1 Z0 Z1 : Rat} (Ym1 : Zm1 = (-1 : Rat)) (Y0 : Z0 = (0 : Rat)) (Y1 : Z1 = (1 : Rat)) {q64 q57 q53 q1 x0 x4 x8 x5 x7 x1 x6 x3 x2 x9 q58 x10 q59 x11 : Rat} (e1 : q1 = (((x0 * ((x4 * x8) - (x5 * x7))) + (x1 * ((x5 * x6) - (x3 * x8)))) + (x2 * ((x3 * x7) - (x4 * x6))))) (d53 : q53 * q1 = Z1) (e57 : q57 = (q53 * ((x5 * x6) - (x3 * x8)))) (e58 : q58 = (q53 * ((x8 * x0) - (x6 * x2)))) (e59 : q59 = (q53 * ((x2 * x3) - (x0 * x5)))) (e64 : q64 = (Zm1 * (((q57 * x9) + (q58 * x10)) + (q59 * x11)))) (c2 : ¬q1 = Z0) : q64 = (q53 * (((x0 * (((Z0 - x10) * x8) - ((Z0 - x11) * x5))) + (x3 * (((Z0 - x11) * x2) - ((Z0 - x9) * x8)))) + (x6 * (((Z0 - x9) * x5) - ((Z0 - x10) * x2))))) := by
  subst Ym1 Y0 Y1 e1 e57 e58 e59 e64
  grind

theorem AffineTurns_al77 {Zm1 Z0 Z1 : Rat} (Ym1 : Zm1 = (-1 : Rat)) (Y0 : Z0 = (0 : Rat)) (Y1 : Z1 = (1 : Rat)) {q57 q53 q1 x0 x4 x8 x5 x7 x1 x6 x3 x2 q64 x9 q58 x10 q59 x11 : Rat} (e1 : q1 = (((x0 * ((x4 * x8) - (x5 * x7))) + (x1 * ((x5 * x6) - (x3 * x8)))) + (x2 * ((x3 * x7) - (x4 * x6))))) (d53 : q53 * q1 = Z1) (e57 : q57 = (q53 * ((x5 * x6) - (x3 * x8)))) (e58 : q58 = (q53 * ((x8 * x0) - (x6 * x2)))) (e59 : q59 = (q53 * ((x2 * x3) - (x0 * x5)))) (e64 : q64 = (Zm1 * (((q57 * x9) + (q58 * x10)) + (q59 * x11)))) (c2 : ¬q1 = Z0) : q57 = ((q64 + (q53 * (((x0 * ((Z0 * x8) - (Z0 * x5))) + (x3 * ((Z0 * x2) - (Z1 * x8)))) + (x6 * ((Z1 * x5) - (Z0 * x2)))))) - q64) := by
  subst Ym1 Y0 Y1 e1 e57 e58 e59 e64
  grind

theorem AffineTurns_al79 {Zm1 Z0 Z1 : Rat} (Ym1 : Zm1 = (-1 : Rat)) (Y0 : Z0 = (0 : Rat)) (Y1 : Z1 = (1 : Rat)) {q58 q53 q1 x0 x4 x8 x5 x7 x1 x6 x3 x2 q64 q57 x9 x10 q59 x11 : Rat} (e1 : q1 = (((x0 * ((x4 * x8) - (x5 * x7))) + (x1 * ((x5 * x6) - (x3 * x8)))) + (x2 * ((x3 * x7) - (x4 * x6))))) (d53 : q53 * q1 = Z1) (e58 : q58 = (q53 * ((x8 * x0) - (x6 * x2)))) (e57 : q57 = (q53 * ((x5 * x6) - (x3 * x8)))) (e59 : q59 = (q53 * ((x2 * x3) - (x0 * x5)))) (e64 : q64 = (Zm1 * (((q57 * x9) + (q58 * x10)) + (q59 * x11)))) (c2 : ¬q1 = Z0) : q58 = ((q64 + (q53 * (((x0 * ((Z1 * x8) - (Z0 * x5))) + (x3 * ((Z0 * x2) - (Z0 * x8)))) + (x6 * ((Z0 * x5) - (Z1 * x2)))))) - q64) := by
  subst Ym1 Y0 Y1 e1 e58 e57 e59 e64
  grind

theorem AffineTurns_al81 {Zm1 Z0 Z1 : Rat} (Ym1 : Zm1 = (-1 : Rat)) (Y0 : Z0 = (0 : Rat)) (Y1 : Z1 = (1 : Rat)) {q59 q53 q1 x0 x4 x8 x5 x7 x1 x6 x3 x2 q64 q57 x9 q58 x10 x11 : Rat} (e1 : q1 = (((x0 * ((x4 * x8) - (x5 * x7))) + (x1 * ((x5 * x6) - (x3 * x8)))) + (x2 * ((x3 * x7) - (x4 * x6))))) (d53 : q53 * q1 = Z1) (e59 : q59 = (q53 * ((x2 * x3) - (x0 * x5)))) (e57 : q57 = (q53 * ((x5 * x6) - (x3 * x8)))) (e58 : q58 = (q53 * ((x8 * x0) - (x6 * x2)))) (e64 : q64 = (Zm1 * (((q57 * x9) + (q58 * x10)) + (q59 * x11)))) (c2 : ¬q1 = Z0) : q59 = ((q64 + (q53 * (((x0 * ((Z0 * x8) - (Z1 * x5))) + (x3 * ((Z1 * x2) - (Z0 * x8)))) + (x6 * ((Z0 * x5) - (Z0 * x2)))))) - q64) := by
  subst Ym1 Y0 Y1 e1 e59 e57 e58 e64
  grind

theorem AffineTurns_al83 {Zm1 Z0 Z1 : Rat} (Ym1 : Zm1 = (-1 : Rat)) (Y0 : Z0 = (0 : Rat)) (Y1 : Z1 = (1 : Rat)) {q65 q60 q53 q1 x0 x4 x8 x5 x7 x1 x6 x3 x2 x9 q61 x10 q62 x11 : Rat} (e1 : q1 = (((x0 * ((x4 * x8) - (x5 * x7))) + (x1 * ((x5 * x6) - (x3 * x8)))) + (x2 * ((x3 * x7) - (x4 * x6))))) (d53 : q53 * q1 = Z1) (e60 : q60 = (q53 * ((x3 * x7) - (x4 * x6)))) (e61 : q61 = (q53 * ((x6 * x1) - (x7 * x0)))) (e62 : q62 = (q53 * ((x0 * x4) - (x1 * x3)))) (e65 : q65 = (Zm1 * (((q60 * x9) + (q61 * x10)) + (q62 * x11)))) (c2 : ¬q1 = Z0) : q65 = (q53 * (((x0 * ((x4 * (Z0 - x11)) - (x7 * (Z0 - x10)))) + (x3 * ((x7 * (Z0 - x9)) - (x1 * (Z0 - x11))))) + (x6 * ((x1 * (Z0 - x10)) - (x4 * (Z0 - x9)))))) := by
  subst Ym1 Y0 Y1 e1 e60 e61 e62 e65
  grind

theorem AffineTurns_al85 {Zm1 Z0 Z1 : Rat} (Ym1 : Zm1 = (-1 : Rat)) (Y0 : Z0 = (0 : Rat)) (Y1 : Z1 = (1 : Rat)) {q60 q53 q1 x0 x4 x8 x5 x7 x1 x6 x3 x2 q65 x9 q61 x10 q62 x11 : Rat} (e1 : q1 = (((x0 * ((x4 * x8) - (x5 * x7))) + (x1 * ((x5 * x6) - (x3 * x8)))) + (x2 * ((x3 * x7) - (x4 * x6))))) (d53 : q53 * q1 = Z1) (e60 : q60 = (q53 * ((x3 * x7) - (x4 * x6)))) (e61 : q61 = (q53 * ((x6 * x1) - (x7 * x0)))) (e62 : q62 = (q53 * ((x0 * x4) - (x1 * x3)))) (e65 : q65 = (Zm1 * (((q60 * x9) + (q61 * x10)) + (q62 * x11)))) (c2 : ¬q1 = Z0) : q60 = ((q65 + (q53 * (((x0 * ((x4 * Z0) - (x7 * Z0))) + (x3 * ((x7 * Z1) - (x1 * Z0)))) + (x6 * ((x1 * Z0) - (x4 * Z1)))))) - q65) := by
  subst Ym1 Y0 Y1 e1 e60 e61 e62 e65
  grind

theorem AffineTurns_al87 {Zm1 Z0 Z1 : Rat} (Ym1 : Zm1 = (-1 : Rat)) (Y0 : Z0 = (0 : Rat)) (Y1 : Z1 = (1 : Rat)) {q61 q53 q1 x0 x4 x8 x5 x7 x1 x6 x3 x2 q65 q60 x9 x10 q62 x11 : Rat} (e1 : q1 = (((x0 * ((x4 * x8) - (x5 * x7))) + (x1 * ((x5 * x6) - (x3 * x8)))) + (x2 * ((x3 * x7) - (x4 * x6))))) (d53 : q53 * q1 = Z1) (e61 : q61 = (q53 * ((x6 * x1) - (x7 * x0)))) (e60 : q60 = (q53 * ((x3 * x7) - (x4 * x6)))) (e62 : q62 = (q53 * ((x0 * x4) - (x1 * x3)))) (e65 : q65 = (Zm1 * (((q60 * x9) + (q61 * x10)) + (q62 * x11)))) (c2 : ¬q1 = Z0) : q61 = ((q65 + (q53 * (((x0 * ((x4 * Z0) - (x7 * Z1))) + (x3 * ((x7 * Z0) - (x1 * Z0)))) + (x6 * ((x1 * Z1) - (x4 * Z0)))))) - q65) := by
  subst Ym1 Y0 Y1 e1 e61 e60 e62 e65
  grind

theorem AffineTurns_al89 {Zm1 Z0 Z1 : Rat} (Ym1 : Zm1 = (-1 : Rat)) (Y0 : Z0 = (0 : Rat)) (Y1 : Z1 = (1 : Rat)) {q62 q53 q1 x0 x4 x8 x5 x7 x1 x6 x3 x2 q65 q60 x9 q61 x10 x11 : Rat} (e1 : q1 = (((x0 * ((x4 * x8) - (x5 * x7))) + (x1 * ((x5 * x6) - (x3 * x8)))) + (x2 * ((x3 * x7) - (x4 * x6))))) (d53 : q53 * q1 = Z1) (e62 : q62 = (q53 * ((x0 * x4) - (x1 * x3)))) (e60 : q60 = (q53 * ((x3 * x7) - (x4 * x6)))) (e61 : q61 = (q53 * ((x6 * x1) - (x7 * x0)))) (e65 : q65 = (Zm1 * (((q60 * x9) + (q61 * x10)) + (q62 * x11)))) (c2 : ¬q1 = Z0) : q62 = ((q65 + (q53 * (((x0 * ((x4 * Z1) - (x7 * Z0))) + (x3 * ((x7 * Z0) - (x1 * Z1)))) + (x6 * ((x1 * Z0) - (x4 * Z0)))))) - q65) := by
  subst Ym1 Y0 Y1 e1 e62 e60 e61 e65
  grind

theorem AffineTurns_al110 {Z0 Z1 : Rat} (Y0 : Z0 = (0 : Rat)) (Y1 : Z1 = (1 : Rat)) {q107 x18 x15 x16 : Rat} (e107 : q107 = (Z0 + (((x18 - Z1) * x15) * x16))) : q107 = (Z0 + (((x18 - Z1) * x16) * x15)) := by
  subst Y0 Y1 e107
  grind

theorem AffineTurns_al114 {Z0 Z1 : Rat} (Y0 : Z0 = (0 : Rat)) (Y1 : Z1 = (1 : Rat)) {q108 x18 x15 x17 : Rat} (e108 : q108 = (Z0 + (((x18 - Z1) * x15) * x17))) : q108 = (Z0 + (((x18 - Z1) * x17) * x15)) := by
  subst Y0 Y1 e108
  grind

theorem AffineTurns_al116 {Z0 Z1 : Rat} (Y0 : Z0 = (0 : Rat)) (Y1 : Z1 = (1 : Rat)) {q112 x18 x16 x17 : Rat} (e112 : q112 = (Z0 + (((x18 - Z1) * x16) * x17))) : q112 = (Z0 + (((x18 - Z1) * x17) * x16)) := by
  subst Y0 Y1 e112
  grind

theorem AffineTurns_al122 {Z0 Z1 : Rat} (Y0 : Z0 = (0 : Rat)) (Y1 : Z1 = (1 : Rat)) {q118 x18 x12 x15 x13 x16 x14 x17 : Rat} (e118 : q118 = ((-((x18 - Z1) * (((x12 * x15) + (x13 * x16)) + (x14 * x17)))) * x15)) : q118 = (Z0 + (((x18 - Z1) * ((((Z0 - x12) * x15) + ((Z0 - x13) * x16)) + ((Z0 - x14) * x17))) * x15)) := by
  subst Y0 Y1 e118
  grind

theorem AffineTurns_al124 {Z0 Z1 : Rat} (Y0 : Z0 = (0 : Rat)) (Y1 : Z1 = (1 : Rat)) {q106 x18 x15 x12 x13 x16 x14 x17 q118 : Rat} (e106 : q106 = (Z1 + (((x18 - Z1) * x15) * x15))) (e118 : q118 = ((-((x18 - Z1) * (((x12 * x15) + (x13 * x16)) + (x14 * x17)))) * x15)) : q106 = ((Z1 + (((x18 - Z1) * ((((Z1 - x12) * x15) + ((Z0 - x13) * x16)) + ((Z0 - x14) * x17))) * x15)) - q118) := by
  subst Y0 Y1 e106 e118
  grind

theorem AffineTurns_al126 {Z0 Z1 : Rat} (Y0 : Z0 = (0 : Rat)) (Y1 : Z1 = (1 : Rat)) {q107 x18 x15 x16 x12 x13 x14 x17 q118 : Rat} (e107 : q107 = (Z0 + (((x18 - Z1) * x15) * x16))) (e118 : q118 = ((-((x18 - Z1) * (((x12 * x15) + (x13 * x16)) + (x14 * x17)))) * x15)) : q107 = ((Z0 + (((x18 - Z1) * ((((Z0 - x12) * x15) + ((Z1 - x13) * x16)) + ((Z0 - x14) * x17))) * x15)) - q118) := by
  subst Y0 Y1 e107 e118
  grind

theorem AffineTurns_al128 {Z0 Z1 : Rat} (Y0 : Z0 = (0 : Rat)) (Y1 : Z1 = (1 : Rat)) {q108 x18 x15 x17 x12 x13 x16 x14 q118 : Rat} (e108 : q108 = (Z0 + (((x18 - Z1) * x15) * x17))) (e118 : q118 = ((-((x18 - Z1) * (((x12 * x15) + (x13 * x16)) + (x14 * x17)))) * x15)) : q108 = ((Z0 + (((x18 - Z1) * ((((Z0 - x12) * x15) + ((Z0 - x13) * x16)) + ((Z1 - x14) * x17))) * x15)) - q118) := by
  subst Y0 Y1 e108 e118
  grind

theorem AffineTurns_al130 {Z0 Z1 : Rat} (Y0 : Z0 = (0 : Rat)) (Y1 : Z1 = (1 : Rat)) {q119 x18 x12 x15 x13 x16 x14 x17 : Rat} (e119 : q119 = ((-((x18 - Z1) * (((x12 * x15) + (x13 * x16)) + (x14 * x17)))) * x16)) : q119 = (Z0 + (((x18 - Z1) * ((((Z0 - x12) * x15) + ((Z0 - x13) * x16)) + ((Z0 - x14) * x17))) * x16)) := by
  subst Y0 Y1 e119
  grind

theorem AffineTurns_al132 {Z0 Z1 : Rat} (Y0 : Z0 = (0 : Rat)) (Y1 : Z1 = (1 : Rat)) {q107 x18 x15 x16 x12 x13 x14 x17 q119 : Rat} (e107 : q107 = (Z0 + (((x18 - Z1) * x15) * x16))) (e119 : q119 = ((-((x18 - Z1) * (((x12 * x15) + (x13 * x16)) + (x14 * x17)))) * x16)) : q107 = ((Z0 + (((x18 - Z1) * ((((Z1 - x12) * x15) + ((Z0 - x13) * x16)) + ((Z0 - x14) * x17))) * x16)) - q119) := by
  subst Y0 Y1 e107 e119
  grind

theorem AffineTurns_al134 {Z0 Z1 : Rat} (Y0 : Z0 = (0 : Rat)) (Y1 : Z1 = (1 : Rat)) {q111 x18 x16 x12 x15 x13 x14 x17 q119 : Rat} (e111 : q111 = (Z1 + (((x18 - Z1) * x16) * x16))) (e119 : q119 = ((-((x18 - Z1) * (((x12 * x15) + (x13 * x16)) + (x14 * x17)))) * x16)) : q111 = ((Z1 + (((x18 - Z1) * ((((Z0 - x12) * x15) + ((Z1 - x13) * x16)) + ((Z0 - x14) * x17))) * x16)) - q119) := by
  subst Y0 Y1 e111 e119
  grind

theorem AffineTurns_al136 {Z0 Z1 : Rat} (Y0 : Z0 = (0 : Rat)) (Y1 : Z1 = (1 : Rat)) {q112 x18 x16 x17 x12 x15 x13 x14 q119 : Rat} (e112 : q112 = (Z0 + (((x18 - Z1) * x16) * x17))) (e119 : q119 = ((-((x18 - Z1) * (((x12 * x15) + (x13 * x16)) + (x14 * x17)))) * x16)) : q112 = ((Z0 + (((x18 - Z1) * ((((Z0 - x12) * x15) + ((Z0 - x13) * x16)) + ((Z1 - x14) * x17))) * x16)) - q119) := by
  subst Y0 Y1 e112 e119
  grind

theorem AffineTurns_al138 {Z0 Z1 : Rat} (Y0 : Z0 = (0 : Rat)) (Y1 : Z1 = (1 : Rat)) {q120 x18 x12 x15 x13 x16 x14 x17 : Rat} (e120 : q120 = ((-((x18 - Z1) * (((x12 * x15) + (x13 * x16)) + (x14 * x17)))) * x17)) : q120 = (Z0 + (((x18 - Z1) * ((((Z0 - x12) * x15) + ((Z0 - x13) * x16)) + ((Z0 - x14) * x17))) * x17)) := by
  subst Y0 Y1 e120
  grind

theorem AffineTurns_al140 {Z0 Z1 : Rat} (Y0 : Z0 = (0 : Rat)) (Y1 : Z1 = (1 : Rat)) {q108 x18 x15 x17 x12 x13 x16 x14 q120 : Rat} (e108 : q108 = (Z0 + (((x18 - Z1) * x15) * x17))) (e120 : q120 = ((-((x18 - Z1) * (((x12 * x15) + (x13 * x16)) + (x14 * x17)))) * x17)) : q108 = ((Z0 + (((x18 - Z1) * ((((Z1 - x12) * x15) + ((Z0 - x13) * x16)) + ((Z0 - x14) * x17))) * x17)) - q120) := by
  subst Y0 Y1 e108 e120
  grind

theorem AffineTurns_al142 {Z0 Z1 : Rat} (Y0 : Z0 = (0 : Rat)) (Y1 : Z1 = (1 : Rat)) {q112 x18 x16 x17 x12 x15 x13 x14 q120 : Rat} (e112 : q112 = (Z0 + (((x18 - Z1) * x16) * x17))) (e120 : q120 = ((-((x18 - Z1) * (((x12 * x15) + (x13 * x16)) + (x14 * x17)))) * x17)) : q112 = ((Z0 + (((x18 - Z1) * ((((Z0 - x12) * x15) + ((Z1 - x13) * x16)) + ((Z0 - x14) * x17))) * x17)) - q120) := by
  subst Y0 Y1 e112 e120
  grind

theorem AffineTurns_al144 {Z0 Z1 : Rat} (Y0 : Z0 = (0 : Rat)) (Y1 : Z1 = (1 : Rat)) {q117 x18 x17 x12 x15 x13 x16 x14 q120 : Rat} (e117 : q117 = (Z1 + (((x18 - Z1) * x17) * x17))) (e120 : q120 = ((-((x18 - Z1) * (((x12 * x15) + (x13 * x16)) + (x14 * x17)))) * x17)) : q117 = ((Z1 + (((x18 - Z1) * ((((Z0 - x12) * x15) + ((Z0 - x13) * x16)) + ((Z1 - x14) * x17))) * x17)) - q120) := by
  subst Y0 Y1 e117 e120
  grind

theorem pure_AffineTurns {r0 r1 r2 r3 r4 r5 r6 r7 r8 r9 r10 r11 r12 r13 r14 r15 r16 r17 r18 r19 r20 r21 r22 : RR} (g0 : r0.ok 1048576) (g1 : r1.ok 1048576) (g2 : r2.ok 1048576) (g3 : r3.ok 1048576) (g4 : r4.ok 1048576) (g5 : r5.ok 1048576) (g6 : r6.ok 1048576) (g7 : r7.ok 1048576) (g8 : r8.ok 1048576) (g9 : r9.ok 1048576) (g10 : r10.ok 1048576) (g11 : r11.ok 1048576) (g12 : r12.ok 1048576) (g13 : r13.ok 1048576) (g14 : r14.ok 1048576) (g15 : r15.ok 1048576) (g16 : r16.ok 1048576) (g17 : r17.ok 1048576) (g18 : r18.ok 1048576) (g19 : r19.ok 1048576) (g20 : r20.ok 1048576) (g21 : r21.ok 1048576) (g22 : r22.ok 1048576) : PureCalls prog F.penumbralaw07_AffineTurns [.agg ([.bool r0.neg, nl r0.num, nl r0.den, .bool r1.neg, nl r1.num, nl r1.den, .bool r2.neg, nl r2.num, nl r2.den, .bool r3.neg, nl r3.num, nl r3.den, .bool r4.neg, nl r4.num, nl r4.den, .bool r5.neg, nl r5.num, nl r5.den, .bool r6.neg, nl r6.num, nl r6.den, .bool r7.neg, nl r7.num, nl r7.den, .bool r8.neg, nl r8.num, nl r8.den, .bool r9.neg, nl r9.num, nl r9.den, .bool r10.neg, nl r10.num, nl r10.den, .bool r11.neg, nl r11.num, nl r11.den]), .agg ([.bool r12.neg, nl r12.num, nl r12.den, .bool r13.neg, nl r13.num, nl r13.den, .bool r14.neg, nl r14.num, nl r14.den, .bool r15.neg, nl r15.num, nl r15.den, .bool r16.neg, nl r16.num, nl r16.den, .bool r17.neg, nl r17.num, nl r17.den, .bool r18.neg, nl r18.num, nl r18.den, .bool r19.neg, nl r19.num, nl r19.den, .bool r20.neg, nl r20.num, nl r20.den, .bool r21.neg, nl r21.num, nl r21.den, .bool r22.neg, nl r22.num, nl r22.den])] [.one (.bool true)] := by
  obtain ⟨Zm1, Ym1⟩ := ex_eq (-1 : Rat)
  obtain ⟨Z0, Y0⟩ := ex_eq (0 : Rat)
  obtain ⟨Z1, Y1⟩ := ex_eq (1 : Rat)
  obtain ⟨x0, h0⟩ := Num.raw g0 (by decide)
  obtain ⟨x1, h1⟩ := Num.raw g1 (by decide)
  obtain ⟨x2, h2⟩ := Num.raw g2 (by decide)
  obtain ⟨x3, h3⟩ := Num.raw g3 (by decide)
  obtain ⟨x4, h4⟩ := Num.raw g4 (by decide)
  obtain ⟨x5, h5⟩ := Num.raw g5 (by decide)
  obtain ⟨x6, h6⟩ := Num.raw g6 (by decide)
  obtain ⟨x7, h7⟩ := Num.raw g7 (by decide)
  obtain ⟨x8, h8⟩ := Num.raw g8 (by decide)
  obtain ⟨x9, h9⟩ := Num.raw g9 (by decide)
  obtain ⟨x10, h10⟩ := Num.raw g10 (by decide)
  obtain ⟨x11, h11⟩ := Num.raw g11 (by decide)
  obtain ⟨x12, h12⟩ := Num.raw g12 (by decide)
  obtain ⟨x13, h13⟩ := Num.raw g13 (by decide)
  obtain ⟨x14, h14⟩ := Num.raw g14 (by decide)
  obtain ⟨x15, h15⟩ := Num.raw g15 (by decide)
  obtain ⟨x16, h16⟩ := Num.raw g16 (by decide)
  obtain ⟨x17, h17⟩ := Num.raw g17 (by decide)
  obtain ⟨x18, h18⟩ := Num.raw g18 (by decide)
  obtain ⟨x19, h19⟩ := Num.raw g19 (by decide)
  obtain ⟨x20, h20⟩ := Num.raw g20 (by decide)
  obtain ⟨x21, h21⟩ := Num.raw g21 (by decide)
  obtain ⟨x22, h22⟩ := Num.raw g22 (by decide)
  refine symFunc_sound hmix tree_penumbralaw07_AffineTurns (by kernel_rfl) rfl ?_
  unfold ir_penumbralaw07_AffineTurns
  simp only [fa_agg, fa_one, fa_nil, List.cons_append, List.nil_append, List.append_nil]
  obtain ⟨q1, e1⟩ := ex_eq (((x0 * ((x4 * x8) - (x5 * x7))) + (x1 * ((x5 * x6) - (x3 * x8)))) + (x2 * ((x3 * x7) - (x4 * x6))))
  by_cases c2 : q1 = Z0
  · skip
    refine call_step (n_affine_Inverse_0 (k0 := q1) Y0 Y1 (h0.mono (by decide)) (h1.mono (by decide)) (h2.mono (by decide)) (h3.mono (by decide)) (h4.mono (by decide)) (h5.mono (by decide)) (h6.mono (by decide)) (h7.mono (by decide)) (h8.mono (by decide)) (h9.mono (by decide)) (h10.mono (by decide)) (h11.mono (by decide)) e1 c2) rfl ?_
    simp only [fa_agg, fa_one, fa_nil, List.cons_append, List.nil_append, List.append_nil]
    refine call_step (n_penumbraref07_Inverse_0 (k0 := q1) Y0 Y1 (h0.mono (by decide)) (h1.mono (by decide)) (h2.mono (by decide)) (h3.mono (by decide)) (h4.mono (by decide)) (h5.mono (by decide)) (h6.mono (by decide)) (h7.mono (by decide)) (h8.mono (by decide)) (h9.mono (by decide)) (h10.mono (by decide)) (h11.mono (by decide)) e1 c2) rfl ?_
    simp only [fa_agg, fa_one, fa_nil, List.cons_append, List.nil_append, List.append_nil]
    refine call_step n_penumbralaw07_fixed rfl ?_
    simp only [fa_agg, fa_one, fa_nil, List.cons_append, List.nil_append, List.append_nil]
    refine itT rfl ?_
    have m3 : Num 1 (cr Z1) Z1 := Num.c Y1 (by decide +kernel) (by decide +kernel)
    have m4 : Num 1 (cr Z0) Z0 := Num.c Y0 (by decide +kernel) (by decide +kernel)
    refine call_step (n_penumbraref07_Is_0 (m3.mono (by decide)) (m4.mono (by decide)) (m4.mono (by decide)) (m4.mono (by decide)) (m3.mono (by decide)) (m4.mono (by decide)) (m4.mono (by decide)) (m4.mono (by decide)) (m3.mono (by decide)) (m4.mono (by decide)) (m4.mono (by decide)) (m4.mono (by decide)) (m3.mono (by decide)) (m4.mono (by decide)) (m4.mono (by decide)) (m4.mono (by decide)) (m3.mono (by decide)) (m4.mono (by decide)) (m4.mono (by decide)) (m4.mono (by decide)) (m3.mono (by decide)) (m4.mono (by decide)) (m4.mono (by decide)) (m4.mono (by decide)) rfl rfl rfl rfl rfl rfl rfl rfl rfl rfl rfl rfl) rfl ?_
    simp only [fa_agg, fa_one, fa_nil, List.cons_append, List.nil_append, List.append_nil]
    refine itT rfl ?_
    refine primS (.bool true) rfl ?_
    refine itT rfl ?_
    obtain ⟨q5, e5⟩ := ex_eq (Z1 + (((x18 - Z1) * x15) * x15))
    obtain ⟨q6, e6⟩ := ex_eq (Z0 + (((x18 - Z1) * x15) * x16))
    obtain ⟨q7, e7⟩ := ex_eq (Z0 + (((x18 - Z1) * x15) * x17))
    have u8 : q6 = (Z0 + (((x18 - Z1) * x16) * x15)) := (AffineTurns_al9 Y0 Y1 e6)
    obtain ⟨q10, e10⟩ := ex_eq (Z1 + (((x18 - Z1) * x16) * x16))
    obtain ⟨q11, e11⟩ := ex_eq (Z0 + (((x18 - Z1) * x16) * x17))
    have u12 : q7 = (Z0 + (((x18 - Z1) * x17) * x15)) := (AffineTurns_al13 Y0 Y1 e7)
    have u14 : q11 = (Z0 + (((x18 - Z1) * x17) * x16)) := (AffineTurns_al15 Y0 Y1 e11)
    obtain ⟨q16, e16⟩ := ex_eq (Z1 + (((x18 - Z1) * x17) * x17))
    obtain ⟨q17, e17⟩ := ex_eq ((-((x18 - Z1) * (((x12 * x15) + (x13 * x16)) + (x14 * x17)))) * x15)
    obtain ⟨q18, e18⟩ := ex_eq ((-((x18 - Z1) * (((x12 * x15) + (x13 * x16)) + (x14 * x17)))) * x16)
    obtain ⟨q19, e19⟩ := ex_eq ((-((x18 - Z1) * (((x12 * x15) + (x13 * x16)) + (x14 * x17)))) * x17)
    refine call_step (n_affine_Stretch_0 (k0 := q5) (k1 := q6) (k2 := q7) (k3 := q6) (k4 := q10) (k5 := q11) (k6 := q7) (k7 := q11) (k8 := q16) (k9 := q17) (k10 := q18) (k11 := q19) Y0 Y1 (h12.mono (by decide)) (h13.mono (by decide)) (h14.mono (by decide)) (h15.mono (by decide)) (h16.mono (by decide)) (h17.mono (by decide)) (h18.mono (by decide)) e5 e6 e7 u8 e10 e11 u12 u14 e16 e17 e18 e19) rfl ?_
    simp only [fa_agg, fa_one, fa_nil, List.cons_append, List.nil_append, List.append_nil]
    have u20 : q17 = (Z0 + (((x18 - Z1) * ((((Z0 - x12) * x15) + ((Z0 - x13) * x16)) + ((Z0 - x14) * x17))) * x15)) := (AffineTurns_al21 Y0 Y1 e17)
    have u22 : q5 = ((Z1 + (((x18 - Z1) * ((((Z1 - x12) * x15) + ((Z0 - x13) * x16)) + ((Z0 - x14) * x17))) * x15)) - q17) := (AffineTurns_al23 Y0 Y1 e5 e17)
    have u24 : q6 = ((Z0 + (((x18 - Z1) * ((((Z0 - x12) * x15) + ((Z1 - x13) * x16)) + ((Z0 - x14) * x17))) * x15)) - q17) := (AffineTurns_al25 Y0 Y1 e6 e17)
    have u26 : q7 = ((Z0 + (((x18 - Z1) * ((((Z0 - x12) * x15) + ((Z0 - x13) * x16)) + ((Z1 - x14) * x17))) * x15)) - q17) := (AffineTurns_al27 Y0 Y1 e7 e17)
    have u28 : q18 = (Z0 + (((x18 - Z1) * ((((Z0 - x12) * x15) + ((Z0 - x13) * x16)) + ((Z0 - x14) * x17))) * x16)) := (AffineTurns_al29 Y0 Y1 e18)
    have u30 : q6 = ((Z0 + (((x18 - Z1) * ((((Z1 - x12) * x15) + ((Z0 - x13) * x16)) + ((Z0 - x14) * x17))) * x16)) - q18) := (AffineTurns_al31 Y0 Y1 e6 e18)
    have u32 : q10 = ((Z1 + (((x18 - Z1) * ((((Z0 - x12) * x15) + ((Z1 - x13) * x16)) + ((Z0 - x14) * x17))) * x16)) - q18) := (AffineTurns_al33 Y0 Y1 e10 e18)
    have u34 : q11 = ((Z0 + (((x18 - Z1) * ((((Z0 - x12) * x15) + ((Z0 - x13) * x16)) + ((Z1 - x14) * x17))) * x16)) - q18) := (AffineTurns_al35 Y0 Y1 e11 e18)
    have u36 : q19 = (Z0 + (((x18 - Z1) * ((((Z0 - x12) * x15) + ((Z0 - x13) * x16)) + ((Z0 - x14) * x17))) * x17)) := (AffineTurns_al37 Y0 Y1 e19)
    have u38 : q7 = ((Z0 + (((x18 - Z1) * ((((Z1 - x12) * x15) + ((Z0 - x13) * x16)) + ((Z0 - x14) * x17))) * x17)) - q19) := (AffineTurns_al39 Y0 Y1 e7 e19)
    have u40 : q11 = ((Z0 + (((x18 - Z1) * ((((Z0 - x12) * x15) + ((Z1 - x13) * x16)) + ((Z0 - x14) * x17))) * x17)) - q19) := (AffineTurns_al41 Y0 Y1 e11 e19)
    have u42 : q16 = ((Z1 + (((x18 - Z1) * ((((Z0 - x12) * x15) + ((Z0 - x13) * x16)) + ((Z1 - x14) * x17))) * x17)) - q19) := (AffineTurns_al43 Y0 Y1 e16 e19)
    refine call_step (n_penumbraref07_Stretch_0 (k0 := q17) (k1 := q5) (k2 := q6) (k3 := q7) (k4 := q18) (k5 := q6) (k6 := q10) (k7 := q11) (k8 := q19) (k9 := q7) (k10 := q11) (k11 := q16) Y0 Y1 (h12.mono (by decide)) (h13.mono (by decide)) (h14.mono (by decide)) (h15.mono (by decide)) (h16.mono (by decide)) (h17.mono (by decide)) (h18.mono (by decide)) u20 u22 u24 u26 u28 u30 u32 u34 u36 u38 u40 u42) rfl ?_
    simp only [fa_agg, fa_one, fa_nil, List.cons_append, List.nil_append, List.append_nil]
    have m44 : Num 3145732 (cr q5) q5 := Num.eqn e5 (Sm.add m3.sm (Sm.mul (Sm.mul (Sm.sub h18.sm m3.sm) h15.sm) h15.sm))
    have m45 : Num 3145732 (cr q6) q6 := Num.eqn e6 (Sm.add m4.sm (Sm.mul (Sm.mul (Sm.sub h18.sm m3.sm) h15.sm) h16.sm))
    have m46 : Num 3145732 (cr q7) q7 := Num.eqn e7 (Sm.add m4.sm (Sm.mul (Sm.mul (Sm.sub h18.sm m3.sm) h15.sm) h17.sm))
    have m47 : Num 3145732 (cr q10) q10 := Num.eqn e10 (Sm.add m3.sm (Sm.mul (Sm.mul (Sm.sub h18.sm m3.sm) h16.sm) h16.sm))
    have m48 : Num 3145732 (cr q11) q11 := Num.eqn e11 (Sm.add m4.sm (Sm.mul (Sm.mul (Sm.sub h18.sm m3.sm) h16.sm) h17.sm))
    have m49 : Num 3145732 (cr q16) q16 := Num.eqn e16 (Sm.add m3.sm (Sm.mul (Sm.mul (Sm.sub h18.sm m3.sm) h17.sm) h17.sm))
    have m50 : Num 8388612 (cr q17) q17 := Num.eqn e17 (Sm.mul (Sm.neg (Sm.mul (Sm.sub h18.sm m3.sm) (Sm.add (Sm.add (Sm.mul h12.sm h15.sm) (Sm.mul h13.sm h16.sm)) (Sm.mul h14.sm h17.sm)))) h15.sm)
    have m51 : Num 8388612 (cr q18) q18 := Num.eqn e18 (Sm.mul (Sm.neg (Sm.mul (Sm.sub h18.sm m3.sm) (Sm.add (Sm.add (Sm.mul h12.sm h15.sm) (Sm.mul h13.sm h16.sm)) (Sm.mul h14.sm h17.sm)))) h16.sm)
    have m52 : Num 8388612 (cr q19) q19 := Num.eqn e19 (Sm.mul (Sm.neg (Sm.mul (Sm.sub h18.sm m3.sm) (Sm.add (Sm.add (Sm.mul h12.sm h15.sm) (Sm.mul h13.sm h16.sm)) (Sm.mul h14.sm h17.sm)))) h17.sm)
    refine call_step (n_penumbraref07_Is_0 (m44.mono (by decide)) (m45.mono (by decide)) (m46.mono (by decide)) (m45.mono (by decide)) (m47.mono (by decide)) (m48.mono (by decide)) (m46.mono (by decide)) (m48.mono (by decide)) (m49.mono (by decide)) (m50.mono (by decide)) (m51.mono (by decide)) (m52.mono (by decide)) (m44.mono (by decide)) (m45.mono (by decide)) (m46.mono (by decide)) (m45.mono (by decide)) (m47.mono (by decide)) (m48.mono (by decide)) (m46.mono (by decide)) (m48.mono (by decide)) (m49.mono (by decide)) (m50.mono (by decide)) (m51.mono (by decide)) (m52.mono (by decide)) rfl rfl rfl rfl rfl rfl rfl rfl rfl rfl rfl rfl) rfl ?_
    simp only [fa_agg, fa_one, fa_nil, List.cons_append, List.nil_append, List.append_nil]
    exact ret_step rfl
  · skip
    obtain ⟨q53, e53⟩ := ex_eq (Z1 / q1)
    have d53 := div_mul Y0 e53 c2
    obtain ⟨q54, e54⟩ := ex_eq (q53 * ((x4 * x8) - (x5 * x7)))
    obtain ⟨q55, e55⟩ := ex_eq (q53 * ((x7 * x2) - (x8 * x1)))
    obtain ⟨q56, e56⟩ := ex_eq (q53 * ((x1 * x5) - (x2 * x4)))
    obtain ⟨q57, e57⟩ := ex_eq (q53 * ((x5 * x6) - (x3 * x8)))
    obtain ⟨q58, e58⟩ := ex_eq (q53 * ((x8 * x0) - (x6 * x2)))
    obtain ⟨q59, e59⟩ := ex_eq (q53 * ((x2 * x3) - (x0 * x5)))
    obtain ⟨q60, e60⟩ := ex_eq (q53 * ((x3 * x7) - (x4 * x6)))
    obtain ⟨q61, e61⟩ := ex_eq (q53 * ((x6 * x1) - (x7 * x0)))
    obtain ⟨q62, e62⟩ := ex_eq (q53 * ((x0 * x4) - (x1 * x3)))
    obtain ⟨q63, e63⟩ := ex_eq (Zm1 * (((q54 * x9) + (q55 * x10)) + (q56 * x11)))
    obtain ⟨q64, e64⟩ := ex_eq (Zm1 * (((q57 * x9) + (q58 * x10)) + (q59 * x11)))
    obtain ⟨q65, e65⟩ := ex_eq (Zm1 * (((q60 * x9) + (q61 * x10)) + (q62 * x11)))
    refine call_step (n_affine_Inverse_1 (k0 := q1) (k1 := q53) (k2 := q54) (k3 := q55) (k4 := q56) (k5 := q57) (k6 := q58) (k7 := q59) (k8 := q60) (k9 := q61) (k10 := q62) (k11 := q63) (k12 := q64) (k13 := q65) Ym1 Y0 Y1 (h0.mono (by decide)) (h1.mono (by decide)) (h2.mono (by decide)) (h3.mono (by decide)) (h4.mono (by decide)) (h5.mono (by decide)) (h6.mono (by decide)) (h7.mono (by decide)) (h8.mono (by decide)) (h9.mono (by decide)) (h10.mono (by decide)) (h11.mono (by decide)) e1 e53 e54 e55 e56 e57 e58 e59 e60 e61 e62 e63 e64 e65 c2) rfl ?_
    simp only [fa_agg, fa_one, fa_nil, List.cons_append, List.nil_append, List.append_nil]
    have u66 : q63 = (q53 * ((((Z0 - x9) * ((x4 * x8) - (x7 * x5))) + ((Z0 - x10) * ((x7 * x2) - (x1 * x8)))) + ((Z0 - x11) * ((x1 * x5) - (x4 * x2))))) := (AffineTurns_al67 Ym1 Y0 Y1 e1 d53 e54 e55 e56 e63 c2)
    have u68 : q54 = ((q63 + (q53 * (((Z1 * ((x4 * x8) - (x7 * x5))) + (Z0 * ((x7 * x2) - (x1 * x8)))) + (Z0 * ((x1 * x5) - (x4 * x2)))))) - q63) := (AffineTurns_al69 Ym1 Y0 Y1 e1 d53 e54 e55 e56 e63 c2)
    have u70 : q55 = ((q63 + (q53 * (((Z0 * ((x4 * x8) - (x7 * x5))) + (Z1 * ((x7 * x2) - (x1 * x8)))) + (Z0 * ((x1 * x5) - (x4 * x2)))))) - q63) := (AffineTurns_al71 Ym1 Y0 Y1 e1 d53 e55 e54 e56 e63 c2)
    have u72 : q56 = ((q63 + (q53 * (((Z0 * ((x4 * x8) - (x7 * x5))) + (Z0 * ((x7 * x2) - (x1 * x8)))) + (Z1 * ((x1 * x5) - (x4 * x2)))))) - q63) := (AffineTurns_al73 Ym1 Y0 Y1 e1 d53 e56 e54 e55 e63 c2)
    have u74 : q64 = (q53 * (((x0 * (((Z0 - x10) * x8) - ((Z0 - x11) * x5))) + (x3 * (((Z0 - x11) * x2) - ((Z0 - x9) * x8)))) + (x6 * (((Z0 - x9) * x5) - ((Z0 - x10) * x2))))) := (AffineTurns_al75 Ym1 Y0 Y1 e1 d53 e57 e58 e59 e64 c2)
    have u76 : q57 = ((q64 + (q53 * (((x0 * ((Z0 * x8) - (Z0 * x5))) + (x3 * ((Z0 * x2) - (Z1 * x8)))) + (x6 * ((Z1 * x5) - (Z0 * x2)))))) - q64) := (AffineTurns_al77 Ym1 Y0 Y1 e1 d53 e57 e58 e59 e64 c2)
    have u78 : q58 = ((q64 + (q53 * (((x0 * ((Z1 * x8) - (Z0 * x5))) + (x3 * ((Z0 * x2) - (Z0 * x8)))) + (x6 * ((Z0 * x5) - (Z1 * x2)))))) - q64) := (AffineTurns_al79 Ym1 Y0 Y1 e1 d53 e58 e57 e59 e64 c2)
    have u80 : q59 = ((q64 + (q53 * (((x0 * ((Z0 * x8) - (Z1 * x5))) + (x3 * ((Z1 * x2) - (Z0 * x8)))) + (x6 * ((Z0 * x5) - (Z0 * x2)))))) - q64) := (AffineTurns_al81 Ym1 Y0 Y1 e1 d53 e59 e57 e58 e64 c2)
    have u82 : q65 = (q53 * (((x0 * ((x4 * (Z0 - x11)) - (x7 * (Z0 - x10)))) + (x3 * ((x7 * (Z0 - x9)) - (x1 * (Z0 - x11))))) + (x6 * ((x1 * (Z0 - x10)) - (x4 * (Z0 - x9)))))) := (AffineTurns_al83 Ym1 Y0 Y1 e1 d53 e60 e61 e62 e65 c2)
    have u84 : q60 = ((q65 + (q53 * (((x0 * ((x4 * Z0) - (x7 * Z0))) + (x3 * ((x7 * Z1) - (x1 * Z0)))) + (x6 * ((x1 * Z0) - (x4 * Z1)))))) - q65) := (AffineTurns_al85 Ym1 Y0 Y1 e1 d53 e60 e61 e62 e65 c2)
    have u86 : q61 = ((q65 + (q53 * (((x0 * ((x4 * Z0) - (x7 * Z1))) + (x3 * ((x7 * Z0) - (x1 * Z0)))) + (x6 * ((x1 * Z1) - (x4 * Z0)))))) - q65) := (AffineTurns_al87 Ym1 Y0 Y1 e1 d53 e61 e60 e62 e65 c2)
    have u88 : q62 = ((q65 + (q53 * (((x0 * ((x4 * Z1) - (x7 * Z0))) + (x3 * ((x7 * Z0) - (x1 * Z1)))) + (x6 * ((x1 * Z0) - (x4 * Z0)))))) - q65) := (AffineTurns_al89 Ym1 Y0 Y1 e1 d53 e62 e60 e61 e65 c2)
    refine call_step (n_penumbraref07_Inverse_1 (k0 := q1) (k1 := q53) (k2 := q63) (k3 := q54) (k4 := q55) (k5 := q56) (k6 := q64) (k7 := q57) (k8 := q58) (k9 := q59) (k10 := q65) (k11 := q60) (k12 := q61) (k13 := q62) Y0 Y1 (h0.mono (by decide)) (h1.mono (by decide)) (h2.mono (by decide)) (h3.mono (by decide)) (h4.mono (by decide)) (h5.mono (by decide)) (h6.mono (by decide)) (h7.mono (by decide)) (h8.mono (by decide)) (h9.mono (by decide)) (h10.mono (by decide)) (h11.mono (by decide)) e1 e53 u66 u68 u70 u72 u74 u76 u78 u80 u82 u84 u86 u88 c2) rfl ?_
    simp only [fa_agg, fa_one, fa_nil, List.cons_append, List.nil_append, List.append_nil]
    refine call_step n_penumbralaw07_fixed rfl ?_
    simp only [fa_agg, fa_one, fa_nil, List.cons_append, List.nil_append, List.append_nil]
    refine itT rfl ?_
    have m92 : Num 1 (cr Z1) Z1 := Num.c Y1 (by decide +kernel) (by decide +kernel)
    have m93 : Num 15728645 (cr q1) q1 := Num.eqn e1 (Sm.add (Sm.add (Sm.mul h0.sm (Sm.sub (Sm.mul h4.sm h8.sm) (Sm.mul h5.sm h7.sm))) (Sm.mul h1.sm (Sm.sub (Sm.mul h5.sm h6.sm) (Sm.mul h3.sm h8.sm)))) (Sm.mul h2.sm (Sm.sub (Sm.mul h3.sm h7.sm) (Sm.mul h4.sm h6.sm))))
    have m91 : Num 15728646 (cr q53) q53 := Num.eqn e53 (Sm.div m92.sm m93.sm)
    have m90 : Num 19922951 (cr q54) q54 := Num.eqn e54 (Sm.mul m91.sm (Sm.sub (Sm.mul h4.sm h8.sm) (Sm.mul h5.sm h7.sm)))
    have m94 : Num 19922951 (cr q55) q55 := Num.eqn e55 (Sm.mul m91.sm (Sm.sub (Sm.mul h7.sm h2.sm) (Sm.mul h8.sm h1.sm)))
    have m95 : Num 19922951 (cr q56) q56 := Num.eqn e56 (Sm.mul m91.sm (Sm.sub (Sm.mul h1.sm h5.sm) (Sm.mul h2.sm h4.sm)))
    have m96 : Num 19922951 (cr q57) q57 := Num.eqn e57 (Sm.mul m91.sm (Sm.sub (Sm.mul h5.sm h6.sm) (Sm.mul h3.sm h8.sm)))
    have m97 : Num 19922951 (cr q58) q58 := Num.eqn e58 (Sm.mul m91.sm (Sm.sub (Sm.mul h8.sm h0.sm) (Sm.mul h6.sm h2.sm)))
    have m98 : Num 19922951 (cr q59) q59 := Num.eqn e59 (Sm.mul m91.sm (Sm.sub (Sm.mul h2.sm h3.sm) (Sm.mul h0.sm h5.sm)))
    have m99 : Num 19922951 (cr q60) q60 := Num.eqn e60 (Sm.mul m91.sm (Sm.sub (Sm.mul h3.sm h7.sm) (Sm.mul h4.sm h6.sm)))
    have m100 : Num 19922951 (cr q61) q61 := Num.eqn e61 (Sm.mul m91.sm (Sm.sub (Sm.mul h6.sm h1.sm) (Sm.mul h7.sm h0.sm)))
    have m101 : Num 19922951 (cr q62) q62 := Num.eqn e62 (Sm.mul m91.sm (Sm.sub (Sm.mul h0.sm h4.sm) (Sm.mul h1.sm h3.sm)))
    have m103 : Num 1 (cr Zm1) Zm1 := Num.c Ym1 (by decide +kernel) (by decide +kernel)
    have m102 : Num 62914584 (cr q63) q63 := Num.eqn e63 (Sm.mul m103.sm (Sm.add (Sm.add (Sm.mul m90.sm h9.sm) (Sm.mul m94.sm h10.sm)) (Sm.mul m95.sm h11.sm)))
    have m104 : Num 62914584 (cr q64) q64 := Num.eqn e64 (Sm.mul m103.sm (Sm.add (Sm.add (Sm.mul m96.sm h9.sm) (Sm.mul m97.sm h10.sm)) (Sm.mul m98.sm h11.sm)))
    have m105 : Num 62914584 (cr q65) q65 := Num.eqn e65 (Sm.mul m103.sm (Sm.add (Sm.add (Sm.mul m99.sm h9.sm) (Sm.mul m100.sm h10.sm)) (Sm.mul m101.sm h11.sm)))
    refine call_step (n_penumbraref07_Is_0 (m90.mono (by decide)) (m94.mono (by decide)) (m95.mono (by decide)) (m96.mono (by decide)) (m97.mono (by decide)) (m98.mono (by decide)) (m99.mono (by decide)) (m100.mono (by decide)) (m101.mono (by decide)) (m102.mono (by decide)) (m104.mono (by decide)) (m105.mono (by decide)) (m90.mono (by decide)) (m94.mono (by decide)) (m95.mono (by decide)) (m96.mono (by decide)) (m97.mono (by decide)) (m98.mono (by decide)) (m99.mono (by decide)) (m100.mono (by decide)) (m101.mono (by decide)) (m102.mono (by decide)) (m104.mono (by decide)) (m105.mono (by decide)) rfl rfl rfl rfl rfl rfl rfl rfl rfl rfl rfl rfl) rfl ?_
    simp only [fa_agg, fa_one, fa_nil, List.cons_append, List.nil_append, List.append_nil]
    refine itT rfl ?_
    refine primS (.bool true) rfl ?_
    refine itT rfl ?_
    obtain ⟨q106, e106⟩ := ex_eq (Z1 + (((x18 - Z1) * x15) * x15))
    obtain ⟨q107, e107⟩ := ex_eq (Z0 + (((x18 - Z1) * x15) * x16))
    obtain ⟨q108, e108⟩ := ex_eq (Z0 + (((x18 - Z1) * x15) * x17))
    have u109 : q107 = (Z0 + (((x18 - Z1) * x16) * x15)) := (AffineTurns_al110 Y0 Y1 e107)
    obtain ⟨q111, e111⟩ := ex_eq (Z1 + (((x18 - Z1) * x16) * x16))
    obtain ⟨q112, e112⟩ := ex_eq (Z0 + (((x18 - Z1) * x16) * x17))
    have u113 : q108 = (Z0 + (((x18 - Z1) * x17) * x15)) := (AffineTurns_al114 Y0 Y1 e108)
    have u115 : q112 = (Z0 + (((x18 - Z1) * x17) * x16)) := (AffineTurns_al116 Y0 Y1 e112)
    obtain ⟨q117, e117⟩ := ex_eq (Z1 + (((x18 - Z1) * x17) * x17))
    obtain ⟨q118, e118⟩ := ex_eq ((-((x18 - Z1) * (((x12 * x15) + (x13 * x16)) + (x14 * x17)))) * x15)
    obtain ⟨q119, e119⟩ := ex_eq ((-((x18 - Z1) * (((x12 * x15) + (x13 * x16)) + (x14 * x17)))) * x16)
    obtain ⟨q120, e120⟩ := ex_eq ((-((x18 - Z1) * (((x12 * x15) + (x13 * x16)) + (x14 * x17)))) * x17)
    refine call_step (n_affine_Stretch_0 (k0 := q106) (k1 := q107) (k2 := q108) (k3 := q107) (k4 := q111) (k5 := q112) (k6 := q108) (k7 := q112) (k8 := q117) (k9 := q118) (k10 := q119) (k11 := q120) Y0 Y1 (h12.mono (by decide)) (h13.mono (by decide)) (h14.mono (by decide)) (h15.mono (by decide)) (h16.mono (by decide)) (h17.mono (by decide)) (h18.mono (by decide)) e106 e107 e108 u109 e111 e112 u113 u115 e117 e118 e119 e120) rfl ?_
    simp only [fa_agg, fa_one, fa_nil, List.cons_append, List.nil_append, List.append_nil]
    have u121 : q118 = (Z0 + (((x18 - Z1) * ((((Z0 - x12) * x15) + ((Z0 - x13) * x16)) + ((Z0 - x14) * x17))) * x15)) := (AffineTurns_al122 Y0 Y1 e118)
    have u123 : q106 = ((Z1 + (((x18 - Z1) * ((((Z1 - x12) * x15) + ((Z0 - x13) * x16)) + ((Z0 - x14) * x17))) * x15)) - q118) := (AffineTurns_al124 Y0 Y1 e106 e118)
    have u125 : q107 = ((Z0 + (((x18 - Z1) * ((((Z0 - x12) * x15) + ((Z1 - x13) * x16)) + ((Z0 - x14) * x17))) * x15)) - q118) := (AffineTurns_al126 Y0 Y1 e107 e118)
    have u127 : q108 = ((Z0 + (((x18 - Z1) * ((((Z0 - x12) * x15) + ((Z0 - x13) * x16)) + ((Z1 - x14) * x17))) * x15)) - q118) := (AffineTurns_al128 Y0 Y1 e108 e118)
    have u129 : q119 = (Z0 + (((x18 - Z1) * ((((Z0 - x12) * x15) + ((Z0 - x13) * x16)) + ((Z0 - x14) * x17))) * x16)) := (AffineTurns_al130 Y0 Y1 e119)
    have u131 : q107 = ((Z0 + (((x18 - Z1) * ((((Z1 - x12) * x15) + ((Z0 - x13) * x16)) + ((Z0 - x14) * x17))) * x16)) - q119) := (AffineTurns_al132 Y0 Y1 e107 e119)
    have u133 : q111 = ((Z1 + (((x18 - Z1) * ((((Z0 - x12) * x15) + ((Z1 - x13) * x16)) + ((Z0 - x14) * x17))) * x16)) - q119) := (AffineTurns_al134 Y0 Y1 e111 e119)
    have u135 : q112 = ((Z0 + (((x18 - Z1) * ((((Z0 - x12) * x15) + ((Z0 - x13) * x16)) + ((Z1 - x14) * x17))) * x16)) - q119) := (AffineTurns_al136 Y0 Y1 e112 e119)
    have u137 : q120 = (Z0 + (((x18 - Z1) * ((((Z0 - x12) * x15) + ((Z0 - x13) * x16)) + ((Z0 - x14) * x17))) * x17)) := (AffineTurns_al138 Y0 Y1 e120)
    have u139 : q108 = ((Z0 + (((x18 - Z1) * ((((Z1 - x12) * x15) + ((Z0 - x13) * x16)) + ((Z0 - x14) * x17))) * x17)) - q120) := (AffineTurns_al140 Y0 Y1 e108 e120)
    have u141 : q112 = ((Z0 + (((x18 - Z1) * ((((Z0 - x12) * x15) + ((Z1 - x13) * x16)) + ((Z0 - x14) * x17))) * x17)) - q120) := (AffineTurns_al142 Y0 Y1 e112 e120)
    have u143 : q117 = ((Z1 + (((x18 - Z1) * ((((Z0 - x12) * x15) + ((Z0 - x13) * x16)) + ((Z1 - x14) * x17))) * x17)) - q120) := (AffineTurns_al144 Y0 Y1 e117 e120)
    refine call_step (n_penumbraref07_Stretch_0 (k0 := q118) (k1 := q106) (k2 := q107) (k3 := q108) (k4 := q119) (k5 := q107) (k6 := q111) (k7 := q112) (k8 := q120) (k9 := q108) (k10 := q112) (k11 := q117) Y0 Y1 (h12.mono (by decide)) (h13.mono (by decide)) (h14.mono (by decide)) (h15.mono (by decide)) (h16.mono (by decide)) (h17.mono (by decide)) (h18.mono (by decide)) u121 u123 u125 u127 u129 u131 u133 u135 u137 u139 u141 u143) rfl ?_
    simp only [fa_agg, fa_one, fa_nil, List.cons_append, List.nil_append, List.append_nil]
    have m145 : Num 3145732 (cr q106) q106 := Num.eqn e106 (Sm.add m92.sm (Sm.mul (Sm.mul (Sm.sub h18.sm m92.sm) h15.sm) h15.sm))
    have m147 : Num 1 (cr Z0) Z0 := Num.c Y0 (by decide +kernel) (by decide +kernel)
    have m146 : Num 3145732 (cr q107) q107 := Num.eqn e107 (Sm.add m147.sm (Sm.mul (Sm.mul (Sm.sub h18.sm m92.sm) h15.sm) h16.sm))
    have m148 : Num 3145732 (cr q108) q108 := Num.eqn e108 (Sm.add m147.sm (Sm.mul (Sm.mul (Sm.sub h18.sm m92.sm) h15.sm) h17.sm))
    have m149 : Num 3145732 (cr q111) q111 := Num.eqn e111 (Sm.add m92.sm (Sm.mul (Sm.mul (Sm.sub h18.sm m92.sm) h16.sm) h16.sm))
    have m150 : Num 3145732 (cr q112) q112 := Num.eqn e112 (Sm.add m147.sm (Sm.mul (Sm.mul (Sm.sub h18.sm m92.sm) h16.sm) h17.sm))
    have m151 : Num 3145732 (cr q117) q117 := Num.eqn e117 (Sm.add m92.sm (Sm.mul (Sm.mul (Sm.sub h18.sm m92.sm) h17.sm) h17.sm))
    have m152 : Num 8388612 (cr q118) q118 := Num.eqn e118 (Sm.mul (Sm.neg (Sm.mul (Sm.sub h18.sm m92.sm) (Sm.add (Sm.add (Sm.mul h12.sm h15.sm) (Sm.mul h13.sm h16.sm)) (Sm.mul h14.sm h17.sm)))) h15.sm)
    have m153 : Num 8388612 (cr q119) q119 := Num.eqn e119 (Sm.mul (Sm.neg (Sm.mul (Sm.sub h18.sm m92.sm) (Sm.add (Sm.add (Sm.mul h12.sm h15.sm) (Sm.mul h13.sm h16.sm)) (Sm.mul h14.sm h17.sm)))) h16.sm)
    have m154 : Num 8388612 (cr q120) q120 := Num.eqn e120 (Sm.mul (Sm.neg (Sm.mul (Sm.sub h18.sm m92.sm) (Sm.add (Sm.add (Sm.mul h12.sm h15.sm) (Sm.mul h13.sm h16.sm)) (Sm.mul h14.sm h17.sm)))) h17.sm)
    refine call_step (n_penumbraref07_Is_0 (m145.mono (by decide)) (m146.mono (by decide)) (m148.mono (by decide)) (m146.mono (by decide)) (m149.mono (by decide)) (m150.mono (by decide)) (m148.mono (by decide)) (m150.mono (by decide)) (m151.mono (by decide)) (m152.mono (by decide)) (m153.mono (by decide)) (m154.mono (by decide)) (m145.mono (by decide)) (m146.mono (by decide)) (m148.mono (by decide)) (m146.mono (by decide)) (m149.mono (by decide)) (m150.mono (by decide)) (m148.mono (by decide)) (m150.mono (by decide)) (m151.mono (by decide)) (m152.mono (by decide)) (m153.mono (by decide)) (m154.mono (by decide)) rfl rfl rfl rfl rfl rfl rfl rfl rfl rfl rfl rfl) rfl ?_
    simp only [fa_agg, fa_one, fa_nil, List.cons_append, List.nil_append, List.append_nil]
    exact ret_step rfl

end Go.Px.Na

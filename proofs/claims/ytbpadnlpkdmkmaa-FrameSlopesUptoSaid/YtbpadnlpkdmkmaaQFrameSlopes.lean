/- QFrameSlopes: whatever the numbers, the law tells true. -/
import Derived.Test.YtbpadnlpkdmkmaaXFrameSlopes
set_option maxRecDepth 20000
set_option maxHeartbeats 40000000
set_option linter.unusedVariables false
set_option linter.unusedSimpArgs false
namespace Go.Px.Na
open Go.RowKit
open Go.Proofs.Try (prog)

theorem FrameSlopes_al11 {Z0 Z1 : Rat} (Y0 : Z0 = (0 : Rat)) (Y1 : Z1 = (1 : Rat)) {x3 x4 : Rat}  : x3 = (((x3 * Z1) + (x4 * Z0)) + Z0) := by
  subst Y0 Y1
  grind

theorem FrameSlopes_al12 {Z0 Z1 : Rat} (Y0 : Z0 = (0 : Rat)) (Y1 : Z1 = (1 : Rat)) {x3 x4 : Rat} : (((x3 * Z1) + (x4 * Z0)) + Z0) = (((x3 * Z1) + (x4 * Z0)) + (Z1 * Z0)) := by
  subst Y0 Y1
  grind

theorem FrameSlopes_al14 {Z0 Z1 : Rat} (Y0 : Z0 = (0 : Rat)) (Y1 : Z1 = (1 : Rat)) {x4 x3 : Rat}  : x4 = (((x3 * Z0) + (x4 * Z1)) + Z0) := by
  subst Y0 Y1
  grind

theorem FrameSlopes_al15 {Z0 Z1 : Rat} (Y0 : Z0 = (0 : Rat)) (Y1 : Z1 = (1 : Rat)) {x3 x4 : Rat} : (((x3 * Z0) + (x4 * Z1)) + Z0) = (((x3 * Z0) + (x4 * Z1)) + (Z1 * Z0)) := by
  subst Y0 Y1
  grind

theorem FrameSlopes_al17 {Z0 Z1 : Rat} (Y0 : Z0 = (0 : Rat)) (Y1 : Z1 = (1 : Rat)) {x3 x4 : Rat}  : Z1 = (((x3 * Z0) + (x4 * Z0)) + Z1) := by
  subst Y0 Y1
  grind

theorem FrameSlopes_al18 {Z0 Z1 : Rat} (Y0 : Z0 = (0 : Rat)) (Y1 : Z1 = (1 : Rat)) {x3 x4 : Rat} : (((x3 * Z0) + (x4 * Z0)) + Z1) = (((x3 * Z0) + (x4 * Z0)) + (Z1 * Z1)) := by
  subst Y0 Y1
  grind

theorem FrameSlopes_al21 {Z0 Z1 : Rat} (Y0 : Z0 = (0 : Rat)) (Y1 : Z1 = (1 : Rat)) {x3 x4 : Rat} : (((x3 * Z0) + (x4 * Z0)) + Z1) = (((x3 * Z0) + (x4 * Z0)) + (Z1 * Z1)) := by
  subst Y0 Y1
  grind

theorem FrameSlopes_al23 {Z0 Z1 : Rat} (Y0 : Z0 = (0 : Rat)) (Y1 : Z1 = (1 : Rat)) {x3 x4 : Rat}  : x3 = ((((x3 * Z1) + (x4 * Z0)) + Z0) / Z1) := by
  subst Y0 Y1
  grind

theorem FrameSlopes_al24 {Z0 Z1 : Rat} (Y0 : Z0 = (0 : Rat)) (Y1 : Z1 = (1 : Rat)) {x3 x4 : Rat} : ((((x3 * Z1) + (x4 * Z0)) + Z0) / Z1) = ((((x3 * Z1) + (x4 * Z0)) + (Z1 * Z0)) / Z1) := by
  subst Y0 Y1
  grind

theorem FrameSlopes_al26 {Z0 Z1 : Rat} (Y0 : Z0 = (0 : Rat)) (Y1 : Z1 = (1 : Rat)) {x4 x3 : Rat}  : x4 = ((((x3 * Z0) + (x4 * Z1)) + Z0) / Z1) := by
  subst Y0 Y1
  grind

theorem FrameSlopes_al27 {Z0 Z1 : Rat} (Y0 : Z0 = (0 : Rat)) (Y1 : Z1 = (1 : Rat)) {x3 x4 : Rat} : ((((x3 * Z0) + (x4 * Z1)) + Z0) / Z1) = ((((x3 * Z0) + (x4 * Z1)) + (Z1 * Z0)) / Z1) := by
  subst Y0 Y1
  grind

theorem FrameSlopes_al29 {Z0 Z1 : Rat} (Y0 : Z0 = (0 : Rat)) (Y1 : Z1 = (1 : Rat)) {x5 x3 x4 : Rat}  : x5 = (((x3 * Z0) + (x4 * Z0)) + (x5 * Z1)) := by
  subst Y0 Y1
  grind

theorem FrameSlopes_al32 {Z0 Z1 : Rat} (Y0 : Z0 = (0 : Rat)) (Y1 : Z1 = (1 : Rat)) {x3 x0 x4 x1 x5 x2 q1 q3 : Rat} (e1 : q1 = (((x0 * x0) + (x1 * x1)) + (x2 * x2))) (e3 : q3 = ((((Z0 - x0) * (Z0 - x0)) + ((Z0 - x1) * (Z0 - x1))) + ((Z1 - x2) * (Z1 - x2)))) (c2 : q1 = Z1) (c4 : q3 = Z0) (z5 : (Z0 - x0) = Z0) (z6 : (Z0 - x1) = Z0) (z7 : (Z1 - x2) = Z0) (c30 : x5 = Z0) : Z0 = (((x3 * x0) + (x4 * x1)) + (x5 * x2)) := by
  subst Y0 Y1 e1 e3
  grind

theorem FrameSlopes_al36 {Z0 Z1 : Rat} (Y0 : Z0 = (0 : Rat)) (Y1 : Z1 = (1 : Rat)) {x5 x3 x0 x4 x1 x2 q1 q3 : Rat} (e1 : q1 = (((x0 * x0) + (x1 * x1)) + (x2 * x2))) (e3 : q3 = ((((Z0 - x0) * (Z0 - x0)) + ((Z0 - x1) * (Z0 - x1))) + ((Z1 - x2) * (Z1 - x2)))) (c2 : q1 = Z1) (c4 : q3 = Z0) (z5 : (Z0 - x0) = Z0) (z6 : (Z0 - x1) = Z0) (z7 : (Z1 - x2) = Z0) (c30 : ¬x5 = Z0) : x5 = (((x3 * x0) + (x4 * x1)) + (x5 * x2)) := by
  subst Y0 Y1 e1 e3
  grind

theorem FrameSlopes_al45 {Z0 Z1 : Rat} (Y0 : Z0 = (0 : Rat)) (Y1 : Z1 = (1 : Rat)) {q40 x6 x5 q38 x3 q39 x4 : Rat} (e40 : q40 = (x6 * x5)) (e38 : q38 = (x6 * x3)) (e39 : q39 = (x6 * x4)) (c30 : ¬x5 = Z0) : q40 = (((q38 * Z0) + (q39 * Z0)) + (q40 * Z1)) := by
  subst Y0 Y1 e40 e38 e39
  grind

theorem FrameSlopes_al50 {Z0 Z1 : Rat} (Y0 : Z0 = (0 : Rat)) (Y1 : Z1 = (1 : Rat)) {q33 q34 : Rat} : (((q33 * Z1) + (q34 * Z0)) + Z0) = (((q33 * Z1) + (q34 * Z0)) + (Z1 * Z0)) := by
  subst Y0 Y1
  grind

theorem FrameSlopes_al52 {Z0 Z1 : Rat} (Y0 : Z0 = (0 : Rat)) (Y1 : Z1 = (1 : Rat)) {q33 q34 : Rat} : (((q33 * Z0) + (q34 * Z1)) + Z0) = (((q33 * Z0) + (q34 * Z1)) + (Z1 * Z0)) := by
  subst Y0 Y1
  grind

theorem FrameSlopes_al54 {Z0 Z1 : Rat} (Y0 : Z0 = (0 : Rat)) (Y1 : Z1 = (1 : Rat)) {q33 q34 : Rat} : (((q33 * Z0) + (q34 * Z0)) + Z1) = (((q33 * Z0) + (q34 * Z0)) + (Z1 * Z1)) := by
  subst Y0 Y1
  grind

theorem FrameSlopes_al64 {Z0 Z1 : Rat} (Y0 : Z0 = (0 : Rat)) (Y1 : Z1 = (1 : Rat)) {q58 x5 q49 q33 x3 x4 q34 : Rat} (d33 : q33 * x5 = (((x3 * Z1) + (x4 * Z0)) + (x5 * Z0))) (d34 : q34 * x5 = (((x3 * Z0) + (x4 * Z1)) + (x5 * Z0))) (e49 : q49 = (((q33 * Z1) + (q34 * Z0)) + Z0)) (e58 : q58 = (x5 * q49)) (c30 : ¬x5 = Z0) : q58 = x3 := by
  subst Y0 Y1 e49 e58
  grind

theorem FrameSlopes_al66 {Z0 Z1 : Rat} (Y0 : Z0 = (0 : Rat)) (Y1 : Z1 = (1 : Rat)) {q59 x5 q51 q33 x3 x4 q34 : Rat} (d33 : q33 * x5 = (((x3 * Z1) + (x4 * Z0)) + (x5 * Z0))) (d34 : q34 * x5 = (((x3 * Z0) + (x4 * Z1)) + (x5 * Z0))) (e51 : q51 = (((q33 * Z0) + (q34 * Z1)) + Z0)) (e59 : q59 = (x5 * q51)) (c30 : ¬x5 = Z0) : q59 = x4 := by
  subst Y0 Y1 e51 e59
  grind

theorem FrameSlopes_al68 {Z0 Z1 : Rat} (Y0 : Z0 = (0 : Rat)) (Y1 : Z1 = (1 : Rat)) {q60 x5 q53 q33 x3 x4 q34 : Rat} (d33 : q33 * x5 = (((x3 * Z1) + (x4 * Z0)) + (x5 * Z0))) (d34 : q34 * x5 = (((x3 * Z0) + (x4 * Z1)) + (x5 * Z0))) (e53 : q53 = (((q33 * Z0) + (q34 * Z0)) + Z1)) (e60 : q60 = (x5 * q53)) (c30 : ¬x5 = Z0) : q60 = x5 := by
  subst Y0 Y1 e53 e60
  grind

theorem FrameSlopes_al71 {Z0 Z1 : Rat} (Y0 : Z0 = (0 : Rat)) (Y1 : Z1 = (1 : Rat)) {q33 x3 x4 x5 q38 x6 q39 q40 : Rat} (d33 : q33 * x5 = (((x3 * Z1) + (x4 * Z0)) + (x5 * Z0))) (e38 : q38 = (x6 * x3)) (e39 : q39 = (x6 * x4)) (e40 : q40 = (x6 * x5)) (c30 : ¬x5 = Z0) (c46 : ¬x6 = Z0) : q33 = ((((q38 * Z1) + (q39 * Z0)) + (q40 * Z0)) / q40) := by
  subst Y0 Y1 e38 e39 e40
  grind

theorem FrameSlopes_al73 {Z0 Z1 : Rat} (Y0 : Z0 = (0 : Rat)) (Y1 : Z1 = (1 : Rat)) {q34 x3 x4 x5 q38 x6 q39 q40 : Rat} (d34 : q34 * x5 = (((x3 * Z0) + (x4 * Z1)) + (x5 * Z0))) (e38 : q38 = (x6 * x3)) (e39 : q39 = (x6 * x4)) (e40 : q40 = (x6 * x5)) (c30 : ¬x5 = Z0) (c46 : ¬x6 = Z0) : q34 = ((((q38 * Z0) + (q39 * Z1)) + (q40 * Z0)) / q40) := by
  subst Y0 Y1 e38 e39 e40
  grind

theorem FrameSlopes_al77 {Z0 Z1 : Rat} (Y0 : Z0 = (0 : Rat)) (Y1 : Z1 = (1 : Rat)) {q33 x3 x4 x5 q34 : Rat} (d33 : q33 * x5 = (((x3 * Z1) + (x4 * Z0)) + (x5 * Z0))) (d34 : q34 * x5 = (((x3 * Z0) + (x4 * Z1)) + (x5 * Z0))) (c30 : ¬x5 = Z0) : q33 = (((q33 * Z1) + (q34 * Z0)) + Z0) := by
  subst Y0 Y1
  grind

theorem FrameSlopes_al78 {Z0 Z1 : Rat} (Y0 : Z0 = (0 : Rat)) (Y1 : Z1 = (1 : Rat)) {q33 q34 : Rat} : (((q33 * Z1) + (q34 * Z0)) + Z0) = (((q33 * Z1) + (q34 * Z0)) + (Z1 * Z0)) := by
  subst Y0 Y1
  grind

theorem FrameSlopes_al80 {Z0 Z1 : Rat} (Y0 : Z0 = (0 : Rat)) (Y1 : Z1 = (1 : Rat)) {q34 x3 x4 x5 q33 : Rat} (d34 : q34 * x5 = (((x3 * Z0) + (x4 * Z1)) + (x5 * Z0))) (d33 : q33 * x5 = (((x3 * Z1) + (x4 * Z0)) + (x5 * Z0))) (c30 : ¬x5 = Z0) : q34 = (((q33 * Z0) + (q34 * Z1)) + Z0) := by
  subst Y0 Y1
  grind

theorem FrameSlopes_al81 {Z0 Z1 : Rat} (Y0 : Z0 = (0 : Rat)) (Y1 : Z1 = (1 : Rat)) {q33 q34 : Rat} : (((q33 * Z0) + (q34 * Z1)) + Z0) = (((q33 * Z0) + (q34 * Z1)) + (Z1 * Z0)) := by
  subst Y0 Y1
  grind

theorem FrameSlopes_al83 {Z0 Z1 : Rat} (Y0 : Z0 = (0 : Rat)) (Y1 : Z1 = (1 : Rat)) {q33 x3 x4 x5 q34 : Rat} (d33 : q33 * x5 = (((x3 * Z1) + (x4 * Z0)) + (x5 * Z0))) (d34 : q34 * x5 = (((x3 * Z0) + (x4 * Z1)) + (x5 * Z0))) (c30 : ¬x5 = Z0) : Z1 = (((q33 * Z0) + (q34 * Z0)) + Z1) := by
  subst Y0 Y1
  grind

theorem FrameSlopes_al84 {Z0 Z1 : Rat} (Y0 : Z0 = (0 : Rat)) (Y1 : Z1 = (1 : Rat)) {q33 q34 : Rat} : (((q33 * Z0) + (q34 * Z0)) + Z1) = (((q33 * Z0) + (q34 * Z0)) + (Z1 * Z1)) := by
  subst Y0 Y1
  grind

theorem FrameSlopes_al86 {Z0 Z1 : Rat} (Y0 : Z0 = (0 : Rat)) (Y1 : Z1 = (1 : Rat)) {x3 x5 q33 x4 : Rat} (d33 : q33 * x5 = (((x3 * Z1) + (x4 * Z0)) + (x5 * Z0))) (c30 : ¬x5 = Z0) : x3 = (x5 * q33) := by
  subst Y0 Y1
  grind

theorem FrameSlopes_al88 {Z0 Z1 : Rat} (Y0 : Z0 = (0 : Rat)) (Y1 : Z1 = (1 : Rat)) {x4 x5 q34 x3 : Rat} (d34 : q34 * x5 = (((x3 * Z0) + (x4 * Z1)) + (x5 * Z0))) (c30 : ¬x5 = Z0) : x4 = (x5 * q34) := by
  subst Y0 Y1
  grind

theorem FrameSlopes_al90 {Z0 Z1 : Rat} (Y0 : Z0 = (0 : Rat)) (Y1 : Z1 = (1 : Rat)) {x5 : Rat} (c30 : ¬x5 = Z0) : x5 = (x5 * Z1) := by
  subst Y0 Y1
  grind

theorem FrameSlopes_al95 {Zm2 Z0 Z1 : Rat} (Ym2 : Zm2 = (-2 : Rat)) (Y0 : Z0 = (0 : Rat)) (Y1 : Z1 = (1 : Rat)) {x0 q91 q3 x1 x2 q1 : Rat} (e3 : q3 = ((((Z0 - x0) * (Z0 - x0)) + ((Z0 - x1) * (Z0 - x1))) + ((Z1 - x2) * (Z1 - x2)))) (d91 : q91 * q3 = Zm2) (e1 : q1 = (((x0 * x0) + (x1 * x1)) + (x2 * x2))) (c2 : q1 = Z1) (c4 : ¬q3 = Z0) : x0 = (Z0 + ((q91 * (Z0 - x0)) * (Z1 - x2))) := by
  subst Ym2 Y0 Y1 e3 e1
  grind

theorem FrameSlopes_al97 {Zm2 Z0 Z1 : Rat} (Ym2 : Zm2 = (-2 : Rat)) (Y0 : Z0 = (0 : Rat)) (Y1 : Z1 = (1 : Rat)) {q93 q91 q3 x0 x1 x2 q1 : Rat} (e3 : q3 = ((((Z0 - x0) * (Z0 - x0)) + ((Z0 - x1) * (Z0 - x1))) + ((Z1 - x2) * (Z1 - x2)))) (d91 : q91 * q3 = Zm2) (e93 : q93 = (Z0 + ((q91 * (Z0 - x0)) * (Z0 - x1)))) (e1 : q1 = (((x0 * x0) + (x1 * x1)) + (x2 * x2))) (c2 : q1 = Z1) (c4 : ¬q3 = Z0) : q93 = (Z0 + ((q91 * (Z0 - x1)) * (Z0 - x0))) := by
  subst Ym2 Y0 Y1 e3 e93 e1
  grind

theorem FrameSlopes_al100 {Zm2 Z0 Z1 : Rat} (Ym2 : Zm2 = (-2 : Rat)) (Y0 : Z0 = (0 : Rat)) (Y1 : Z1 = (1 : Rat)) {x1 q91 q3 x0 x2 q1 : Rat} (e3 : q3 = ((((Z0 - x0) * (Z0 - x0)) + ((Z0 - x1) * (Z0 - x1))) + ((Z1 - x2) * (Z1 - x2)))) (d91 : q91 * q3 = Zm2) (e1 : q1 = (((x0 * x0) + (x1 * x1)) + (x2 * x2))) (c2 : q1 = Z1) (c4 : ¬q3 = Z0) : x1 = (Z0 + ((q91 * (Z0 - x1)) * (Z1 - x2))) := by
  subst Ym2 Y0 Y1 e3 e1
  grind

theorem FrameSlopes_al119 {Zm2 Z0 Z1 : Rat} (Ym2 : Zm2 = (-2 : Rat)) (Y0 : Z0 = (0 : Rat)) (Y1 : Z1 = (1 : Rat)) {q112 x3 q92 q91 q3 x0 x1 x2 x4 q93 q113 q98 q114 q1 : Rat} (e3 : q3 = ((((Z0 - x0) * (Z0 - x0)) + ((Z0 - x1) * (Z0 - x1))) + ((Z1 - x2) * (Z1 - x2)))) (d91 : q91 * q3 = Zm2) (e92 : q92 = (Z1 + ((q91 * (Z0 - x0)) * (Z0 - x0)))) (e93 : q93 = (Z0 + ((q91 * (Z0 - x0)) * (Z0 - x1)))) (e112 : q112 = (((x3 * q92) + (x4 * q93)) + (Z1 * x0))) (e98 : q98 = (Z1 + ((q91 * (Z0 - x1)) * (Z0 - x1)))) (e113 : q113 = (((x3 * q93) + (x4 * q98)) + (Z1 * x1))) (e114 : q114 = (((x3 * x0) + (x4 * x1)) + (Z1 * x2))) (e1 : q1 = (((x0 * x0) + (x1 * x1)) + (x2 * x2))) (c2 : q1 = Z1) (c4 : ¬q3 = Z0) : Z1 = (((q112 * x0) + (q113 * x1)) + (q114 * x2)) := by
  subst Ym2 Y0 Y1 e3 e92 e93 e112 e98 e113 e114 e1
  grind

theorem FrameSlopes_al121 {Zm2 Z0 Z1 : Rat} (Ym2 : Zm2 = (-2 : Rat)) (Y0 : Z0 = (0 : Rat)) (Y1 : Z1 = (1 : Rat)) {x3 q112 q92 q91 q3 x0 x1 x2 x4 q93 q113 q98 q114 q1 : Rat} (e3 : q3 = ((((Z0 - x0) * (Z0 - x0)) + ((Z0 - x1) * (Z0 - x1))) + ((Z1 - x2) * (Z1 - x2)))) (d91 : q91 * q3 = Zm2) (e92 : q92 = (Z1 + ((q91 * (Z0 - x0)) * (Z0 - x0)))) (e93 : q93 = (Z0 + ((q91 * (Z0 - x0)) * (Z0 - x1)))) (e112 : q112 = (((x3 * q92) + (x4 * q93)) + (Z1 * x0))) (e98 : q98 = (Z1 + ((q91 * (Z0 - x1)) * (Z0 - x1)))) (e113 : q113 = (((x3 * q93) + (x4 * q98)) + (Z1 * x1))) (e114 : q114 = (((x3 * x0) + (x4 * x1)) + (Z1 * x2))) (e1 : q1 = (((x0 * x0) + (x1 * x1)) + (x2 * x2))) (c2 : q1 = Z1) (c4 : ¬q3 = Z0) : x3 = ((((q112 * q92) + (q113 * q93)) + (q114 * x0)) / Z1) := by
  subst Ym2 Y0 Y1 e3 e92 e93 e112 e98 e113 e114 e1
  grind

theorem FrameSlopes_al123 {Zm2 Z0 Z1 : Rat} (Ym2 : Zm2 = (-2 : Rat)) (Y0 : Z0 = (0 : Rat)) (Y1 : Z1 = (1 : Rat)) {x4 q112 x3 q92 q91 q3 x0 x1 x2 q93 q113 q98 q114 q1 : Rat} (e3 : q3 = ((((Z0 - x0) * (Z0 - x0)) + ((Z0 - x1) * (Z0 - x1))) + ((Z1 - x2) * (Z1 - x2)))) (d91 : q91 * q3 = Zm2) (e92 : q92 = (Z1 + ((q91 * (Z0 - x0)) * (Z0 - x0)))) (e93 : q93 = (Z0 + ((q91 * (Z0 - x0)) * (Z0 - x1)))) (e112 : q112 = (((x3 * q92) + (x4 * q93)) + (Z1 * x0))) (e98 : q98 = (Z1 + ((q91 * (Z0 - x1)) * (Z0 - x1)))) (e113 : q113 = (((x3 * q93) + (x4 * q98)) + (Z1 * x1))) (e114 : q114 = (((x3 * x0) + (x4 * x1)) + (Z1 * x2))) (e1 : q1 = (((x0 * x0) + (x1 * x1)) + (x2 * x2))) (c2 : q1 = Z1) (c4 : ¬q3 = Z0) : x4 = ((((q112 * q93) + (q113 * q98)) + (q114 * x1)) / Z1) := by
  subst Ym2 Y0 Y1 e3 e92 e93 e112 e98 e113 e114 e1
  grind

theorem FrameSlopes_al141 {Z0 Z1 : Rat} (Y0 : Z0 = (0 : Rat)) (Y1 : Z1 = (1 : Rat)) {x6 q1 x0 x1 x2 q3 q126 x3 x4 x5 q138 q132 q133 q134 : Rat} (e1 : q1 = (((x0 * x0) + (x1 * x1)) + (x2 * x2))) (e3 : q3 = ((((Z0 - x0) * (Z0 - x0)) + ((Z0 - x1) * (Z0 - x1))) + ((Z1 - x2) * (Z1 - x2)))) (e126 : q126 = (((x3 * x0) + (x4 * x1)) + (x5 * x2))) (e132 : q132 = (x6 * x3)) (e133 : q133 = (x6 * x4)) (e134 : q134 = (x6 * x5)) (e138 : q138 = (((q132 * x0) + (q133 * x1)) + (q134 * x2))) (c2 : q1 = Z1) (c4 : ¬q3 = Z0) (c127 : ¬q126 = Z0) (c139 : q138 = Z0) : (x6 = Z0) := by
  subst Y0 Y1 e1 e3 e126 e132 e133 e134 e138
  grind

theorem FrameSlopes_al151 {Zm2 Z0 Z1 : Rat} (Ym2 : Zm2 = (-2 : Rat)) (Y0 : Z0 = (0 : Rat)) (Y1 : Z1 = (1 : Rat)) {x3 q126 x0 x4 x1 x5 x2 q144 q129 q92 q91 q3 q93 q130 q98 q1 q138 q132 x6 q133 q134 : Rat} (e126 : q126 = (((x3 * x0) + (x4 * x1)) + (x5 * x2))) (e3 : q3 = ((((Z0 - x0) * (Z0 - x0)) + ((Z0 - x1) * (Z0 - x1))) + ((Z1 - x2) * (Z1 - x2)))) (d91 : q91 * q3 = Zm2) (e92 : q92 = (Z1 + ((q91 * (Z0 - x0)) * (Z0 - x0)))) (e93 : q93 = (Z0 + ((q91 * (Z0 - x0)) * (Z0 - x1)))) (d129 : q129 * q126 = (((x3 * q92) + (x4 * q93)) + (x5 * x0))) (e98 : q98 = (Z1 + ((q91 * (Z0 - x1)) * (Z0 - x1)))) (d130 : q130 * q126 = (((x3 * q93) + (x4 * q98)) + (x5 * x1))) (e144 : q144 = (((q129 * q92) + (q130 * q93)) + (Z1 * x0))) (e1 : q1 = (((x0 * x0) + (x1 * x1)) + (x2 * x2))) (e132 : q132 = (x6 * x3)) (e133 : q133 = (x6 * x4)) (e134 : q134 = (x6 * x5)) (e138 : q138 = (((q132 * x0) + (q133 * x1)) + (q134 * x2))) (c2 : q1 = Z1) (c4 : ¬q3 = Z0) (c127 : ¬q126 = Z0) (c139 : q138 = Z0) (c140 : x6 = Z0) : x3 = (q126 * q144) := by
  subst Ym2 Y0 Y1 e126 e3 e92 e93 e98 e144 e1 e132 e133 e134 e138
  grind

theorem FrameSlopes_al153 {Zm2 Z0 Z1 : Rat} (Ym2 : Zm2 = (-2 : Rat)) (Y0 : Z0 = (0 : Rat)) (Y1 : Z1 = (1 : Rat)) {x4 q126 x3 x0 x1 x5 x2 q145 q129 q92 q91 q3 q93 q130 q98 q1 q138 q132 x6 q133 q134 : Rat} (e126 : q126 = (((x3 * x0) + (x4 * x1)) + (x5 * x2))) (e3 : q3 = ((((Z0 - x0) * (Z0 - x0)) + ((Z0 - x1) * (Z0 - x1))) + ((Z1 - x2) * (Z1 - x2)))) (d91 : q91 * q3 = Zm2) (e92 : q92 = (Z1 + ((q91 * (Z0 - x0)) * (Z0 - x0)))) (e93 : q93 = (Z0 + ((q91 * (Z0 - x0)) * (Z0 - x1)))) (d129 : q129 * q126 = (((x3 * q92) + (x4 * q93)) + (x5 * x0))) (e98 : q98 = (Z1 + ((q91 * (Z0 - x1)) * (Z0 - x1)))) (d130 : q130 * q126 = (((x3 * q93) + (x4 * q98)) + (x5 * x1))) (e145 : q145 = (((q129 * q93) + (q130 * q98)) + (Z1 * x1))) (e1 : q1 = (((x0 * x0) + (x1 * x1)) + (x2 * x2))) (e132 : q132 = (x6 * x3)) (e133 : q133 = (x6 * x4)) (e134 : q134 = (x6 * x5)) (e138 : q138 = (((q132 * x0) + (q133 * x1)) + (q134 * x2))) (c2 : q1 = Z1) (c4 : ¬q3 = Z0) (c127 : ¬q126 = Z0) (c139 : q138 = Z0) (c140 : x6 = Z0) : x4 = (q126 * q145) := by
  subst Ym2 Y0 Y1 e126 e3 e92 e93 e98 e145 e1 e132 e133 e134 e138
  grind

theorem FrameSlopes_al155 {Zm2 Z0 Z1 : Rat} (Ym2 : Zm2 = (-2 : Rat)) (Y0 : Z0 = (0 : Rat)) (Y1 : Z1 = (1 : Rat)) {x5 q126 x3 x0 x4 x1 x2 q146 q129 q92 q91 q3 q93 q130 q98 q1 q138 q132 x6 q133 q134 : Rat} (e126 : q126 = (((x3 * x0) + (x4 * x1)) + (x5 * x2))) (e3 : q3 = ((((Z0 - x0) * (Z0 - x0)) + ((Z0 - x1) * (Z0 - x1))) + ((Z1 - x2) * (Z1 - x2)))) (d91 : q91 * q3 = Zm2) (e92 : q92 = (Z1 + ((q91 * (Z0 - x0)) * (Z0 - x0)))) (e93 : q93 = (Z0 + ((q91 * (Z0 - x0)) * (Z0 - x1)))) (d129 : q129 * q126 = (((x3 * q92) + (x4 * q93)) + (x5 * x0))) (e98 : q98 = (Z1 + ((q91 * (Z0 - x1)) * (Z0 - x1)))) (d130 : q130 * q126 = (((x3 * q93) + (x4 * q98)) + (x5 * x1))) (e146 : q146 = (((q129 * x0) + (q130 * x1)) + (Z1 * x2))) (e1 : q1 = (((x0 * x0) + (x1 * x1)) + (x2 * x2))) (e132 : q132 = (x6 * x3)) (e133 : q133 = (x6 * x4)) (e134 : q134 = (x6 * x5)) (e138 : q138 = (((q132 * x0) + (q133 * x1)) + (q134 * x2))) (c2 : q1 = Z1) (c4 : ¬q3 = Z0) (c127 : ¬q126 = Z0) (c139 : q138 = Z0) (c140 : x6 = Z0) : x5 = (q126 * q146) := by
  subst Ym2 Y0 Y1 e126 e3 e92 e93 e98 e146 e1 e132 e133 e134 e138
  grind

theorem FrameSlopes_al158 {Zm2 Z0 Z1 : Rat} (Ym2 : Zm2 = (-2 : Rat)) (Y0 : Z0 = (0 : Rat)) (Y1 : Z1 = (1 : Rat)) {q129 x3 q92 q91 q3 x0 x1 x2 x4 q93 x5 q126 q132 x6 q133 q134 q138 q1 : Rat} (e3 : q3 = ((((Z0 - x0) * (Z0 - x0)) + ((Z0 - x1) * (Z0 - x1))) + ((Z1 - x2) * (Z1 - x2)))) (d91 : q91 * q3 = Zm2) (e92 : q92 = (Z1 + ((q91 * (Z0 - x0)) * (Z0 - x0)))) (e93 : q93 = (Z0 + ((q91 * (Z0 - x0)) * (Z0 - x1)))) (e126 : q126 = (((x3 * x0) + (x4 * x1)) + (x5 * x2))) (d129 : q129 * q126 = (((x3 * q92) + (x4 * q93)) + (x5 * x0))) (e132 : q132 = (x6 * x3)) (e133 : q133 = (x6 * x4)) (e134 : q134 = (x6 * x5)) (e138 : q138 = (((q132 * x0) + (q133 * x1)) + (q134 * x2))) (e1 : q1 = (((x0 * x0) + (x1 * x1)) + (x2 * x2))) (c2 : q1 = Z1) (c4 : ¬q3 = Z0) (c127 : ¬q126 = Z0) (c139 : ¬q138 = Z0) : q129 = ((((q132 * q92) + (q133 * q93)) + (q134 * x0)) / q138) := by
  subst Ym2 Y0 Y1 e3 e92 e93 e126 e132 e133 e134 e138 e1
  grind

theorem FrameSlopes_al160 {Zm2 Z0 Z1 : Rat} (Ym2 : Zm2 = (-2 : Rat)) (Y0 : Z0 = (0 : Rat)) (Y1 : Z1 = (1 : Rat)) {q130 x3 q93 q91 q3 x0 x1 x2 x4 q98 x5 q126 q132 x6 q133 q134 q138 q1 : Rat} (e3 : q3 = ((((Z0 - x0) * (Z0 - x0)) + ((Z0 - x1) * (Z0 - x1))) + ((Z1 - x2) * (Z1 - x2)))) (d91 : q91 * q3 = Zm2) (e93 : q93 = (Z0 + ((q91 * (Z0 - x0)) * (Z0 - x1)))) (e98 : q98 = (Z1 + ((q91 * (Z0 - x1)) * (Z0 - x1)))) (e126 : q126 = (((x3 * x0) + (x4 * x1)) + (x5 * x2))) (d130 : q130 * q126 = (((x3 * q93) + (x4 * q98)) + (x5 * x1))) (e132 : q132 = (x6 * x3)) (e133 : q133 = (x6 * x4)) (e134 : q134 = (x6 * x5)) (e138 : q138 = (((q132 * x0) + (q133 * x1)) + (q134 * x2))) (e1 : q1 = (((x0 * x0) + (x1 * x1)) + (x2 * x2))) (c2 : q1 = Z1) (c4 : ¬q3 = Z0) (c127 : ¬q126 = Z0) (c139 : ¬q138 = Z0) : q130 = ((((q132 * q93) + (q133 * q98)) + (q134 * x1)) / q138) := by
  subst Ym2 Y0 Y1 e3 e93 e98 e126 e132 e133 e134 e138 e1
  grind

theorem FrameSlopes_al162 {Z0 Z1 : Rat} (Y0 : Z0 = (0 : Rat)) (Y1 : Z1 = (1 : Rat)) {x6 q1 x0 x1 x2 q3 q126 x3 x4 x5 q138 q132 q133 q134 : Rat} (e1 : q1 = (((x0 * x0) + (x1 * x1)) + (x2 * x2))) (e3 : q3 = ((((Z0 - x0) * (Z0 - x0)) + ((Z0 - x1) * (Z0 - x1))) + ((Z1 - x2) * (Z1 - x2)))) (e126 : q126 = (((x3 * x0) + (x4 * x1)) + (x5 * x2))) (e132 : q132 = (x6 * x3)) (e133 : q133 = (x6 * x4)) (e134 : q134 = (x6 * x5)) (e138 : q138 = (((q132 * x0) + (q133 * x1)) + (q134 * x2))) (c2 : q1 = Z1) (c4 : ¬q3 = Z0) (c127 : ¬q126 = Z0) (c139 : ¬q138 = Z0) : ¬(x6 = Z0) := by
  subst Y0 Y1 e1 e3 e126 e132 e133 e134 e138
  grind

theorem FrameSlopes_al172 {Zm2 Z0 Z1 : Rat} (Ym2 : Zm2 = (-2 : Rat)) (Y0 : Z0 = (0 : Rat)) (Y1 : Z1 = (1 : Rat)) {x3 q126 x0 x4 x1 x5 x2 q165 q129 q92 q91 q3 q93 q130 q98 q1 q138 q132 x6 q133 q134 : Rat} (e126 : q126 = (((x3 * x0) + (x4 * x1)) + (x5 * x2))) (e3 : q3 = ((((Z0 - x0) * (Z0 - x0)) + ((Z0 - x1) * (Z0 - x1))) + ((Z1 - x2) * (Z1 - x2)))) (d91 : q91 * q3 = Zm2) (e92 : q92 = (Z1 + ((q91 * (Z0 - x0)) * (Z0 - x0)))) (e93 : q93 = (Z0 + ((q91 * (Z0 - x0)) * (Z0 - x1)))) (d129 : q129 * q126 = (((x3 * q92) + (x4 * q93)) + (x5 * x0))) (e98 : q98 = (Z1 + ((q91 * (Z0 - x1)) * (Z0 - x1)))) (d130 : q130 * q126 = (((x3 * q93) + (x4 * q98)) + (x5 * x1))) (e165 : q165 = (((q129 * q92) + (q130 * q93)) + (Z1 * x0))) (e1 : q1 = (((x0 * x0) + (x1 * x1)) + (x2 * x2))) (e132 : q132 = (x6 * x3)) (e133 : q133 = (x6 * x4)) (e134 : q134 = (x6 * x5)) (e138 : q138 = (((q132 * x0) + (q133 * x1)) + (q134 * x2))) (c2 : q1 = Z1) (c4 : ¬q3 = Z0) (c127 : ¬q126 = Z0) (c139 : ¬q138 = Z0) (c161 : ¬x6 = Z0) : x3 = (q126 * q165) := by
  subst Ym2 Y0 Y1 e126 e3 e92 e93 e98 e165 e1 e132 e133 e134 e138
  grind

theorem FrameSlopes_al174 {Zm2 Z0 Z1 : Rat} (Ym2 : Zm2 = (-2 : Rat)) (Y0 : Z0 = (0 : Rat)) (Y1 : Z1 = (1 : Rat)) {x4 q126 x3 x0 x1 x5 x2 q166 q129 q92 q91 q3 q93 q130 q98 q1 q138 q132 x6 q133 q134 : Rat} (e126 : q126 = (((x3 * x0) + (x4 * x1)) + (x5 * x2))) (e3 : q3 = ((((Z0 - x0) * (Z0 - x0)) + ((Z0 - x1) * (Z0 - x1))) + ((Z1 - x2) * (Z1 - x2)))) (d91 : q91 * q3 = Zm2) (e92 : q92 = (Z1 + ((q91 * (Z0 - x0)) * (Z0 - x0)))) (e93 : q93 = (Z0 + ((q91 * (Z0 - x0)) * (Z0 - x1)))) (d129 : q129 * q126 = (((x3 * q92) + (x4 * q93)) + (x5 * x0))) (e98 : q98 = (Z1 + ((q91 * (Z0 - x1)) * (Z0 - x1)))) (d130 : q130 * q126 = (((x3 * q93) + (x4 * q98)) + (x5 * x1))) (e166 : q166 = (((q129 * q93) + (q130 * q98)) + (Z1 * x1))) (e1 : q1 = (((x0 * x0) + (x1 * x1)) + (x2 * x2))) (e132 : q132 = (x6 * x3)) (e133 : q133 = (x6 * x4)) (e134 : q134 = (x6 * x5)) (e138 : q138 = (((q132 * x0) + (q133 * x1)) + (q134 * x2))) (c2 : q1 = Z1) (c4 : ¬q3 = Z0) (c127 : ¬q126 = Z0) (c139 : ¬q138 = Z0) (c161 : ¬x6 = Z0) : x4 = (q126 * q166) := by
  subst Ym2 Y0 Y1 e126 e3 e92 e93 e98 e166 e1 e132 e133 e134 e138
  grind

theorem FrameSlopes_al176 {Zm2 Z0 Z1 : Rat} (Ym2 : Zm2 = (-2 : Rat)) (Y0 : Z0 = (0 : Rat)) (Y1 : Z1 = (1 : Rat)) {x5 q126 x3 x0 x4 x1 x2 q167 q129 q92 q91 q3 q93 q130 q98 q1 q138 q132 x6 q133 q134 : Rat} (e126 : q126 = (((x3 * x0) + (x4 * x1)) + (x5 * x2))) (e3 : q3 = ((((Z0 - x0) * (Z0 - x0)) + ((Z0 - x1) * (Z0 - x1))) + ((Z1 - x2) * (Z1 - x2)))) (d91 : q91 * q3 = Zm2) (e92 : q92 = (Z1 + ((q91 * (Z0 - x0)) * (Z0 - x0)))) (e93 : q93 = (Z0 + ((q91 * (Z0 - x0)) * (Z0 - x1)))) (d129 : q129 * q126 = (((x3 * q92) + (x4 * q93)) + (x5 * x0))) (e98 : q98 = (Z1 + ((q91 * (Z0 - x1)) * (Z0 - x1)))) (d130 : q130 * q126 = (((x3 * q93) + (x4 * q98)) + (x5 * x1))) (e167 : q167 = (((q129 * x0) + (q130 * x1)) + (Z1 * x2))) (e1 : q1 = (((x0 * x0) + (x1 * x1)) + (x2 * x2))) (e132 : q132 = (x6 * x3)) (e133 : q133 = (x6 * x4)) (e134 : q134 = (x6 * x5)) (e138 : q138 = (((q132 * x0) + (q133 * x1)) + (q134 * x2))) (c2 : q1 = Z1) (c4 : ¬q3 = Z0) (c127 : ¬q126 = Z0) (c139 : ¬q138 = Z0) (c161 : ¬x6 = Z0) : x5 = (q126 * q167) := by
  subst Ym2 Y0 Y1 e126 e3 e92 e93 e98 e167 e1 e132 e133 e134 e138
  grind

theorem pure_FrameSlopes {r0 r1 r2 r3 r4 r5 r6 : RR} (g0 : r0.ok 1048576) (g1 : r1.ok 1048576) (g2 : r2.ok 1048576) (g3 : r3.ok 1048576) (g4 : r4.ok 1048576) (g5 : r5.ok 1048576) (g6 : r6.ok 1048576) : PureCalls prog F.penumbralaw06_FrameSlopes [.agg ([.bool r0.neg, nl r0.num, nl r0.den, .bool r1.neg, nl r1.num, nl r1.den, .bool r2.neg, nl r2.num, nl r2.den]), .agg ([.bool r3.neg, nl r3.num, nl r3.den, .bool r4.neg, nl r4.num, nl r4.den, .bool r5.neg, nl r5.num, nl r5.den]), .agg ([.bool r6.neg, nl r6.num, nl r6.den])] [.one (.bool true)] := by
  obtain ⟨Zm2, Ym2⟩ := ex_eq (-2 : Rat)
  obtain ⟨Z0, Y0⟩ := ex_eq (0 : Rat)
  obtain ⟨Z1, Y1⟩ := ex_eq (1 : Rat)
  obtain ⟨x0, h0⟩ := Num.raw g0 (by decide)
  obtain ⟨x1, h1⟩ := Num.raw g1 (by decide)
  obtain ⟨x2, h2⟩ := Num.raw g2 (by decide)
  obtain ⟨x3, h3⟩ := Num.raw g3 (by decide)
  obtain ⟨x4, h4⟩ := Num.raw g4 (by decide)
  obtain ⟨x5, h5⟩ := Num.raw g5 (by decide)
  obtain ⟨x6, h6⟩ := Num.raw g6 (by decide)
  refine symFunc_sound hmix tree_penumbralaw06_FrameSlopes (by kernel_rfl) rfl ?_
  unfold ir_penumbralaw06_FrameSlopes
  simp only [fa_agg, fa_one, fa_nil, List.cons_append, List.nil_append, List.append_nil]
  obtain ⟨q1, e1⟩ := ex_eq (((x0 * x0) + (x1 * x1)) + (x2 * x2))
  by_cases c2 : q1 = Z1
  · skip
    obtain ⟨q3, e3⟩ := ex_eq ((((Z0 - x0) * (Z0 - x0)) + ((Z0 - x1) * (Z0 - x1))) + ((Z1 - x2) * (Z1 - x2)))
    by_cases c4 : q3 = Z0
    · skip
      have z5 : (Z0 - x0) = Z0 := sq3_0 Y0 (e3.symm.trans c4)
      have z6 : (Z0 - x1) = Z0 := sq3_1 Y0 (e3.symm.trans c4)
      have z7 : (Z1 - x2) = Z0 := sq3_2 Y0 (e3.symm.trans c4)
      refine call_step (n_frame_Of_0 (k0 := q1) (k1 := q3) Ym2 Y0 Y1 (h0.mono (by decide)) (h1.mono (by decide)) (h2.mono (by decide)) e1 e3 c2 c4) rfl ?_
      simp only [fa_agg, fa_one, fa_nil, List.cons_append, List.nil_append, List.append_nil]
      refine call_step n_penumbralaw06_fixed rfl ?_
      simp only [fa_agg, fa_one, fa_nil, List.cons_append, List.nil_append, List.append_nil]
      refine primS (.bool false) rfl ?_
      refine itF rfl ?_
      refine primS (.bool false) rfl ?_
      refine itF rfl ?_
      have m8 : Num 1 (cr Z1) Z1 := Num.c Y1 (by decide +kernel) (by decide +kernel)
      have m9 : Num 1 (cr Z0) Z0 := Num.c Y0 (by decide +kernel) (by decide +kernel)
      have u10 : x3 = (((x3 * Z1) + (x4 * Z0)) + Z0) := (FrameSlopes_al11 Y0 Y1)
      have u13 : x4 = (((x3 * Z0) + (x4 * Z1)) + Z0) := (FrameSlopes_al14 Y0 Y1)
      have u16 : Z1 = (((x3 * Z0) + (x4 * Z0)) + Z1) := (FrameSlopes_al17 Y0 Y1)
      refine call_step (n_frame_Along_0 (k0 := x3) (k1 := x4) (k2 := Z1) Y1 (m8.mono (by decide)) (m9.mono (by decide)) (m9.mono (by decide)) (m9.mono (by decide)) (m8.mono (by decide)) (m9.mono (by decide)) (m9.mono (by decide)) (m9.mono (by decide)) (m8.mono (by decide)) (h3.mono (by decide)) (h4.mono (by decide)) (u10.trans (FrameSlopes_al12 Y0 Y1)) (u13.trans (FrameSlopes_al15 Y0 Y1)) (u16.trans (FrameSlopes_al18 Y0 Y1))) rfl ?_
      simp only [fa_agg, fa_one, fa_nil, List.cons_append, List.nil_append, List.append_nil]
      have m19 : Num 1048576 (cr x3) x3 := Num.of h3.sm
      have m20 : Num 1048576 (cr x4) x4 := Num.of h4.sm
      have u22 : x3 = ((((x3 * Z1) + (x4 * Z0)) + Z0) / Z1) := (FrameSlopes_al23 Y0 Y1)
      have u25 : x4 = ((((x3 * Z0) + (x4 * Z1)) + Z0) / Z1) := (FrameSlopes_al26 Y0 Y1)
      refine call_step (n_frame_Slopes_1 (k0 := Z1) (k1 := x3) (k2 := x4) Y0 (m8.mono (by decide)) (m9.mono (by decide)) (m9.mono (by decide)) (m9.mono (by decide)) (m8.mono (by decide)) (m9.mono (by decide)) (m9.mono (by decide)) (m9.mono (by decide)) (m8.mono (by decide)) (m19.mono (by decide)) (m20.mono (by decide)) (m8.mono (by decide)) (u16.trans (FrameSlopes_al21 Y0 Y1)) (u22.trans (FrameSlopes_al24 Y0 Y1)) (u25.trans (FrameSlopes_al27 Y0 Y1)) (show ¬(Z1 = Z0) by rw [Y1, Y0] <;> decide +kernel)) rfl ?_
      simp only [fa_agg, fa_one, fa_nil, List.cons_append, List.nil_append, List.append_nil]
      refine primS (.bool false) rfl ?_
      refine itF rfl ?_
      refine call_step (n_rat_Read (h3.mono (by decide))) rfl ?_
      simp only [fa_agg, fa_one, fa_nil, List.cons_append, List.nil_append, List.append_nil]
      refine call_step (n_penumbraref03_Is_t (m19.mono (by decide)) (m19.mono (by decide)) rfl) rfl ?_
      simp only [fa_agg, fa_one, fa_nil, List.cons_append, List.nil_append, List.append_nil]
      refine primS (.bool false) rfl ?_
      refine itF rfl ?_
      refine call_step (n_rat_Read (h4.mono (by decide))) rfl ?_
      simp only [fa_agg, fa_one, fa_nil, List.cons_append, List.nil_append, List.append_nil]
      refine call_step (n_penumbraref03_Is_t (m20.mono (by decide)) (m20.mono (by decide)) rfl) rfl ?_
      simp only [fa_agg, fa_one, fa_nil, List.cons_append, List.nil_append, List.append_nil]
      refine primS (.bool false) rfl ?_
      refine itF rfl ?_
      refine call_step (n_penumbraref03_One Y1) rfl ?_
      simp only [fa_agg, fa_one, fa_nil, List.cons_append, List.nil_append, List.append_nil]
      refine call_step (n_penumbraref03_Is_t (m8.mono (by decide)) (m8.mono (by decide)) rfl) rfl ?_
      simp only [fa_agg, fa_one, fa_nil, List.cons_append, List.nil_append, List.append_nil]
      refine primS (.bool false) rfl ?_
      refine itF rfl ?_
      have u28 : x5 = (((x3 * Z0) + (x4 * Z0)) + (x5 * Z1)) := (FrameSlopes_al29 Y0 Y1)
      by_cases c30 : x5 = Z0
      · skip
        refine call_step (n_frame_Slopes_0 (k0 := x5) Y0 (m8.mono (by decide)) (m9.mono (by decide)) (m9.mono (by decide)) (m9.mono (by decide)) (m8.mono (by decide)) (m9.mono (by decide)) (m9.mono (by decide)) (m9.mono (by decide)) (m8.mono (by decide)) (h3.mono (by decide)) (h4.mono (by decide)) (h5.mono (by decide)) u28 c30) rfl ?_
        simp only [fa_agg, fa_one, fa_nil, List.cons_append, List.nil_append, List.append_nil]
        have u31 : Z0 = (((x3 * x0) + (x4 * x1)) + (x5 * x2)) := (FrameSlopes_al32 Y0 Y1 e1 e3 c2 c4 z5 z6 z7 c30)
        refine call_step (n_vec_Dot_0 (k0 := Z0) (h3.mono (by decide)) (h4.mono (by decide)) (h5.mono (by decide)) (h0.mono (by decide)) (h1.mono (by decide)) (h2.mono (by decide)) u31) rfl ?_
        simp only [fa_agg, fa_one, fa_nil, List.cons_append, List.nil_append, List.append_nil]
        refine call_step (n_rat_Sign (m9.mono (by decide))) rfl ?_
        simp only [fa_agg, fa_one, fa_nil, List.cons_append, List.nil_append, List.append_nil]
        refine primS (.bool false) (cs_neq_f ((sg_eq Y0).2 rfl)) ?_
        refine primS (.bool false) rfl ?_
        refine itF rfl ?_
        refine primS (.bool true) rfl ?_
        refine itT rfl ?_
        refine call_step (n_vec_Dot_0 (k0 := Z0) (h3.mono (by decide)) (h4.mono (by decide)) (h5.mono (by decide)) (h0.mono (by decide)) (h1.mono (by decide)) (h2.mono (by decide)) u31) rfl ?_
        simp only [fa_agg, fa_one, fa_nil, List.cons_append, List.nil_append, List.append_nil]
        refine call_step (n_rat_Sign (m9.mono (by decide))) rfl ?_
        simp only [fa_agg, fa_one, fa_nil, List.cons_append, List.nil_append, List.append_nil]
        refine primS (.bool false) (cs_neq_f ((sg_eq Y0).2 rfl)) ?_
        refine primS (.bool true) rfl ?_
        exact ret_step rfl
      · skip
        obtain ⟨q33, e33⟩ := ex_eq ((((x3 * Z1) + (x4 * Z0)) + (x5 * Z0)) / x5)
        have d33 := div_mul Y0 e33 c30
        obtain ⟨q34, e34⟩ := ex_eq ((((x3 * Z0) + (x4 * Z1)) + (x5 * Z0)) / x5)
        have d34 := div_mul Y0 e34 c30
        refine call_step (n_frame_Slopes_1 (k0 := x5) (k1 := q33) (k2 := q34) Y0 (m8.mono (by decide)) (m9.mono (by decide)) (m9.mono (by decide)) (m9.mono (by decide)) (m8.mono (by decide)) (m9.mono (by decide)) (m9.mono (by decide)) (m9.mono (by decide)) (m8.mono (by decide)) (h3.mono (by decide)) (h4.mono (by decide)) (h5.mono (by decide)) u28 e33 e34 c30) rfl ?_
        simp only [fa_agg, fa_one, fa_nil, List.cons_append, List.nil_append, List.append_nil]
        have u35 : x5 = (((x3 * x0) + (x4 * x1)) + (x5 * x2)) := (FrameSlopes_al36 Y0 Y1 e1 e3 c2 c4 z5 z6 z7 c30)
        refine call_step (n_vec_Dot_0 (k0 := x5) (h3.mono (by decide)) (h4.mono (by decide)) (h5.mono (by decide)) (h0.mono (by decide)) (h1.mono (by decide)) (h2.mono (by decide)) u35) rfl ?_
        simp only [fa_agg, fa_one, fa_nil, List.cons_append, List.nil_append, List.append_nil]
        have m37 : Num 1048576 (cr x5) x5 := Num.of h5.sm
        refine call_step (n_rat_Sign (m37.mono (by decide))) rfl ?_
        simp only [fa_agg, fa_one, fa_nil, List.cons_append, List.nil_append, List.append_nil]
        refine primS (.bool true) (cs_neq_t (fun z => c30 ((sg_eq Y0).1 z))) ?_
        refine primS (.bool false) rfl ?_
        refine itF rfl ?_
        refine primS (.bool false) rfl ?_
        refine itF rfl ?_
        obtain ⟨q38, e38⟩ := ex_eq (x6 * x3)
        obtain ⟨q39, e39⟩ := ex_eq (x6 * x4)
        obtain ⟨q40, e40⟩ := ex_eq (x6 * x5)
        refine call_step (n_vec_Scale_0 (k0 := q38) (k1 := q39) (k2 := q40) (h6.mono (by decide)) (h3.mono (by decide)) (h4.mono (by decide)) (h5.mono (by decide)) e38 e39 e40) rfl ?_
        simp only [fa_agg, fa_one, fa_nil, List.cons_append, List.nil_append, List.append_nil]
        have m41 : Num 2097152 (cr q38) q38 := Num.eqn e38 (Sm.mul h6.sm h3.sm)
        have m42 : Num 2097152 (cr q39) q39 := Num.eqn e39 (Sm.mul h6.sm h4.sm)
        have m43 : Num 2097152 (cr q40) q40 := Num.eqn e40 (Sm.mul h6.sm h5.sm)
        have u44 : q40 = (((q38 * Z0) + (q39 * Z0)) + (q40 * Z1)) := (FrameSlopes_al45 Y0 Y1 e40 e38 e39 c30)
        by_cases c46 : x6 = Z0
        · skip
          refine call_step (n_frame_Slopes_0 (k0 := q40) Y0 (m8.mono (by decide)) (m9.mono (by decide)) (m9.mono (by decide)) (m9.mono (by decide)) (m8.mono (by decide)) (m9.mono (by decide)) (m9.mono (by decide)) (m9.mono (by decide)) (m8.mono (by decide)) (m41.mono (by decide)) (m42.mono (by decide)) (m43.mono (by decide)) u44 (s_mul_0x Y0 e40 c46)) rfl ?_
          simp only [fa_agg, fa_one, fa_nil, List.cons_append, List.nil_append, List.append_nil]
          refine call_step (n_rat_Sign (h6.mono (by decide))) rfl ?_
          simp only [fa_agg, fa_one, fa_nil, List.cons_append, List.nil_append, List.append_nil]
          refine primS (.bool false) (cs_neq_f ((sg_eq Y0).2 c46)) ?_
          refine primS (.bool false) rfl ?_
          refine itF rfl ?_
          refine itF rfl ?_
          have m47 : Num 4194309 (cr q33) q33 := Num.eqn e33 (Sm.div (Sm.add (Sm.add (Sm.mul h3.sm m8.sm) (Sm.mul h4.sm m9.sm)) (Sm.mul h5.sm m9.sm)) m37.sm)
          have m48 : Num 4194309 (cr q34) q34 := Num.eqn e34 (Sm.div (Sm.add (Sm.add (Sm.mul h3.sm m9.sm) (Sm.mul h4.sm m8.sm)) (Sm.mul h5.sm m9.sm)) m37.sm)
          obtain ⟨q49, e49⟩ := ex_eq (((q33 * Z1) + (q34 * Z0)) + Z0)
          obtain ⟨q51, e51⟩ := ex_eq (((q33 * Z0) + (q34 * Z1)) + Z0)
          obtain ⟨q53, e53⟩ := ex_eq (((q33 * Z0) + (q34 * Z0)) + Z1)
          refine call_step (n_frame_Along_0 (k0 := q49) (k1 := q51) (k2 := q53) Y1 (m8.mono (by decide)) (m9.mono (by decide)) (m9.mono (by decide)) (m9.mono (by decide)) (m8.mono (by decide)) (m9.mono (by decide)) (m9.mono (by decide)) (m9.mono (by decide)) (m8.mono (by decide)) (m47.mono (by decide)) (m48.mono (by decide)) (e49.trans (FrameSlopes_al50 Y0 Y1)) (e51.trans (FrameSlopes_al52 Y0 Y1)) (e53.trans (FrameSlopes_al54 Y0 Y1))) rfl ?_
          simp only [fa_agg, fa_one, fa_nil, List.cons_append, List.nil_append, List.append_nil]
          have m55 : Num 8388623 (cr q49) q49 := Num.eqn e49 (Sm.add (Sm.add (Sm.mul m47.sm m8.sm) (Sm.mul m48.sm m9.sm)) m9.sm)
          have m56 : Num 8388623 (cr q51) q51 := Num.eqn e51 (Sm.add (Sm.add (Sm.mul m47.sm m9.sm) (Sm.mul m48.sm m8.sm)) m9.sm)
          have m57 : Num 8388623 (cr q53) q53 := Num.eqn e53 (Sm.add (Sm.add (Sm.mul m47.sm m9.sm) (Sm.mul m48.sm m9.sm)) m8.sm)
          obtain ⟨q58, e58⟩ := ex_eq (x5 * q49)
          obtain ⟨q59, e59⟩ := ex_eq (x5 * q51)
          obtain ⟨q60, e60⟩ := ex_eq (x5 * q53)
          refine call_step (n_vec_Scale_0 (k0 := q58) (k1 := q59) (k2 := q60) (m37.mono (by decide)) (m55.mono (by decide)) (m56.mono (by decide)) (m57.mono (by decide)) e58 e59 e60) rfl ?_
          simp only [fa_agg, fa_one, fa_nil, List.cons_append, List.nil_append, List.append_nil]
          refine call_step (n_vec_Read_0 (h3.mono (by decide)) (h4.mono (by decide)) (h5.mono (by decide))) rfl ?_
          simp only [fa_agg, fa_one, fa_nil, List.cons_append, List.nil_append, List.append_nil]
          have m61 : Num 9437199 (cr q58) q58 := Num.eqn e58 (Sm.mul m37.sm m55.sm)
          have m62 : Num 9437199 (cr q59) q59 := Num.eqn e59 (Sm.mul m37.sm m56.sm)
          have m63 : Num 9437199 (cr q60) q60 := Num.eqn e60 (Sm.mul m37.sm m57.sm)
          have c65 : q58 = x3 := (FrameSlopes_al64 Y0 Y1 d33 d34 e49 e58 c30)
          have c67 : q59 = x4 := (FrameSlopes_al66 Y0 Y1 d33 d34 e51 e59 c30)
          have c69 : q60 = x5 := (FrameSlopes_al68 Y0 Y1 d33 d34 e53 e60 c30)
          refine call_step (n_penumbraref05_Is_0 (m61.mono (by decide)) (m62.mono (by decide)) (m63.mono (by decide)) (m19.mono (by decide)) (m20.mono (by decide)) (m37.mono (by decide)) c65 c67 c69) rfl ?_
          simp only [fa_agg, fa_one, fa_nil, List.cons_append, List.nil_append, List.append_nil]
          exact ret_step rfl
        · skip
          have u70 : q33 = ((((q38 * Z1) + (q39 * Z0)) + (q40 * Z0)) / q40) := (FrameSlopes_al71 Y0 Y1 d33 e38 e39 e40 c30 c46)
          have u72 : q34 = ((((q38 * Z0) + (q39 * Z1)) + (q40 * Z0)) / q40) := (FrameSlopes_al73 Y0 Y1 d34 e38 e39 e40 c30 c46)
          refine call_step (n_frame_Slopes_1 (k0 := q40) (k1 := q33) (k2 := q34) Y0 (m8.mono (by decide)) (m9.mono (by decide)) (m9.mono (by decide)) (m9.mono (by decide)) (m8.mono (by decide)) (m9.mono (by decide)) (m9.mono (by decide)) (m9.mono (by decide)) (m8.mono (by decide)) (m41.mono (by decide)) (m42.mono (by decide)) (m43.mono (by decide)) u44 u70 u72 (s_mul_f Y0 e40 c46 c30)) rfl ?_
          simp only [fa_agg, fa_one, fa_nil, List.cons_append, List.nil_append, List.append_nil]
          refine call_step (n_rat_Sign (h6.mono (by decide))) rfl ?_
          simp only [fa_agg, fa_one, fa_nil, List.cons_append, List.nil_append, List.append_nil]
          refine primS (.bool true) (cs_neq_t (fun z => c46 ((sg_eq Y0).1 z))) ?_
          refine primS (.bool false) rfl ?_
          refine itF rfl ?_
          refine itT rfl ?_
          have m74 : Num 4194309 (cr q33) q33 := Num.eqn e33 (Sm.div (Sm.add (Sm.add (Sm.mul h3.sm m8.sm) (Sm.mul h4.sm m9.sm)) (Sm.mul h5.sm m9.sm)) m37.sm)
          refine call_step (n_penumbraref03_Is_t (m74.mono (by decide)) (m74.mono (by decide)) rfl) rfl ?_
          simp only [fa_agg, fa_one, fa_nil, List.cons_append, List.nil_append, List.append_nil]
          refine primS (.bool false) rfl ?_
          refine itF rfl ?_
          have m75 : Num 4194309 (cr q34) q34 := Num.eqn e34 (Sm.div (Sm.add (Sm.add (Sm.mul h3.sm m9.sm) (Sm.mul h4.sm m8.sm)) (Sm.mul h5.sm m9.sm)) m37.sm)
          refine call_step (n_penumbraref03_Is_t (m75.mono (by decide)) (m75.mono (by decide)) rfl) rfl ?_
          simp only [fa_agg, fa_one, fa_nil, List.cons_append, List.nil_append, List.append_nil]
          refine primS (.bool false) rfl ?_
          refine itF rfl ?_
          have u76 : q33 = (((q33 * Z1) + (q34 * Z0)) + Z0) := (FrameSlopes_al77 Y0 Y1 d33 d34 c30)
          have u79 : q34 = (((q33 * Z0) + (q34 * Z1)) + Z0) := (FrameSlopes_al80 Y0 Y1 d34 d33 c30)
          have u82 : Z1 = (((q33 * Z0) + (q34 * Z0)) + Z1) := (FrameSlopes_al83 Y0 Y1 d33 d34 c30)
          refine call_step (n_frame_Along_0 (k0 := q33) (k1 := q34) (k2 := Z1) Y1 (m8.mono (by decide)) (m9.mono (by decide)) (m9.mono (by decide)) (m9.mono (by decide)) (m8.mono (by decide)) (m9.mono (by decide)) (m9.mono (by decide)) (m9.mono (by decide)) (m8.mono (by decide)) (m74.mono (by decide)) (m75.mono (by decide)) (u76.trans (FrameSlopes_al78 Y0 Y1)) (u79.trans (FrameSlopes_al81 Y0 Y1)) (u82.trans (FrameSlopes_al84 Y0 Y1))) rfl ?_
          simp only [fa_agg, fa_one, fa_nil, List.cons_append, List.nil_append, List.append_nil]
          have u85 : x3 = (x5 * q33) := (FrameSlopes_al86 Y0 Y1 d33 c30)
          have u87 : x4 = (x5 * q34) := (FrameSlopes_al88 Y0 Y1 d34 c30)
          have u89 : x5 = (x5 * Z1) := (FrameSlopes_al90 Y0 Y1 c30)
          refine call_step (n_vec_Scale_0 (k0 := x3) (k1 := x4) (k2 := x5) (m37.mono (by decide)) (m74.mono (by decide)) (m75.mono (by decide)) (m8.mono (by decide)) u85 u87 u89) rfl ?_
          simp only [fa_agg, fa_one, fa_nil, List.cons_append, List.nil_append, List.append_nil]
          refine call_step (n_vec_Read_0 (h3.mono (by decide)) (h4.mono (by decide)) (h5.mono (by decide))) rfl ?_
          simp only [fa_agg, fa_one, fa_nil, List.cons_append, List.nil_append, List.append_nil]
          refine call_step (n_penumbraref05_Is_0 (m19.mono (by decide)) (m20.mono (by decide)) (m37.mono (by decide)) (m19.mono (by decide)) (m20.mono (by decide)) (m37.mono (by decide)) rfl rfl rfl) rfl ?_
          simp only [fa_agg, fa_one, fa_nil, List.cons_append, List.nil_append, List.append_nil]
          exact ret_step rfl
    · skip
      obtain ⟨q91, e91⟩ := ex_eq (Zm2 / q3)
      have d91 := div_mul Y0 e91 c4
      obtain ⟨q92, e92⟩ := ex_eq (Z1 + ((q91 * (Z0 - x0)) * (Z0 - x0)))
      obtain ⟨q93, e93⟩ := ex_eq (Z0 + ((q91 * (Z0 - x0)) * (Z0 - x1)))
      have u94 : x0 = (Z0 + ((q91 * (Z0 - x0)) * (Z1 - x2))) := (FrameSlopes_al95 Ym2 Y0 Y1 e3 d91 e1 c2 c4)
      have u96 : q93 = (Z0 + ((q91 * (Z0 - x1)) * (Z0 - x0))) := (FrameSlopes_al97 Ym2 Y0 Y1 e3 d91 e93 e1 c2 c4)
      obtain ⟨q98, e98⟩ := ex_eq (Z1 + ((q91 * (Z0 - x1)) * (Z0 - x1)))
      have u99 : x1 = (Z0 + ((q91 * (Z0 - x1)) * (Z1 - x2))) := (FrameSlopes_al100 Ym2 Y0 Y1 e3 d91 e1 c2 c4)
      refine call_step (n_frame_Of_1 (k0 := q1) (k1 := q3) (k2 := q91) (k3 := q92) (k4 := q93) (k5 := x0) (k6 := q93) (k7 := q98) (k8 := x1) Ym2 Y0 Y1 (h0.mono (by decide)) (h1.mono (by decide)) (h2.mono (by decide)) e1 e3 e91 e92 e93 u94 u96 e98 u99 c2 c4) rfl ?_
      simp only [fa_agg, fa_one, fa_nil, List.cons_append, List.nil_append, List.append_nil]
      refine call_step n_penumbralaw06_fixed rfl ?_
      simp only [fa_agg, fa_one, fa_nil, List.cons_append, List.nil_append, List.append_nil]
      refine primS (.bool false) rfl ?_
      refine itF rfl ?_
      refine primS (.bool false) rfl ?_
      refine itF rfl ?_
      have m102 : Num 1 (cr Z1) Z1 := Num.c Y1 (by decide +kernel) (by decide +kernel)
      have m104 : Num 1 (cr Zm2) Zm2 := Num.c Ym2 (by decide +kernel) (by decide +kernel)
      have m106 : Num 1 (cr Z0) Z0 := Num.c Y0 (by decide +kernel) (by decide +kernel)
      have m105 : Num 6291470 (cr q3) q3 := Num.eqn e3 (Sm.add (Sm.add (Sm.mul (Sm.sub m106.sm h0.sm) (Sm.sub m106.sm h0.sm)) (Sm.mul (Sm.sub m106.sm h1.sm) (Sm.sub m106.sm h1.sm))) (Sm.mul (Sm.sub m102.sm h2.sm) (Sm.sub m102.sm h2.sm)))
      have m103 : Num 6291471 (cr q91) q91 := Num.eqn e91 (Sm.div m104.sm m105.sm)
      have m101 : Num 8388629 (cr q92) q92 := Num.eqn e92 (Sm.add m102.sm (Sm.mul (Sm.mul m103.sm (Sm.sub m106.sm h0.sm)) (Sm.sub m106.sm h0.sm)))
      have m107 : Num 8388629 (cr q93) q93 := Num.eqn e93 (Sm.add m106.sm (Sm.mul (Sm.mul m103.sm (Sm.sub m106.sm h0.sm)) (Sm.sub m106.sm h1.sm)))
      have m108 : Num 1048576 (cr x0) x0 := Num.of h0.sm
      have m109 : Num 8388629 (cr q98) q98 := Num.eqn e98 (Sm.add m102.sm (Sm.mul (Sm.mul m103.sm (Sm.sub m106.sm h1.sm)) (Sm.sub m106.sm h1.sm)))
      have m110 : Num 1048576 (cr x1) x1 := Num.of h1.sm
      have m111 : Num 1048576 (cr x2) x2 := Num.of h2.sm
      obtain ⟨q112, e112⟩ := ex_eq (((x3 * q92) + (x4 * q93)) + (Z1 * x0))
      obtain ⟨q113, e113⟩ := ex_eq (((x3 * q93) + (x4 * q98)) + (Z1 * x1))
      obtain ⟨q114, e114⟩ := ex_eq (((x3 * x0) + (x4 * x1)) + (Z1 * x2))
      refine call_step (n_frame_Along_0 (k0 := q112) (k1 := q113) (k2 := q114) Y1 (m101.mono (by decide)) (m107.mono (by decide)) (m108.mono (by decide)) (m107.mono (by decide)) (m109.mono (by decide)) (m110.mono (by decide)) (m108.mono (by decide)) (m110.mono (by decide)) (m111.mono (by decide)) (h3.mono (by decide)) (h4.mono (by decide)) e112 e113 e114) rfl ?_
      simp only [fa_agg, fa_one, fa_nil, List.cons_append, List.nil_append, List.append_nil]
      have m115 : Num 19922989 (cr q112) q112 := Num.eqn e112 (Sm.add (Sm.add (Sm.mul h3.sm m101.sm) (Sm.mul h4.sm m107.sm)) (Sm.mul m102.sm m108.sm))
      have m116 : Num 19922989 (cr q113) q113 := Num.eqn e113 (Sm.add (Sm.add (Sm.mul h3.sm m107.sm) (Sm.mul h4.sm m109.sm)) (Sm.mul m102.sm m110.sm))
      have m117 : Num 5242883 (cr q114) q114 := Num.eqn e114 (Sm.add (Sm.add (Sm.mul h3.sm m108.sm) (Sm.mul h4.sm m110.sm)) (Sm.mul m102.sm m111.sm))
      have u118 : Z1 = (((q112 * x0) + (q113 * x1)) + (q114 * x2)) := (FrameSlopes_al119 Ym2 Y0 Y1 e3 d91 e92 e93 e112 e98 e113 e114 e1 c2 c4)
      have u120 : x3 = ((((q112 * q92) + (q113 * q93)) + (q114 * x0)) / Z1) := (FrameSlopes_al121 Ym2 Y0 Y1 e3 d91 e92 e93 e112 e98 e113 e114 e1 c2 c4)
      have u122 : x4 = ((((q112 * q93) + (q113 * q98)) + (q114 * x1)) / Z1) := (FrameSlopes_al123 Ym2 Y0 Y1 e3 d91 e92 e93 e112 e98 e113 e114 e1 c2 c4)
      refine call_step (n_frame_Slopes_1 (k0 := Z1) (k1 := x3) (k2 := x4) Y0 (m101.mono (by decide)) (m107.mono (by decide)) (m108.mono (by decide)) (m107.mono (by decide)) (m109.mono (by decide)) (m110.mono (by decide)) (m108.mono (by decide)) (m110.mono (by decide)) (m111.mono (by decide)) (m115.mono (by decide)) (m116.mono (by decide)) (m117.mono (by decide)) u118 u120 u122 (show ¬(Z1 = Z0) by rw [Y1, Y0] <;> decide +kernel)) rfl ?_
      simp only [fa_agg, fa_one, fa_nil, List.cons_append, List.nil_append, List.append_nil]
      refine primS (.bool false) rfl ?_
      refine itF rfl ?_
      refine call_step (n_rat_Read (h3.mono (by decide))) rfl ?_
      simp only [fa_agg, fa_one, fa_nil, List.cons_append, List.nil_append, List.append_nil]
      have m124 : Num 1048576 (cr x3) x3 := Num.of h3.sm
      refine call_step (n_penumbraref03_Is_t (m124.mono (by decide)) (m124.mono (by decide)) rfl) rfl ?_
      simp only [fa_agg, fa_one, fa_nil, List.cons_append, List.nil_append, List.append_nil]
      refine primS (.bool false) rfl ?_
      refine itF rfl ?_
      refine call_step (n_rat_Read (h4.mono (by decide))) rfl ?_
      simp only [fa_agg, fa_one, fa_nil, List.cons_append, List.nil_append, List.append_nil]
      have m125 : Num 1048576 (cr x4) x4 := Num.of h4.sm
      refine call_step (n_penumbraref03_Is_t (m125.mono (by decide)) (m125.mono (by decide)) rfl) rfl ?_
      simp only [fa_agg, fa_one, fa_nil, List.cons_append, List.nil_append, List.append_nil]
      refine primS (.bool false) rfl ?_
      refine itF rfl ?_
      refine call_step (n_penumbraref03_One Y1) rfl ?_
      simp only [fa_agg, fa_one, fa_nil, List.cons_append, List.nil_append, List.append_nil]
      refine call_step (n_penumbraref03_Is_t (m102.mono (by decide)) (m102.mono (by decide)) rfl) rfl ?_
      simp only [fa_agg, fa_one, fa_nil, List.cons_append, List.nil_append, List.append_nil]
      refine primS (.bool false) rfl ?_
      refine itF rfl ?_
      obtain ⟨q126, e126⟩ := ex_eq (((x3 * x0) + (x4 * x1)) + (x5 * x2))
      by_cases c127 : q126 = Z0
      · skip
        refine call_step (n_frame_Slopes_0 (k0 := q126) Y0 (m101.mono (by decide)) (m107.mono (by decide)) (m108.mono (by decide)) (m107.mono (by decide)) (m109.mono (by decide)) (m110.mono (by decide)) (m108.mono (by decide)) (m110.mono (by decide)) (m111.mono (by decide)) (h3.mono (by decide)) (h4.mono (by decide)) (h5.mono (by decide)) e126 c127) rfl ?_
        simp only [fa_agg, fa_one, fa_nil, List.cons_append, List.nil_append, List.append_nil]
        refine call_step (n_vec_Dot_0 (k0 := q126) (h3.mono (by decide)) (h4.mono (by decide)) (h5.mono (by decide)) (h0.mono (by decide)) (h1.mono (by decide)) (h2.mono (by decide)) e126) rfl ?_
        simp only [fa_agg, fa_one, fa_nil, List.cons_append, List.nil_append, List.append_nil]
        have m128 : Num 6291458 (cr q126) q126 := Num.eqn e126 (Sm.add (Sm.add (Sm.mul h3.sm m108.sm) (Sm.mul h4.sm m110.sm)) (Sm.mul h5.sm m111.sm))
        refine call_step (n_rat_Sign (m128.mono (by decide))) rfl ?_
        simp only [fa_agg, fa_one, fa_nil, List.cons_append, List.nil_append, List.append_nil]
        refine primS (.bool false) (cs_neq_f ((sg_eq Y0).2 c127)) ?_
        refine primS (.bool false) rfl ?_
        refine itF rfl ?_
        refine primS (.bool true) rfl ?_
        refine itT rfl ?_
        refine call_step (n_vec_Dot_0 (k0 := q126) (h3.mono (by decide)) (h4.mono (by decide)) (h5.mono (by decide)) (h0.mono (by decide)) (h1.mono (by decide)) (h2.mono (by decide)) e126) rfl ?_
        simp only [fa_agg, fa_one, fa_nil, List.cons_append, List.nil_append, List.append_nil]
        refine call_step (n_rat_Sign (m128.mono (by decide))) rfl ?_
        simp only [fa_agg, fa_one, fa_nil, List.cons_append, List.nil_append, List.append_nil]
        refine primS (.bool false) (cs_neq_f ((sg_eq Y0).2 c127)) ?_
        refine primS (.bool true) rfl ?_
        exact ret_step rfl
      · skip
        obtain ⟨q129, e129⟩ := ex_eq ((((x3 * q92) + (x4 * q93)) + (x5 * x0)) / q126)
        have d129 := div_mul Y0 e129 c127
        obtain ⟨q130, e130⟩ := ex_eq ((((x3 * q93) + (x4 * q98)) + (x5 * x1)) / q126)
        have d130 := div_mul Y0 e130 c127
        refine call_step (n_frame_Slopes_1 (k0 := q126) (k1 := q129) (k2 := q130) Y0 (m101.mono (by decide)) (m107.mono (by decide)) (m108.mono (by decide)) (m107.mono (by decide)) (m109.mono (by decide)) (m110.mono (by decide)) (m108.mono (by decide)) (m110.mono (by decide)) (m111.mono (by decide)) (h3.mono (by decide)) (h4.mono (by decide)) (h5.mono (by decide)) e126 e129 e130 c127) rfl ?_
        simp only [fa_agg, fa_one, fa_nil, List.cons_append, List.nil_append, List.append_nil]
        refine call_step (n_vec_Dot_0 (k0 := q126) (h3.mono (by decide)) (h4.mono (by decide)) (h5.mono (by decide)) (h0.mono (by decide)) (h1.mono (by decide)) (h2.mono (by decide)) e126) rfl ?_
        simp only [fa_agg, fa_one, fa_nil, List.cons_append, List.nil_append, List.append_nil]
        have m131 : Num 6291458 (cr q126) q126 := Num.eqn e126 (Sm.add (Sm.add (Sm.mul h3.sm m108.sm) (Sm.mul h4.sm m110.sm)) (Sm.mul h5.sm m111.sm))
        refine call_step (n_rat_Sign (m131.mono (by decide))) rfl ?_
        simp only [fa_agg, fa_one, fa_nil, List.cons_append, List.nil_append, List.append_nil]
        refine primS (.bool true) (cs_neq_t (fun z => c127 ((sg_eq Y0).1 z))) ?_
        refine primS (.bool false) rfl ?_
        refine itF rfl ?_
        refine primS (.bool false) rfl ?_
        refine itF rfl ?_
        obtain ⟨q132, e132⟩ := ex_eq (x6 * x3)
        obtain ⟨q133, e133⟩ := ex_eq (x6 * x4)
        obtain ⟨q134, e134⟩ := ex_eq (x6 * x5)
        refine call_step (n_vec_Scale_0 (k0 := q132) (k1 := q133) (k2 := q134) (h6.mono (by decide)) (h3.mono (by decide)) (h4.mono (by decide)) (h5.mono (by decide)) e132 e133 e134) rfl ?_
        simp only [fa_agg, fa_one, fa_nil, List.cons_append, List.nil_append, List.append_nil]
        have m135 : Num 2097152 (cr q132) q132 := Num.eqn e132 (Sm.mul h6.sm h3.sm)
        have m136 : Num 2097152 (cr q133) q133 := Num.eqn e133 (Sm.mul h6.sm h4.sm)
        have m137 : Num 2097152 (cr q134) q134 := Num.eqn e134 (Sm.mul h6.sm h5.sm)
        obtain ⟨q138, e138⟩ := ex_eq (((q132 * x0) + (q133 * x1)) + (q134 * x2))
        by_cases c139 : q138 = Z0
        · skip
          refine call_step (n_frame_Slopes_0 (k0 := q138) Y0 (m101.mono (by decide)) (m107.mono (by decide)) (m108.mono (by decide)) (m107.mono (by decide)) (m109.mono (by decide)) (m110.mono (by decide)) (m108.mono (by decide)) (m110.mono (by decide)) (m111.mono (by decide)) (m135.mono (by decide)) (m136.mono (by decide)) (m137.mono (by decide)) e138 c139) rfl ?_
          simp only [fa_agg, fa_one, fa_nil, List.cons_append, List.nil_append, List.append_nil]
          refine call_step (n_rat_Sign (h6.mono (by decide))) rfl ?_
          simp only [fa_agg, fa_one, fa_nil, List.cons_append, List.nil_append, List.append_nil]
          have c140 : (x6 = Z0) := (FrameSlopes_al141 Y0 Y1 e1 e3 e126 e132 e133 e134 e138 c2 c4 c127 c139)
          refine primS (.bool false) (cs_neq_f ((sg_eq Y0).2 c140)) ?_
          refine primS (.bool false) rfl ?_
          refine itF rfl ?_
          refine itF rfl ?_
          have m142 : Num 27263022 (cr q129) q129 := Num.eqn e129 (Sm.div (Sm.add (Sm.add (Sm.mul h3.sm m101.sm) (Sm.mul h4.sm m107.sm)) (Sm.mul h5.sm m108.sm)) m131.sm)
          have m143 : Num 27263022 (cr q130) q130 := Num.eqn e130 (Sm.div (Sm.add (Sm.add (Sm.mul h3.sm m107.sm) (Sm.mul h4.sm m109.sm)) (Sm.mul h5.sm m110.sm)) m131.sm)
          obtain ⟨q144, e144⟩ := ex_eq (((q129 * q92) + (q130 * q93)) + (Z1 * x0))
          obtain ⟨q145, e145⟩ := ex_eq (((q129 * q93) + (q130 * q98)) + (Z1 * x1))
          obtain ⟨q146, e146⟩ := ex_eq (((q129 * x0) + (q130 * x1)) + (Z1 * x2))
          refine call_step (n_frame_Along_0 (k0 := q144) (k1 := q145) (k2 := q146) Y1 (m101.mono (by decide)) (m107.mono (by decide)) (m108.mono (by decide)) (m107.mono (by decide)) (m109.mono (by decide)) (m110.mono (by decide)) (m108.mono (by decide)) (m110.mono (by decide)) (m111.mono (by decide)) (m142.mono (by decide)) (m143.mono (by decide)) e144 e145 e146) rfl ?_
          simp only [fa_agg, fa_one, fa_nil, List.cons_append, List.nil_append, List.append_nil]
          have m147 : Num 72351881 (cr q144) q144 := Num.eqn e144 (Sm.add (Sm.add (Sm.mul m142.sm m101.sm) (Sm.mul m143.sm m107.sm)) (Sm.mul m102.sm m108.sm))
          have m148 : Num 72351881 (cr q145) q145 := Num.eqn e145 (Sm.add (Sm.add (Sm.mul m142.sm m107.sm) (Sm.mul m143.sm m109.sm)) (Sm.mul m102.sm m110.sm))
          have m149 : Num 57671775 (cr q146) q146 := Num.eqn e146 (Sm.add (Sm.add (Sm.mul m142.sm m108.sm) (Sm.mul m143.sm m110.sm)) (Sm.mul m102.sm m111.sm))
          have u150 : x3 = (q126 * q144) := (FrameSlopes_al151 Ym2 Y0 Y1 e126 e3 d91 e92 e93 d129 e98 d130 e144 e1 e132 e133 e134 e138 c2 c4 c127 c139 c140)
          have u152 : x4 = (q126 * q145) := (FrameSlopes_al153 Ym2 Y0 Y1 e126 e3 d91 e92 e93 d129 e98 d130 e145 e1 e132 e133 e134 e138 c2 c4 c127 c139 c140)
          have u154 : x5 = (q126 * q146) := (FrameSlopes_al155 Ym2 Y0 Y1 e126 e3 d91 e92 e93 d129 e98 d130 e146 e1 e132 e133 e134 e138 c2 c4 c127 c139 c140)
          refine call_step (n_vec_Scale_0 (k0 := x3) (k1 := x4) (k2 := x5) (m131.mono (by decide)) (m147.mono (by decide)) (m148.mono (by decide)) (m149.mono (by decide)) u150 u152 u154) rfl ?_
          simp only [fa_agg, fa_one, fa_nil, List.cons_append, List.nil_append, List.append_nil]
          refine call_step (n_vec_Read_0 (h3.mono (by decide)) (h4.mono (by decide)) (h5.mono (by decide))) rfl ?_
          simp only [fa_agg, fa_one, fa_nil, List.cons_append, List.nil_append, List.append_nil]
          have m156 : Num 1048576 (cr x5) x5 := Num.of h5.sm
          refine call_step (n_penumbraref05_Is_0 (m124.mono (by decide)) (m125.mono (by decide)) (m156.mono (by decide)) (m124.mono (by decide)) (m125.mono (by decide)) (m156.mono (by decide)) rfl rfl rfl) rfl ?_
          simp only [fa_agg, fa_one, fa_nil, List.cons_append, List.nil_append, List.append_nil]
          exact ret_step rfl
        · skip
          have u157 : q129 = ((((q132 * q92) + (q133 * q93)) + (q134 * x0)) / q138) := (FrameSlopes_al158 Ym2 Y0 Y1 e3 d91 e92 e93 e126 d129 e132 e133 e134 e138 e1 c2 c4 c127 c139)
          have u159 : q130 = ((((q132 * q93) + (q133 * q98)) + (q134 * x1)) / q138) := (FrameSlopes_al160 Ym2 Y0 Y1 e3 d91 e93 e98 e126 d130 e132 e133 e134 e138 e1 c2 c4 c127 c139)
          refine call_step (n_frame_Slopes_1 (k0 := q138) (k1 := q129) (k2 := q130) Y0 (m101.mono (by decide)) (m107.mono (by decide)) (m108.mono (by decide)) (m107.mono (by decide)) (m109.mono (by decide)) (m110.mono (by decide)) (m108.mono (by decide)) (m110.mono (by decide)) (m111.mono (by decide)) (m135.mono (by decide)) (m136.mono (by decide)) (m137.mono (by decide)) e138 u157 u159 c139) rfl ?_
          simp only [fa_agg, fa_one, fa_nil, List.cons_append, List.nil_append, List.append_nil]
          refine call_step (n_rat_Sign (h6.mono (by decide))) rfl ?_
          simp only [fa_agg, fa_one, fa_nil, List.cons_append, List.nil_append, List.append_nil]
          have c161 : ¬(x6 = Z0) := (FrameSlopes_al162 Y0 Y1 e1 e3 e126 e132 e133 e134 e138 c2 c4 c127 c139)
          refine primS (.bool true) (cs_neq_t (fun z => c161 ((sg_eq Y0).1 z))) ?_
          refine primS (.bool false) rfl ?_
          refine itF rfl ?_
          refine itT rfl ?_
          have m163 : Num 27263022 (cr q129) q129 := Num.eqn e129 (Sm.div (Sm.add (Sm.add (Sm.mul h3.sm m101.sm) (Sm.mul h4.sm m107.sm)) (Sm.mul h5.sm m108.sm)) m131.sm)
          refine call_step (n_penumbraref03_Is_t (m163.mono (by decide)) (m163.mono (by decide)) rfl) rfl ?_
          simp only [fa_agg, fa_one, fa_nil, List.cons_append, List.nil_append, List.append_nil]
          refine primS (.bool false) rfl ?_
          refine itF rfl ?_
          have m164 : Num 27263022 (cr q130) q130 := Num.eqn e130 (Sm.div (Sm.add (Sm.add (Sm.mul h3.sm m107.sm) (Sm.mul h4.sm m109.sm)) (Sm.mul h5.sm m110.sm)) m131.sm)
          refine call_step (n_penumbraref03_Is_t (m164.mono (by decide)) (m164.mono (by decide)) rfl) rfl ?_
          simp only [fa_agg, fa_one, fa_nil, List.cons_append, List.nil_append, List.append_nil]
          refine primS (.bool false) rfl ?_
          refine itF rfl ?_
          obtain ⟨q165, e165⟩ := ex_eq (((q129 * q92) + (q130 * q93)) + (Z1 * x0))
          obtain ⟨q166, e166⟩ := ex_eq (((q129 * q93) + (q130 * q98)) + (Z1 * x1))
          obtain ⟨q167, e167⟩ := ex_eq (((q129 * x0) + (q130 * x1)) + (Z1 * x2))
          refine call_step (n_frame_Along_0 (k0 := q165) (k1 := q166) (k2 := q167) Y1 (m101.mono (by decide)) (m107.mono (by decide)) (m108.mono (by decide)) (m107.mono (by decide)) (m109.mono (by decide)) (m110.mono (by decide)) (m108.mono (by decide)) (m110.mono (by decide)) (m111.mono (by decide)) (m163.mono (by decide)) (m164.mono (by decide)) e165 e166 e167) rfl ?_
          simp only [fa_agg, fa_one, fa_nil, List.cons_append, List.nil_append, List.append_nil]
          have m168 : Num 72351881 (cr q165) q165 := Num.eqn e165 (Sm.add (Sm.add (Sm.mul m163.sm m101.sm) (Sm.mul m164.sm m107.sm)) (Sm.mul m102.sm m108.sm))
          have m169 : Num 72351881 (cr q166) q166 := Num.eqn e166 (Sm.add (Sm.add (Sm.mul m163.sm m107.sm) (Sm.mul m164.sm m109.sm)) (Sm.mul m102.sm m110.sm))
          have m170 : Num 57671775 (cr q167) q167 := Num.eqn e167 (Sm.add (Sm.add (Sm.mul m163.sm m108.sm) (Sm.mul m164.sm m110.sm)) (Sm.mul m102.sm m111.sm))
          have u171 : x3 = (q126 * q165) := (FrameSlopes_al172 Ym2 Y0 Y1 e126 e3 d91 e92 e93 d129 e98 d130 e165 e1 e132 e133 e134 e138 c2 c4 c127 c139 c161)
          have u173 : x4 = (q126 * q166) := (FrameSlopes_al174 Ym2 Y0 Y1 e126 e3 d91 e92 e93 d129 e98 d130 e166 e1 e132 e133 e134 e138 c2 c4 c127 c139 c161)
          have u175 : x5 = (q126 * q167) := (FrameSlopes_al176 Ym2 Y0 Y1 e126 e3 d91 e92 e93 d129 e98 d130 e167 e1 e132 e133 e134 e138 c2 c4 c127 c139 c161)
          refine call_step (n_vec_Scale_0 (k0 := x3) (k1 := x4) (k2 := x5) (m131.mono (by decide)) (m168.mono (by decide)) (m169.mono (by decide)) (m170.mono (by decide)) u171 u173 u175) rfl ?_
          simp only [fa_agg, fa_one, fa_nil, List.cons_append, List.nil_append, List.append_nil]
          refine call_step (n_vec_Read_0 (h3.mono (by decide)) (h4.mono (by decide)) (h5.mono (by decide))) rfl ?_
          simp only [fa_agg, fa_one, fa_nil, List.cons_append, List.nil_append, List.append_nil]
          have m177 : Num 1048576 (cr x5) x5 := Num.of h5.sm
          refine call_step (n_penumbraref05_Is_0 (m124.mono (by decide)) (m125.mono (by decide)) (m177.mono (by decide)) (m124.mono (by decide)) (m125.mono (by decide)) (m177.mono (by decide)) rfl rfl rfl) rfl ?_
          simp only [fa_agg, fa_one, fa_nil, List.cons_append, List.nil_append, List.append_nil]
          exact ret_step rfl
  · skip
    refine call_step (n_frame_Of_2 (k0 := q1) Y0 Y1 (h0.mono (by decide)) (h1.mono (by decide)) (h2.mono (by decide)) e1 c2) rfl ?_
    simp only [fa_agg, fa_one, fa_nil, List.cons_append, List.nil_append, List.append_nil]
    refine call_step n_penumbralaw06_fixed rfl ?_
    simp only [fa_agg, fa_one, fa_nil, List.cons_append, List.nil_append, List.append_nil]
    refine primS (.bool false) rfl ?_
    refine itF rfl ?_
    refine primS (.bool true) rfl ?_
    refine itT rfl ?_
    refine call_step n_penumbralaw06_fixed rfl ?_
    simp only [fa_agg, fa_one, fa_nil, List.cons_append, List.nil_append, List.append_nil]
    exact ret_step rfl

end Go.Px.Na

/- QFrameLays: whatever the numbers, the law tells true. -/
import Derived.Test.YtbpadnlpkdmkmaaXFrameLays
set_option maxRecDepth 20000
set_option maxHeartbeats 40000000
set_option linter.unusedVariables false
set_option linter.unusedSimpArgs false
namespace Go.Px.Na
open Go.RowKit
open Go.Proofs.Try (prog)

theorem cv_eq1 {a a' b : Rat} (e : a = a') (h : a = b) : a' = b := e ▸ h
theorem cv_eq2 {a b b' : Rat} (e : b = b') (h : a = b) : a = b' := e ▸ h
theorem cv_eqn1 {a a' b : Rat} (e : a = a') (h : ¬a = b) : ¬a' = b := e ▸ h
theorem cv_eqn2 {a b b' : Rat} (e : b = b') (h : ¬a = b) : ¬a = b' := e ▸ h
theorem cv_lt1 {a a' b : Rat} (e : a = a') (h : a < b) : a' < b := e ▸ h
theorem cv_lt2 {a b b' : Rat} (e : b = b') (h : a < b) : a < b' := e ▸ h
theorem cv_ltn1 {a a' b : Rat} (e : a = a') (h : ¬a < b) : ¬a' < b := e ▸ h
theorem cv_ltn2 {a b b' : Rat} (e : b = b') (h : ¬a < b) : ¬a < b' := e ▸ h
theorem FrameLays_al9 {Z0 Z1 : Rat} (Y0 : Z0 = (0 : Rat)) (Y1 : Z1 = (1 : Rat)) {x0 q1 x1 x2 q3 : Rat} (e1 : q1 = (((x0 * x0) + (x1 * x1)) + (x2 * x2))) (e3 : q3 = ((((Z0 - x0) * (Z0 - x0)) + ((Z0 - x1) * (Z0 - x1))) + ((Z1 - x2) * (Z1 - x2)))) (c2 : q1 = Z1) (c4 : q3 = Z0) (z5 : (Z0 - x0) = Z0) (z6 : (Z0 - x1) = Z0) (z7 : (Z1 - x2) = Z0) : Z0 = (Z0 - x0) := by
  subst Y0 Y1 e1 e3
  grind

theorem FrameLays_al11 {Z0 Z1 : Rat} (Y0 : Z0 = (0 : Rat)) (Y1 : Z1 = (1 : Rat)) {x1 q1 x0 x2 q3 : Rat} (e1 : q1 = (((x0 * x0) + (x1 * x1)) + (x2 * x2))) (e3 : q3 = ((((Z0 - x0) * (Z0 - x0)) + ((Z0 - x1) * (Z0 - x1))) + ((Z1 - x2) * (Z1 - x2)))) (c2 : q1 = Z1) (c4 : q3 = Z0) (z5 : (Z0 - x0) = Z0) (z6 : (Z0 - x1) = Z0) (z7 : (Z1 - x2) = Z0) : Z0 = (Z0 - x1) := by
  subst Y0 Y1 e1 e3
  grind

theorem FrameLays_al13 {Z0 Z1 : Rat} (Y0 : Z0 = (0 : Rat)) (Y1 : Z1 = (1 : Rat)) {x2 q1 x0 x1 q3 : Rat} (e1 : q1 = (((x0 * x0) + (x1 * x1)) + (x2 * x2))) (e3 : q3 = ((((Z0 - x0) * (Z0 - x0)) + ((Z0 - x1) * (Z0 - x1))) + ((Z1 - x2) * (Z1 - x2)))) (c2 : q1 = Z1) (c4 : q3 = Z0) (z5 : (Z0 - x0) = Z0) (z6 : (Z0 - x1) = Z0) (z7 : (Z1 - x2) = Z0) : Z0 = (Z1 - x2) := by
  subst Y0 Y1 e1 e3
  grind

theorem FrameLays_al20 {Zm2 Z0 Z1 : Rat} (Ym2 : Zm2 = (-2 : Rat)) (Y0 : Z0 = (0 : Rat)) (Y1 : Z1 = (1 : Rat)) {x0 q16 q3 x1 x2 q1 : Rat} (e3 : q3 = ((((Z0 - x0) * (Z0 - x0)) + ((Z0 - x1) * (Z0 - x1))) + ((Z1 - x2) * (Z1 - x2)))) (d16 : q16 * q3 = Zm2) (e1 : q1 = (((x0 * x0) + (x1 * x1)) + (x2 * x2))) (c2 : q1 = Z1) (c4 : ¬q3 = Z0) : x0 = (Z0 + ((q16 * (Z0 - x0)) * (Z1 - x2))) := by
  subst Ym2 Y0 Y1 e3 e1
  grind

theorem FrameLays_al22 {Zm2 Z0 Z1 : Rat} (Ym2 : Zm2 = (-2 : Rat)) (Y0 : Z0 = (0 : Rat)) (Y1 : Z1 = (1 : Rat)) {q18 q16 q3 x0 x1 x2 q1 : Rat} (e3 : q3 = ((((Z0 - x0) * (Z0 - x0)) + ((Z0 - x1) * (Z0 - x1))) + ((Z1 - x2) * (Z1 - x2)))) (d16 : q16 * q3 = Zm2) (e18 : q18 = (Z0 + ((q16 * (Z0 - x0)) * (Z0 - x1)))) (e1 : q1 = (((x0 * x0) + (x1 * x1)) + (x2 * x2))) (c2 : q1 = Z1) (c4 : ¬q3 = Z0) : q18 = (Z0 + ((q16 * (Z0 - x1)) * (Z0 - x0))) := by
  subst Ym2 Y0 Y1 e3 e18 e1
  grind

theorem FrameLays_al25 {Zm2 Z0 Z1 : Rat} (Ym2 : Zm2 = (-2 : Rat)) (Y0 : Z0 = (0 : Rat)) (Y1 : Z1 = (1 : Rat)) {x1 q16 q3 x0 x2 q1 : Rat} (e3 : q3 = ((((Z0 - x0) * (Z0 - x0)) + ((Z0 - x1) * (Z0 - x1))) + ((Z1 - x2) * (Z1 - x2)))) (d16 : q16 * q3 = Zm2) (e1 : q1 = (((x0 * x0) + (x1 * x1)) + (x2 * x2))) (c2 : q1 = Z1) (c4 : ¬q3 = Z0) : x1 = (Z0 + ((q16 * (Z0 - x1)) * (Z1 - x2))) := by
  subst Ym2 Y0 Y1 e3 e1
  grind

theorem FrameLays_al31 {Z0 Z1 Z2 : Rat} (Y0 : Z0 = (0 : Rat)) (Y1 : Z1 = (1 : Rat)) (Y2 : Z2 = (2 : Rat)) {x2 q1 x0 x1 q3 q26 q28 : Rat} (e1 : q1 = (((x0 * x0) + (x1 * x1)) + (x2 * x2))) (e3 : q3 = ((((Z0 - x0) * (Z0 - x0)) + ((Z0 - x1) * (Z0 - x1))) + ((Z1 - x2) * (Z1 - x2)))) (e26 : q26 = (Z0 - x0)) (e28 : q28 = (Z0 - x1)) (c2 : q1 = Z1) (c4 : ¬q3 = Z0) (c27 : q26 = Z0) (c29 : q28 = Z0) : Z2 = (Z1 - x2) := by
  subst Y0 Y1 Y2 e1 e3 e26 e28
  grind

theorem FrameLays_al33 {Z0 Z1 Z2 Z4 : Rat} (Y0 : Z0 = (0 : Rat)) (Y1 : Z1 = (1 : Rat)) (Y2 : Z2 = (2 : Rat)) (Y4 : Z4 = (4 : Rat)) {q26 x0 q28 x1 q1 x2 q3 : Rat} (e26 : q26 = (Z0 - x0)) (e28 : q28 = (Z0 - x1)) (e1 : q1 = (((x0 * x0) + (x1 * x1)) + (x2 * x2))) (e3 : q3 = ((((Z0 - x0) * (Z0 - x0)) + ((Z0 - x1) * (Z0 - x1))) + ((Z1 - x2) * (Z1 - x2)))) (c2 : q1 = Z1) (c4 : ¬q3 = Z0) (c27 : q26 = Z0) (c29 : q28 = Z0) : Z0 = ((Z2 * q26) / (((q26 * q26) + (q28 * q28)) + Z4)) := by
  subst Y0 Y1 Y2 Y4 e26 e28 e1 e3
  grind

theorem FrameLays_al34 {Z2 Z4 : Rat} (Y2 : Z2 = (2 : Rat)) (Y4 : Z4 = (4 : Rat)) {q26 q28 : Rat} : ((Z2 * q26) / (((q26 * q26) + (q28 * q28)) + Z4)) = ((Z2 * q26) / (((q26 * q26) + (q28 * q28)) + (Z2 * Z2))) := by
  subst Y2 Y4
  grind

theorem FrameLays_al36 {Z0 Z1 : Rat} (Y0 : Z0 = (0 : Rat)) (Y1 : Z1 = (1 : Rat)) {q26 x0 : Rat} (e26 : q26 = (Z0 - x0)) (c27 : q26 = Z0) : Z1 = (Z1 - (Z0 * q26)) := by
  subst Y0 Y1 e26
  grind

theorem FrameLays_al38 {Z0 : Rat} (Y0 : Z0 = (0 : Rat)) {q28 x1 : Rat} (e28 : q28 = (Z0 - x1)) (c29 : q28 = Z0) : Z0 = (Z0 - (Z0 * q28)) := by
  subst Y0 e28
  grind

theorem FrameLays_al40 {Z0 Z1 Z2 Z4 : Rat} (Y0 : Z0 = (0 : Rat)) (Y1 : Z1 = (1 : Rat)) (Y2 : Z2 = (2 : Rat)) (Y4 : Z4 = (4 : Rat)) {q28 x1 q26 x0 q1 x2 q3 : Rat} (e28 : q28 = (Z0 - x1)) (e26 : q26 = (Z0 - x0)) (e1 : q1 = (((x0 * x0) + (x1 * x1)) + (x2 * x2))) (e3 : q3 = ((((Z0 - x0) * (Z0 - x0)) + ((Z0 - x1) * (Z0 - x1))) + ((Z1 - x2) * (Z1 - x2)))) (c2 : q1 = Z1) (c4 : ¬q3 = Z0) (c27 : q26 = Z0) (c29 : q28 = Z0) : Z0 = ((Z2 * q28) / (((q26 * q26) + (q28 * q28)) + Z4)) := by
  subst Y0 Y1 Y2 Y4 e28 e26 e1 e3
  grind

theorem FrameLays_al41 {Z2 Z4 : Rat} (Y2 : Z2 = (2 : Rat)) (Y4 : Z4 = (4 : Rat)) {q28 q26 : Rat} : ((Z2 * q28) / (((q26 * q26) + (q28 * q28)) + Z4)) = ((Z2 * q28) / (((q26 * q26) + (q28 * q28)) + (Z2 * Z2))) := by
  subst Y2 Y4
  grind

theorem FrameLays_al43 {Z0 : Rat} (Y0 : Z0 = (0 : Rat)) {q26 x0 : Rat} (e26 : q26 = (Z0 - x0)) (c27 : q26 = Z0) : Z0 = (Z0 - (Z0 * q26)) := by
  subst Y0 e26
  grind

theorem FrameLays_al45 {Z0 Z1 : Rat} (Y0 : Z0 = (0 : Rat)) (Y1 : Z1 = (1 : Rat)) {q28 x1 : Rat} (e28 : q28 = (Z0 - x1)) (c29 : q28 = Z0) : Z1 = (Z1 - (Z0 * q28)) := by
  subst Y0 Y1 e28
  grind

theorem FrameLays_al57 {Zm2 Z0 Z1 : Rat} (Ym2 : Zm2 = (-2 : Rat)) (Y0 : Z0 = (0 : Rat)) (Y1 : Z1 = (1 : Rat)) {q17 q16 q3 x0 x1 x2 q1 q26 q28 : Rat} (e3 : q3 = ((((Z0 - x0) * (Z0 - x0)) + ((Z0 - x1) * (Z0 - x1))) + ((Z1 - x2) * (Z1 - x2)))) (d16 : q16 * q3 = Zm2) (e17 : q17 = (Z1 + ((q16 * (Z0 - x0)) * (Z0 - x0)))) (e1 : q1 = (((x0 * x0) + (x1 * x1)) + (x2 * x2))) (e26 : q26 = (Z0 - x0)) (e28 : q28 = (Z0 - x1)) (c2 : q1 = Z1) (c4 : ¬q3 = Z0) (c27 : q26 = Z0) (c29 : q28 = Z0) : q17 = Z1 := by
  subst Ym2 Y0 Y1 e3 e17 e1 e26 e28
  grind

theorem FrameLays_al59 {Z0 : Rat} (Y0 : Z0 = (0 : Rat)) {x0 q26 : Rat} (e26 : q26 = (Z0 - x0)) (c27 : q26 = Z0) : x0 = Z0 := by
  subst Y0 e26
  grind

theorem FrameLays_al61 {Zm2 Z0 Z1 : Rat} (Ym2 : Zm2 = (-2 : Rat)) (Y0 : Z0 = (0 : Rat)) (Y1 : Z1 = (1 : Rat)) {q23 q16 q3 x0 x1 x2 q1 q26 q28 : Rat} (e3 : q3 = ((((Z0 - x0) * (Z0 - x0)) + ((Z0 - x1) * (Z0 - x1))) + ((Z1 - x2) * (Z1 - x2)))) (d16 : q16 * q3 = Zm2) (e23 : q23 = (Z1 + ((q16 * (Z0 - x1)) * (Z0 - x1)))) (e1 : q1 = (((x0 * x0) + (x1 * x1)) + (x2 * x2))) (e26 : q26 = (Z0 - x0)) (e28 : q28 = (Z0 - x1)) (c2 : q1 = Z1) (c4 : ¬q3 = Z0) (c27 : q26 = Z0) (c29 : q28 = Z0) : q23 = Z1 := by
  subst Ym2 Y0 Y1 e3 e23 e1 e26 e28
  grind

theorem FrameLays_al63 {Z0 : Rat} (Y0 : Z0 = (0 : Rat)) {x1 q28 : Rat} (e28 : q28 = (Z0 - x1)) (c29 : q28 = Z0) : x1 = Z0 := by
  subst Y0 e28
  grind

theorem FrameLays_al67 {Z0 Z1 Z2 : Rat} (Y0 : Z0 = (0 : Rat)) (Y1 : Z1 = (1 : Rat)) (Y2 : Z2 = (2 : Rat)) {q26 x0 q28 x1 q65 x2 q1 q3 : Rat} (e26 : q26 = (Z0 - x0)) (e28 : q28 = (Z0 - x1)) (e65 : q65 = (Z1 - x2)) (e1 : q1 = (((x0 * x0) + (x1 * x1)) + (x2 * x2))) (e3 : q3 = ((((Z0 - x0) * (Z0 - x0)) + ((Z0 - x1) * (Z0 - x1))) + ((Z1 - x2) * (Z1 - x2)))) (c2 : q1 = Z1) (c4 : ¬q3 = Z0) (c27 : q26 = Z0) (c29 : ¬q28 = Z0) : Z0 = ((Z2 * q26) / (((q26 * q26) + (q28 * q28)) + (q65 * q65))) := by
  subst Y0 Y1 Y2 e26 e28 e65 e1 e3
  grind

theorem FrameLays_al69 {Z0 Z1 : Rat} (Y0 : Z0 = (0 : Rat)) (Y1 : Z1 = (1 : Rat)) {q26 x0 : Rat} (e26 : q26 = (Z0 - x0)) (c27 : q26 = Z0) : Z1 = (Z1 - (Z0 * q26)) := by
  subst Y0 Y1 e26
  grind

theorem FrameLays_al71 {Z0 : Rat} (Y0 : Z0 = (0 : Rat)) {q28 x1 : Rat} (e28 : q28 = (Z0 - x1)) (c29 : ¬q28 = Z0) : Z0 = (Z0 - (Z0 * q28)) := by
  subst Y0 e28
  grind

theorem FrameLays_al73 {Z0 Z1 : Rat} (Y0 : Z0 = (0 : Rat)) (Y1 : Z1 = (1 : Rat)) {q65 x2 : Rat} (e65 : q65 = (Z1 - x2)) : Z0 = (Z0 - (Z0 * q65)) := by
  subst Y0 Y1 e65
  grind

theorem FrameLays_al76 {Z0 Z1 Z2 : Rat} (Y0 : Z0 = (0 : Rat)) (Y1 : Z1 = (1 : Rat)) (Y2 : Z2 = (2 : Rat)) {q74 q28 x1 q26 x0 q65 x2 q1 q3 : Rat} (e28 : q28 = (Z0 - x1)) (e26 : q26 = (Z0 - x0)) (e65 : q65 = (Z1 - x2)) (d74 : q74 * (((q26 * q26) + (q28 * q28)) + (q65 * q65)) = (Z2 * q28)) (e1 : q1 = (((x0 * x0) + (x1 * x1)) + (x2 * x2))) (e3 : q3 = ((((Z0 - x0) * (Z0 - x0)) + ((Z0 - x1) * (Z0 - x1))) + ((Z1 - x2) * (Z1 - x2)))) (c2 : q1 = Z1) (c4 : ¬q3 = Z0) (c27 : q26 = Z0) (c29 : ¬q28 = Z0) : Z0 = (Z0 - (q74 * q26)) := by
  subst Y0 Y1 Y2 e28 e26 e65 e1 e3
  grind

theorem FrameLays_al78 {Zm2 Z0 Z1 Z2 : Rat} (Ym2 : Zm2 = (-2 : Rat)) (Y0 : Z0 = (0 : Rat)) (Y1 : Z1 = (1 : Rat)) (Y2 : Z2 = (2 : Rat)) {q23 q16 q3 x0 x1 x2 q74 q28 q26 q65 q1 : Rat} (e3 : q3 = ((((Z0 - x0) * (Z0 - x0)) + ((Z0 - x1) * (Z0 - x1))) + ((Z1 - x2) * (Z1 - x2)))) (d16 : q16 * q3 = Zm2) (e23 : q23 = (Z1 + ((q16 * (Z0 - x1)) * (Z0 - x1)))) (e28 : q28 = (Z0 - x1)) (e26 : q26 = (Z0 - x0)) (e65 : q65 = (Z1 - x2)) (d74 : q74 * (((q26 * q26) + (q28 * q28)) + (q65 * q65)) = (Z2 * q28)) (e1 : q1 = (((x0 * x0) + (x1 * x1)) + (x2 * x2))) (c2 : q1 = Z1) (c4 : ¬q3 = Z0) (c27 : q26 = Z0) (c29 : ¬q28 = Z0) : q23 = (Z1 - (q74 * q28)) := by
  subst Ym2 Y0 Y1 Y2 e3 e23 e28 e26 e65 e1
  grind

theorem FrameLays_al80 {Z0 Z1 Z2 : Rat} (Y0 : Z0 = (0 : Rat)) (Y1 : Z1 = (1 : Rat)) (Y2 : Z2 = (2 : Rat)) {x1 q74 q28 q26 x0 q65 x2 q1 q3 : Rat} (e28 : q28 = (Z0 - x1)) (e26 : q26 = (Z0 - x0)) (e65 : q65 = (Z1 - x2)) (d74 : q74 * (((q26 * q26) + (q28 * q28)) + (q65 * q65)) = (Z2 * q28)) (e1 : q1 = (((x0 * x0) + (x1 * x1)) + (x2 * x2))) (e3 : q3 = ((((Z0 - x0) * (Z0 - x0)) + ((Z0 - x1) * (Z0 - x1))) + ((Z1 - x2) * (Z1 - x2)))) (c2 : q1 = Z1) (c4 : ¬q3 = Z0) (c27 : q26 = Z0) (c29 : ¬q28 = Z0) : x1 = (Z0 - (q74 * q65)) := by
  subst Y0 Y1 Y2 e28 e26 e65 e1 e3
  grind

theorem FrameLays_al92 {Zm2 Z0 Z1 : Rat} (Ym2 : Zm2 = (-2 : Rat)) (Y0 : Z0 = (0 : Rat)) (Y1 : Z1 = (1 : Rat)) {q17 q16 q3 x0 x1 x2 q1 q26 : Rat} (e3 : q3 = ((((Z0 - x0) * (Z0 - x0)) + ((Z0 - x1) * (Z0 - x1))) + ((Z1 - x2) * (Z1 - x2)))) (d16 : q16 * q3 = Zm2) (e17 : q17 = (Z1 + ((q16 * (Z0 - x0)) * (Z0 - x0)))) (e1 : q1 = (((x0 * x0) + (x1 * x1)) + (x2 * x2))) (e26 : q26 = (Z0 - x0)) (c2 : q1 = Z1) (c4 : ¬q3 = Z0) (c27 : q26 = Z0) : q17 = Z1 := by
  subst Ym2 Y0 Y1 e3 e17 e1 e26
  grind

theorem FrameLays_al94 {Z0 : Rat} (Y0 : Z0 = (0 : Rat)) {x0 q26 : Rat} (e26 : q26 = (Z0 - x0)) (c27 : q26 = Z0) : x0 = Z0 := by
  subst Y0 e26
  grind

theorem FrameLays_al100 {Zm2 Z0 Z1 Z2 : Rat} (Ym2 : Zm2 = (-2 : Rat)) (Y0 : Z0 = (0 : Rat)) (Y1 : Z1 = (1 : Rat)) (Y2 : Z2 = (2 : Rat)) {q17 q16 q3 x0 x1 x2 q98 q26 q96 q97 q1 : Rat} (e3 : q3 = ((((Z0 - x0) * (Z0 - x0)) + ((Z0 - x1) * (Z0 - x1))) + ((Z1 - x2) * (Z1 - x2)))) (d16 : q16 * q3 = Zm2) (e17 : q17 = (Z1 + ((q16 * (Z0 - x0)) * (Z0 - x0)))) (e26 : q26 = (Z0 - x0)) (e96 : q96 = (Z0 - x1)) (e97 : q97 = (Z1 - x2)) (d98 : q98 * (((q26 * q26) + (q96 * q96)) + (q97 * q97)) = (Z2 * q26)) (e1 : q1 = (((x0 * x0) + (x1 * x1)) + (x2 * x2))) (c2 : q1 = Z1) (c4 : ¬q3 = Z0) (c27 : ¬q26 = Z0) : q17 = (Z1 - (q98 * q26)) := by
  subst Ym2 Y0 Y1 Y2 e3 e17 e26 e96 e97 e1
  grind

theorem FrameLays_al102 {Zm2 Z0 Z1 Z2 : Rat} (Ym2 : Zm2 = (-2 : Rat)) (Y0 : Z0 = (0 : Rat)) (Y1 : Z1 = (1 : Rat)) (Y2 : Z2 = (2 : Rat)) {q18 q16 q3 x0 x1 x2 q98 q26 q96 q97 q1 : Rat} (e3 : q3 = ((((Z0 - x0) * (Z0 - x0)) + ((Z0 - x1) * (Z0 - x1))) + ((Z1 - x2) * (Z1 - x2)))) (d16 : q16 * q3 = Zm2) (e18 : q18 = (Z0 + ((q16 * (Z0 - x0)) * (Z0 - x1)))) (e26 : q26 = (Z0 - x0)) (e96 : q96 = (Z0 - x1)) (e97 : q97 = (Z1 - x2)) (d98 : q98 * (((q26 * q26) + (q96 * q96)) + (q97 * q97)) = (Z2 * q26)) (e1 : q1 = (((x0 * x0) + (x1 * x1)) + (x2 * x2))) (c2 : q1 = Z1) (c4 : ¬q3 = Z0) (c27 : ¬q26 = Z0) : q18 = (Z0 - (q98 * q96)) := by
  subst Ym2 Y0 Y1 Y2 e3 e18 e26 e96 e97 e1
  grind

theorem FrameLays_al104 {Z0 Z1 Z2 : Rat} (Y0 : Z0 = (0 : Rat)) (Y1 : Z1 = (1 : Rat)) (Y2 : Z2 = (2 : Rat)) {x0 q98 q26 q96 x1 q97 x2 q1 q3 : Rat} (e26 : q26 = (Z0 - x0)) (e96 : q96 = (Z0 - x1)) (e97 : q97 = (Z1 - x2)) (d98 : q98 * (((q26 * q26) + (q96 * q96)) + (q97 * q97)) = (Z2 * q26)) (e1 : q1 = (((x0 * x0) + (x1 * x1)) + (x2 * x2))) (e3 : q3 = ((((Z0 - x0) * (Z0 - x0)) + ((Z0 - x1) * (Z0 - x1))) + ((Z1 - x2) * (Z1 - x2)))) (c2 : q1 = Z1) (c4 : ¬q3 = Z0) (c27 : ¬q26 = Z0) : x0 = (Z0 - (q98 * q97)) := by
  subst Y0 Y1 Y2 e26 e96 e97 e1 e3
  grind

theorem FrameLays_al107 {Zm2 Z0 Z1 Z2 : Rat} (Ym2 : Zm2 = (-2 : Rat)) (Y0 : Z0 = (0 : Rat)) (Y1 : Z1 = (1 : Rat)) (Y2 : Z2 = (2 : Rat)) {q18 q16 q3 x0 x1 x2 q105 q96 q26 q97 q1 : Rat} (e3 : q3 = ((((Z0 - x0) * (Z0 - x0)) + ((Z0 - x1) * (Z0 - x1))) + ((Z1 - x2) * (Z1 - x2)))) (d16 : q16 * q3 = Zm2) (e18 : q18 = (Z0 + ((q16 * (Z0 - x0)) * (Z0 - x1)))) (e96 : q96 = (Z0 - x1)) (e26 : q26 = (Z0 - x0)) (e97 : q97 = (Z1 - x2)) (d105 : q105 * (((q26 * q26) + (q96 * q96)) + (q97 * q97)) = (Z2 * q96)) (e1 : q1 = (((x0 * x0) + (x1 * x1)) + (x2 * x2))) (c2 : q1 = Z1) (c4 : ¬q3 = Z0) (c27 : ¬q26 = Z0) : q18 = (Z0 - (q105 * q26)) := by
  subst Ym2 Y0 Y1 Y2 e3 e18 e96 e26 e97 e1
  grind

theorem FrameLays_al109 {Zm2 Z0 Z1 Z2 : Rat} (Ym2 : Zm2 = (-2 : Rat)) (Y0 : Z0 = (0 : Rat)) (Y1 : Z1 = (1 : Rat)) (Y2 : Z2 = (2 : Rat)) {q23 q16 q3 x0 x1 x2 q105 q96 q26 q97 q1 : Rat} (e3 : q3 = ((((Z0 - x0) * (Z0 - x0)) + ((Z0 - x1) * (Z0 - x1))) + ((Z1 - x2) * (Z1 - x2)))) (d16 : q16 * q3 = Zm2) (e23 : q23 = (Z1 + ((q16 * (Z0 - x1)) * (Z0 - x1)))) (e96 : q96 = (Z0 - x1)) (e26 : q26 = (Z0 - x0)) (e97 : q97 = (Z1 - x2)) (d105 : q105 * (((q26 * q26) + (q96 * q96)) + (q97 * q97)) = (Z2 * q96)) (e1 : q1 = (((x0 * x0) + (x1 * x1)) + (x2 * x2))) (c2 : q1 = Z1) (c4 : ¬q3 = Z0) (c27 : ¬q26 = Z0) : q23 = (Z1 - (q105 * q96)) := by
  subst Ym2 Y0 Y1 Y2 e3 e23 e96 e26 e97 e1
  grind

theorem FrameLays_al111 {Z0 Z1 Z2 : Rat} (Y0 : Z0 = (0 : Rat)) (Y1 : Z1 = (1 : Rat)) (Y2 : Z2 = (2 : Rat)) {x1 q105 q96 q26 x0 q97 x2 q1 q3 : Rat} (e96 : q96 = (Z0 - x1)) (e26 : q26 = (Z0 - x0)) (e97 : q97 = (Z1 - x2)) (d105 : q105 * (((q26 * q26) + (q96 * q96)) + (q97 * q97)) = (Z2 * q96)) (e1 : q1 = (((x0 * x0) + (x1 * x1)) + (x2 * x2))) (e3 : q3 = ((((Z0 - x0) * (Z0 - x0)) + ((Z0 - x1) * (Z0 - x1))) + ((Z1 - x2) * (Z1 - x2)))) (c2 : q1 = Z1) (c4 : ¬q3 = Z0) (c27 : ¬q26 = Z0) : x1 = (Z0 - (q105 * q97)) := by
  subst Y0 Y1 Y2 e96 e26 e97 e1 e3
  grind

theorem pure_FrameLays {r0 r1 r2 : RR} (g0 : r0.ok 1048576) (g1 : r1.ok 1048576) (g2 : r2.ok 1048576) : PureCalls prog F.penumbralaw06_FrameLays [.agg ([.bool r0.neg, nl r0.num, nl r0.den, .bool r1.neg, nl r1.num, nl r1.den, .bool r2.neg, nl r2.num, nl r2.den])] [.one (.bool true)] := by
  obtain ⟨Zm2, Ym2⟩ := ex_eq (-2 : Rat)
  obtain ⟨Z0, Y0⟩ := ex_eq (0 : Rat)
  obtain ⟨Z1, Y1⟩ := ex_eq (1 : Rat)
  obtain ⟨Z2, Y2⟩ := ex_eq (2 : Rat)
  obtain ⟨Z4, Y4⟩ := ex_eq (4 : Rat)
  obtain ⟨x0, h0⟩ := Num.raw g0 (by decide)
  obtain ⟨x1, h1⟩ := Num.raw g1 (by decide)
  obtain ⟨x2, h2⟩ := Num.raw g2 (by decide)
  refine symFunc_sound hmix tree_penumbralaw06_FrameLays (by kernel_rfl) rfl ?_
  unfold ir_penumbralaw06_FrameLays
  simp only [fa_agg, fa_one, fa_nil, List.cons_append, List.nil_append, List.append_nil]
  obtain ⟨q1, e1⟩ := ex_eq (((x0 * x0) + (x1 * x1)) + (x2 * x2))
  by_cases c2 : q1 = Z1
  · skip
    obtain ⟨q3, e3⟩ := ex_eq ((((Z0 - x0) * (Z0 - x0)) + ((Z0 - x1) * (Z0 - x1))) + ((Z1 - x2) * (Z1 - x2)))
    by_cases c4 : q3 = Z0
    · skip
      have z5 : (Z0 - x0) = Z0 := sq3_0 Y0 (e3.symm.trans c4)
      have z6 : (Z0 - x1) = Z0 := sq3_1 Y0 (e3.symm.trans c4)
      have z7 : (Z1 - x2) = Z0 := sq3_2 Y0 (e3.symm.trans c4)
      refine call_step (n_frame_Of_0 (k0 := q1) (k1 := q3) Ym2 Y0 Y1 (h0.mono (by decide)) (h1.mono (by decide)) (h2.mono (by decide)) e1 e3 c2 c4) rfl ?_
      simp only [fa_agg, fa_one, fa_nil, List.cons_append, List.nil_append, List.append_nil]
      have u8 : Z0 = (Z0 - x0) := (FrameLays_al9 Y0 Y1 e1 e3 c2 c4 z5 z6 z7)
      have u10 : Z0 = (Z0 - x1) := (FrameLays_al11 Y0 Y1 e1 e3 c2 c4 z5 z6 z7)
      have u12 : Z0 = (Z1 - x2) := (FrameLays_al13 Y0 Y1 e1 e3 c2 c4 z5 z6 z7)
      refine call_step (n_penumbraref06_Of_0 (k0 := q1) (k1 := Z0) (k2 := Z0) (k3 := Z0) Y0 Y1 (h0.mono (by decide)) (h1.mono (by decide)) (h2.mono (by decide)) e1 u8 u10 u12 c2 rfl rfl rfl) rfl ?_
      simp only [fa_agg, fa_one, fa_nil, List.cons_append, List.nil_append, List.append_nil]
      refine call_step n_penumbralaw06_fixed rfl ?_
      simp only [fa_agg, fa_one, fa_nil, List.cons_append, List.nil_append, List.append_nil]
      refine itT rfl ?_
      have m14 : Num 1 (cr Z1) Z1 := Num.c Y1 (by decide +kernel) (by decide +kernel)
      have m15 : Num 1 (cr Z0) Z0 := Num.c Y0 (by decide +kernel) (by decide +kernel)
      refine call_step (n_penumbraref06_Is_0 (m14.mono (by decide)) (m15.mono (by decide)) (m15.mono (by decide)) (m15.mono (by decide)) (m14.mono (by decide)) (m15.mono (by decide)) (m15.mono (by decide)) (m15.mono (by decide)) (m14.mono (by decide)) (m14.mono (by decide)) (m15.mono (by decide)) (m15.mono (by decide)) (m15.mono (by decide)) (m14.mono (by decide)) (m15.mono (by decide)) (m15.mono (by decide)) (m15.mono (by decide)) (m14.mono (by decide)) rfl rfl rfl rfl rfl rfl rfl rfl rfl) rfl ?_
      simp only [fa_agg, fa_one, fa_nil, List.cons_append, List.nil_append, List.append_nil]
      refine itT rfl ?_
      refine primS (.bool true) rfl ?_
      exact ret_step rfl
    · skip
      obtain ⟨q16, e16⟩ := ex_eq (Zm2 / q3)
      have d16 := div_mul Y0 e16 c4
      obtain ⟨q17, e17⟩ := ex_eq (Z1 + ((q16 * (Z0 - x0)) * (Z0 - x0)))
      obtain ⟨q18, e18⟩ := ex_eq (Z0 + ((q16 * (Z0 - x0)) * (Z0 - x1)))
      have u19 : x0 = (Z0 + ((q16 * (Z0 - x0)) * (Z1 - x2))) := (FrameLays_al20 Ym2 Y0 Y1 e3 d16 e1 c2 c4)
      have u21 : q18 = (Z0 + ((q16 * (Z0 - x1)) * (Z0 - x0))) := (FrameLays_al22 Ym2 Y0 Y1 e3 d16 e18 e1 c2 c4)
      obtain ⟨q23, e23⟩ := ex_eq (Z1 + ((q16 * (Z0 - x1)) * (Z0 - x1)))
      have u24 : x1 = (Z0 + ((q16 * (Z0 - x1)) * (Z1 - x2))) := (FrameLays_al25 Ym2 Y0 Y1 e3 d16 e1 c2 c4)
      refine call_step (n_frame_Of_1 (k0 := q1) (k1 := q3) (k2 := q16) (k3 := q17) (k4 := q18) (k5 := x0) (k6 := q18) (k7 := q23) (k8 := x1) Ym2 Y0 Y1 (h0.mono (by decide)) (h1.mono (by decide)) (h2.mono (by decide)) e1 e3 e16 e17 e18 u19 u21 e23 u24 c2 c4) rfl ?_
      simp only [fa_agg, fa_one, fa_nil, List.cons_append, List.nil_append, List.append_nil]
      obtain ⟨q26, e26⟩ := ex_eq (Z0 - x0)
      by_cases c27 : q26 = Z0
      · skip
        obtain ⟨q28, e28⟩ := ex_eq (Z0 - x1)
        by_cases c29 : q28 = Z0
        · skip
          have u30 : Z2 = (Z1 - x2) := (FrameLays_al31 Y0 Y1 Y2 e1 e3 e26 e28 c2 c4 c27 c29)
          have u32 : Z0 = ((Z2 * q26) / (((q26 * q26) + (q28 * q28)) + Z4)) := (FrameLays_al33 Y0 Y1 Y2 Y4 e26 e28 e1 e3 c2 c4 c27 c29)
          have u35 : Z1 = (Z1 - (Z0 * q26)) := (FrameLays_al36 Y0 Y1 e26 c27)
          have u37 : Z0 = (Z0 - (Z0 * q28)) := (FrameLays_al38 Y0 e28 c29)
          have u39 : Z0 = ((Z2 * q28) / (((q26 * q26) + (q28 * q28)) + Z4)) := (FrameLays_al40 Y0 Y1 Y2 Y4 e28 e26 e1 e3 c2 c4 c27 c29)
          have u42 : Z0 = (Z0 - (Z0 * q26)) := (FrameLays_al43 Y0 e26 c27)
          have u44 : Z1 = (Z1 - (Z0 * q28)) := (FrameLays_al45 Y0 Y1 e28 c29)
          refine call_step (n_penumbraref06_Of_1 (k0 := q1) (k1 := q26) (k2 := q28) (k3 := Z2) (k4 := Z0) (k5 := Z1) (k6 := Z0) (k7 := Z0) (k8 := Z0) (k9 := Z0) (k10 := Z1) (k11 := Z0) Y0 Y1 Y2 (h0.mono (by decide)) (h1.mono (by decide)) (h2.mono (by decide)) e1 e26 e28 u30 (u32.trans (FrameLays_al34 Y2 Y4)) u35 u37 (by rw [Y0, Y2] <;> decide +kernel) (u39.trans (FrameLays_al41 Y2 Y4)) u42 u44 (by rw [Y0, Y2] <;> decide +kernel) c2 c27 c29 (show ¬(Z2 = Z0) by rw [Y2, Y0] <;> decide +kernel)) rfl ?_
          simp only [fa_agg, fa_one, fa_nil, List.cons_append, List.nil_append, List.append_nil]
          refine call_step n_penumbralaw06_fixed rfl ?_
          simp only [fa_agg, fa_one, fa_nil, List.cons_append, List.nil_append, List.append_nil]
          refine itT rfl ?_
          have m47 : Num 1 (cr Z1) Z1 := Num.c Y1 (by decide +kernel) (by decide +kernel)
          have m49 : Num 1 (cr Zm2) Zm2 := Num.c Ym2 (by decide +kernel) (by decide +kernel)
          have m51 : Num 1 (cr Z0) Z0 := Num.c Y0 (by decide +kernel) (by decide +kernel)
          have m50 : Num 6291470 (cr q3) q3 := Num.eqn e3 (Sm.add (Sm.add (Sm.mul (Sm.sub m51.sm h0.sm) (Sm.sub m51.sm h0.sm)) (Sm.mul (Sm.sub m51.sm h1.sm) (Sm.sub m51.sm h1.sm))) (Sm.mul (Sm.sub m47.sm h2.sm) (Sm.sub m47.sm h2.sm)))
          have m48 : Num 6291471 (cr q16) q16 := Num.eqn e16 (Sm.div m49.sm m50.sm)
          have m46 : Num 8388629 (cr q17) q17 := Num.eqn e17 (Sm.add m47.sm (Sm.mul (Sm.mul m48.sm (Sm.sub m51.sm h0.sm)) (Sm.sub m51.sm h0.sm)))
          have m52 : Num 8388629 (cr q18) q18 := Num.eqn e18 (Sm.add m51.sm (Sm.mul (Sm.mul m48.sm (Sm.sub m51.sm h0.sm)) (Sm.sub m51.sm h1.sm)))
          have m53 : Num 1048576 (cr x0) x0 := Num.of h0.sm
          have m54 : Num 8388629 (cr q23) q23 := Num.eqn e23 (Sm.add m47.sm (Sm.mul (Sm.mul m48.sm (Sm.sub m51.sm h1.sm)) (Sm.sub m51.sm h1.sm)))
          have m55 : Num 1048576 (cr x1) x1 := Num.of h1.sm
          have m56 : Num 1048576 (cr x2) x2 := Num.of h2.sm
          have c58 : q17 = Z1 := (FrameLays_al57 Ym2 Y0 Y1 e3 d16 e17 e1 e26 e28 c2 c4 c27 c29)
          have c60 : x0 = Z0 := (FrameLays_al59 Y0 e26 c27)
          have c62 : q23 = Z1 := (FrameLays_al61 Ym2 Y0 Y1 e3 d16 e23 e1 e26 e28 c2 c4 c27 c29)
          have c64 : x1 = Z0 := (FrameLays_al63 Y0 e28 c29)
          refine call_step (n_penumbraref06_Is_0 (m46.mono (by decide)) (m52.mono (by decide)) (m53.mono (by decide)) (m52.mono (by decide)) (m54.mono (by decide)) (m55.mono (by decide)) (m53.mono (by decide)) (m55.mono (by decide)) (m56.mono (by decide)) (m47.mono (by decide)) (m51.mono (by decide)) (m51.mono (by decide)) (m51.mono (by decide)) (m47.mono (by decide)) (m51.mono (by decide)) (m53.mono (by decide)) (m55.mono (by decide)) (m56.mono (by decide)) c58 (s_add_00 Y0 e18 rfl (s_mul_0x Y0 rfl (s_mul_x0 Y0 rfl (cv_eq1 e26 c27)))) c60 (s_add_00 Y0 e18 rfl (s_mul_0x Y0 rfl (s_mul_x0 Y0 rfl (cv_eq1 e26 c27)))) c62 c64 rfl rfl rfl) rfl ?_
          simp only [fa_agg, fa_one, fa_nil, List.cons_append, List.nil_append, List.append_nil]
          refine itT rfl ?_
          refine primS (.bool true) rfl ?_
          exact ret_step rfl
        · skip
          obtain ⟨q65, e65⟩ := ex_eq (Z1 - x2)
          have u66 : Z0 = ((Z2 * q26) / (((q26 * q26) + (q28 * q28)) + (q65 * q65))) := (FrameLays_al67 Y0 Y1 Y2 e26 e28 e65 e1 e3 c2 c4 c27 c29)
          have u68 : Z1 = (Z1 - (Z0 * q26)) := (FrameLays_al69 Y0 Y1 e26 c27)
          have u70 : Z0 = (Z0 - (Z0 * q28)) := (FrameLays_al71 Y0 e28 c29)
          have u72 : Z0 = (Z0 - (Z0 * q65)) := (FrameLays_al73 Y0 Y1 e65)
          obtain ⟨q74, e74⟩ := ex_eq ((Z2 * q28) / (((q26 * q26) + (q28 * q28)) + (q65 * q65)))
          have d74 := div_mul Y0 e74 (fun z => c29 (sq3_1 Y0 (z)))
          have u75 : Z0 = (Z0 - (q74 * q26)) := (FrameLays_al76 Y0 Y1 Y2 e28 e26 e65 d74 e1 e3 c2 c4 c27 c29)
          have u77 : q23 = (Z1 - (q74 * q28)) := (FrameLays_al78 Ym2 Y0 Y1 Y2 e3 d16 e23 e28 e26 e65 d74 e1 c2 c4 c27 c29)
          have u79 : x1 = (Z0 - (q74 * q65)) := (FrameLays_al80 Y0 Y1 Y2 e28 e26 e65 d74 e1 e3 c2 c4 c27 c29)
          refine call_step (n_penumbraref06_Of_2 (k0 := q1) (k1 := q26) (k2 := q28) (k3 := q65) (k4 := Z0) (k5 := Z1) (k6 := Z0) (k7 := Z0) (k8 := q74) (k9 := Z0) (k10 := q23) (k11 := x1) Y0 Y1 Y2 (h0.mono (by decide)) (h1.mono (by decide)) (h2.mono (by decide)) e1 e26 e28 e65 u66 u68 u70 u72 e74 u75 u77 u79 c2 c27 c29) rfl ?_
          simp only [fa_agg, fa_one, fa_nil, List.cons_append, List.nil_append, List.append_nil]
          refine call_step n_penumbralaw06_fixed rfl ?_
          simp only [fa_agg, fa_one, fa_nil, List.cons_append, List.nil_append, List.append_nil]
          refine itT rfl ?_
          have m82 : Num 1 (cr Z1) Z1 := Num.c Y1 (by decide +kernel) (by decide +kernel)
          have m84 : Num 1 (cr Zm2) Zm2 := Num.c Ym2 (by decide +kernel) (by decide +kernel)
          have m86 : Num 1 (cr Z0) Z0 := Num.c Y0 (by decide +kernel) (by decide +kernel)
          have m85 : Num 6291470 (cr q3) q3 := Num.eqn e3 (Sm.add (Sm.add (Sm.mul (Sm.sub m86.sm h0.sm) (Sm.sub m86.sm h0.sm)) (Sm.mul (Sm.sub m86.sm h1.sm) (Sm.sub m86.sm h1.sm))) (Sm.mul (Sm.sub m82.sm h2.sm) (Sm.sub m82.sm h2.sm)))
          have m83 : Num 6291471 (cr q16) q16 := Num.eqn e16 (Sm.div m84.sm m85.sm)
          have m81 : Num 8388629 (cr q17) q17 := Num.eqn e17 (Sm.add m82.sm (Sm.mul (Sm.mul m83.sm (Sm.sub m86.sm h0.sm)) (Sm.sub m86.sm h0.sm)))
          have m87 : Num 8388629 (cr q18) q18 := Num.eqn e18 (Sm.add m86.sm (Sm.mul (Sm.mul m83.sm (Sm.sub m86.sm h0.sm)) (Sm.sub m86.sm h1.sm)))
          have m88 : Num 1048576 (cr x0) x0 := Num.of h0.sm
          have m89 : Num 8388629 (cr q23) q23 := Num.eqn e23 (Sm.add m82.sm (Sm.mul (Sm.mul m83.sm (Sm.sub m86.sm h1.sm)) (Sm.sub m86.sm h1.sm)))
          have m90 : Num 1048576 (cr x1) x1 := Num.of h1.sm
          have m91 : Num 1048576 (cr x2) x2 := Num.of h2.sm
          have c93 : q17 = Z1 := (FrameLays_al92 Ym2 Y0 Y1 e3 d16 e17 e1 e26 c2 c4 c27)
          have c95 : x0 = Z0 := (FrameLays_al94 Y0 e26 c27)
          refine call_step (n_penumbraref06_Is_0 (m81.mono (by decide)) (m87.mono (by decide)) (m88.mono (by decide)) (m87.mono (by decide)) (m89.mono (by decide)) (m90.mono (by decide)) (m88.mono (by decide)) (m90.mono (by decide)) (m91.mono (by decide)) (m82.mono (by decide)) (m86.mono (by decide)) (m86.mono (by decide)) (m86.mono (by decide)) (m89.mono (by decide)) (m90.mono (by decide)) (m88.mono (by decide)) (m90.mono (by decide)) (m91.mono (by decide)) c93 (s_add_00 Y0 e18 rfl (s_mul_0x Y0 rfl (s_mul_x0 Y0 rfl (cv_eq1 e26 c27)))) c95 (s_add_00 Y0 e18 rfl (s_mul_0x Y0 rfl (s_mul_x0 Y0 rfl (cv_eq1 e26 c27)))) rfl rfl rfl rfl rfl) rfl ?_
          simp only [fa_agg, fa_one, fa_nil, List.cons_append, List.nil_append, List.append_nil]
          refine itT rfl ?_
          refine primS (.bool true) rfl ?_
          exact ret_step rfl
      · skip
        obtain ⟨q96, e96⟩ := ex_eq (Z0 - x1)
        obtain ⟨q97, e97⟩ := ex_eq (Z1 - x2)
        obtain ⟨q98, e98⟩ := ex_eq ((Z2 * q26) / (((q26 * q26) + (q96 * q96)) + (q97 * q97)))
        have d98 := div_mul Y0 e98 (fun z => c27 (sq3_0 Y0 (z)))
        have u99 : q17 = (Z1 - (q98 * q26)) := (FrameLays_al100 Ym2 Y0 Y1 Y2 e3 d16 e17 e26 e96 e97 d98 e1 c2 c4 c27)
        have u101 : q18 = (Z0 - (q98 * q96)) := (FrameLays_al102 Ym2 Y0 Y1 Y2 e3 d16 e18 e26 e96 e97 d98 e1 c2 c4 c27)
        have u103 : x0 = (Z0 - (q98 * q97)) := (FrameLays_al104 Y0 Y1 Y2 e26 e96 e97 d98 e1 e3 c2 c4 c27)
        obtain ⟨q105, e105⟩ := ex_eq ((Z2 * q96) / (((q26 * q26) + (q96 * q96)) + (q97 * q97)))
        have d105 := div_mul Y0 e105 (fun z => c27 (sq3_0 Y0 (z)))
        have u106 : q18 = (Z0 - (q105 * q26)) := (FrameLays_al107 Ym2 Y0 Y1 Y2 e3 d16 e18 e96 e26 e97 d105 e1 c2 c4 c27)
        have u108 : q23 = (Z1 - (q105 * q96)) := (FrameLays_al109 Ym2 Y0 Y1 Y2 e3 d16 e23 e96 e26 e97 d105 e1 c2 c4 c27)
        have u110 : x1 = (Z0 - (q105 * q97)) := (FrameLays_al111 Y0 Y1 Y2 e96 e26 e97 d105 e1 e3 c2 c4 c27)
        refine call_step (n_penumbraref06_Of_3 (k0 := q1) (k1 := q26) (k2 := q96) (k3 := q97) (k4 := q98) (k5 := q17) (k6 := q18) (k7 := x0) (k8 := q105) (k9 := q18) (k10 := q23) (k11 := x1) Y0 Y1 Y2 (h0.mono (by decide)) (h1.mono (by decide)) (h2.mono (by decide)) e1 e26 e96 e97 e98 u99 u101 u103 e105 u106 u108 u110 c2 c27) rfl ?_
        simp only [fa_agg, fa_one, fa_nil, List.cons_append, List.nil_append, List.append_nil]
        refine call_step n_penumbralaw06_fixed rfl ?_
        simp only [fa_agg, fa_one, fa_nil, List.cons_append, List.nil_append, List.append_nil]
        refine itT rfl ?_
        have m113 : Num 1 (cr Z1) Z1 := Num.c Y1 (by decide +kernel) (by decide +kernel)
        have m115 : Num 1 (cr Zm2) Zm2 := Num.c Ym2 (by decide +kernel) (by decide +kernel)
        have m117 : Num 1 (cr Z0) Z0 := Num.c Y0 (by decide +kernel) (by decide +kernel)
        have m116 : Num 6291470 (cr q3) q3 := Num.eqn e3 (Sm.add (Sm.add (Sm.mul (Sm.sub m117.sm h0.sm) (Sm.sub m117.sm h0.sm)) (Sm.mul (Sm.sub m117.sm h1.sm) (Sm.sub m117.sm h1.sm))) (Sm.mul (Sm.sub m113.sm h2.sm) (Sm.sub m113.sm h2.sm)))
        have m114 : Num 6291471 (cr q16) q16 := Num.eqn e16 (Sm.div m115.sm m116.sm)
        have m112 : Num 8388629 (cr q17) q17 := Num.eqn e17 (Sm.add m113.sm (Sm.mul (Sm.mul m114.sm (Sm.sub m117.sm h0.sm)) (Sm.sub m117.sm h0.sm)))
        have m118 : Num 8388629 (cr q18) q18 := Num.eqn e18 (Sm.add m117.sm (Sm.mul (Sm.mul m114.sm (Sm.sub m117.sm h0.sm)) (Sm.sub m117.sm h1.sm)))
        have m119 : Num 1048576 (cr x0) x0 := Num.of h0.sm
        have m120 : Num 8388629 (cr q23) q23 := Num.eqn e23 (Sm.add m113.sm (Sm.mul (Sm.mul m114.sm (Sm.sub m117.sm h1.sm)) (Sm.sub m117.sm h1.sm)))
        have m121 : Num 1048576 (cr x1) x1 := Num.of h1.sm
        have m122 : Num 1048576 (cr x2) x2 := Num.of h2.sm
        refine call_step (n_penumbraref06_Is_0 (m112.mono (by decide)) (m118.mono (by decide)) (m119.mono (by decide)) (m118.mono (by decide)) (m120.mono (by decide)) (m121.mono (by decide)) (m119.mono (by decide)) (m121.mono (by decide)) (m122.mono (by decide)) (m112.mono (by decide)) (m118.mono (by decide)) (m119.mono (by decide)) (m118.mono (by decide)) (m120.mono (by decide)) (m121.mono (by decide)) (m119.mono (by decide)) (m121.mono (by decide)) (m122.mono (by decide)) rfl rfl rfl rfl rfl rfl rfl rfl rfl) rfl ?_
        simp only [fa_agg, fa_one, fa_nil, List.cons_append, List.nil_append, List.append_nil]
        refine itT rfl ?_
        refine primS (.bool true) rfl ?_
        exact ret_step rfl
  · skip
    refine call_step (n_frame_Of_2 (k0 := q1) Y0 Y1 (h0.mono (by decide)) (h1.mono (by decide)) (h2.mono (by decide)) e1 c2) rfl ?_
    simp only [fa_agg, fa_one, fa_nil, List.cons_append, List.nil_append, List.append_nil]
    refine call_step (n_penumbraref06_Of_4 (k0 := q1) Y0 Y1 (h0.mono (by decide)) (h1.mono (by decide)) (h2.mono (by decide)) e1 c2) rfl ?_
    simp only [fa_agg, fa_one, fa_nil, List.cons_append, List.nil_append, List.append_nil]
    refine call_step n_penumbralaw06_fixed rfl ?_
    simp only [fa_agg, fa_one, fa_nil, List.cons_append, List.nil_append, List.append_nil]
    refine itT rfl ?_
    have m123 : Num 1 (cr Z0) Z0 := Num.c Y0 (by decide +kernel) (by decide +kernel)
    refine call_step (n_penumbraref06_Is_0 (m123.mono (by decide)) (m123.mono (by decide)) (m123.mono (by decide)) (m123.mono (by decide)) (m123.mono (by decide)) (m123.mono (by decide)) (m123.mono (by decide)) (m123.mono (by decide)) (m123.mono (by decide)) (m123.mono (by decide)) (m123.mono (by decide)) (m123.mono (by decide)) (m123.mono (by decide)) (m123.mono (by decide)) (m123.mono (by decide)) (m123.mono (by decide)) (m123.mono (by decide)) (m123.mono (by decide)) rfl rfl rfl rfl rfl rfl rfl rfl rfl) rfl ?_
    simp only [fa_agg, fa_one, fa_nil, List.cons_append, List.nil_append, List.append_nil]
    refine itT rfl ?_
    refine primS (.bool true) rfl ?_
    exact ret_step rfl

end Go.Px.Na

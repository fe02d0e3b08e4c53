/- QFrameTurns: whatever the numbers, the law tells true. -/
import Derived.Test.YtbpadnlpkdmkmaaXFrameTurns
set_option maxRecDepth 20000
set_option maxHeartbeats 4000000
set_option linter.unusedVariables false
set_option linter.unusedSimpArgs false
namespace Go.Px.Na
open Go.RowKit
open Go.Proofs.Try (prog)

theorem FrameTurns_al11 {Z0 Z1 : Rat} (Y0 : Z0 = (0 : Rat)) (Y1 : Z1 = (1 : Rat)) {x5 x3 x4 : Rat}  : x5 = (((x3 * Z0) + (x4 * Z0)) + (x5 * Z1)) := by
  subst Y0 Y1
  grind

theorem FrameTurns_al23 {Zm1 Z0 Z1 : Rat} (Ym1 : Zm1 = (-1 : Rat)) (Y0 : Z0 = (0 : Rat)) (Y1 : Z1 = (1 : Rat)) {q18 x5 q16 x3 q17 x4 : Rat} (e18 : q18 = (Zm1 * x5)) (e16 : q16 = (Zm1 * x3)) (e17 : q17 = (Zm1 * x4)) (c12 : ¬x5 = Z0) : q18 = (((q16 * Z0) + (q17 * Z0)) + (q18 * Z1)) := by
  subst Ym1 Y0 Y1 e18 e16 e17
  grind

theorem FrameTurns_al25 {Zm1 Z0 Z1 : Rat} (Ym1 : Zm1 = (-1 : Rat)) (Y0 : Z0 = (0 : Rat)) (Y1 : Z1 = (1 : Rat)) {q18 x5 q1 x0 x1 x2 q3 : Rat} (e18 : q18 = (Zm1 * x5)) (e1 : q1 = (((x0 * x0) + (x1 * x1)) + (x2 * x2))) (e3 : q3 = ((((Z0 - x0) * (Z0 - x0)) + ((Z0 - x1) * (Z0 - x1))) + ((Z1 - x2) * (Z1 - x2)))) (c2 : q1 = Z1) (c4 : q3 = Z0) (z5 : (Z0 - x0) = Z0) (z6 : (Z0 - x1) = Z0) (z7 : (Z1 - x2) = Z0) (c12 : ¬x5 = Z0) : ¬(q18 = Z0) := by
  subst Ym1 Y0 Y1 e18 e1 e3
  grind

theorem FrameTurns_al27 {Zm1 Z0 Z1 : Rat} (Ym1 : Zm1 = (-1 : Rat)) (Y0 : Z0 = (0 : Rat)) (Y1 : Z1 = (1 : Rat)) {q13 x3 x4 x5 q16 q17 q18 : Rat} (d13 : q13 * x5 = (((x3 * Z1) + (x4 * Z0)) + (x5 * Z0))) (e16 : q16 = (Zm1 * x3)) (e17 : q17 = (Zm1 * x4)) (e18 : q18 = (Zm1 * x5)) (c12 : ¬x5 = Z0) (c24 : ¬q18 = Z0) : q13 = ((((q16 * Z1) + (q17 * Z0)) + (q18 * Z0)) / q18) := by
  subst Ym1 Y0 Y1 e16 e17 e18
  grind

theorem FrameTurns_al29 {Zm1 Z0 Z1 : Rat} (Ym1 : Zm1 = (-1 : Rat)) (Y0 : Z0 = (0 : Rat)) (Y1 : Z1 = (1 : Rat)) {q14 x3 x4 x5 q16 q17 q18 : Rat} (d14 : q14 * x5 = (((x3 * Z0) + (x4 * Z1)) + (x5 * Z0))) (e16 : q16 = (Zm1 * x3)) (e17 : q17 = (Zm1 * x4)) (e18 : q18 = (Zm1 * x5)) (c12 : ¬x5 = Z0) (c24 : ¬q18 = Z0) : q14 = ((((q16 * Z0) + (q17 * Z1)) + (q18 * Z0)) / q18) := by
  subst Ym1 Y0 Y1 e16 e17 e18
  grind

theorem FrameTurns_al35 {Z0 Z1 : Rat} (Y0 : Z0 = (0 : Rat)) (Y1 : Z1 = (1 : Rat)) {q32 x6 x5 : Rat} (e32 : q32 = (x6 * x5)) (c12 : ¬x5 = Z0) : q32 = (q32 * Z1) := by
  subst Y0 Y1 e32
  grind

theorem FrameTurns_al37 {Z0 : Rat} (Y0 : Z0 = (0 : Rat)) {q32 x6 x5 : Rat} (e32 : q32 = (x6 * x5)) (c12 : ¬x5 = Z0) : Z0 = (q32 * Z0) := by
  subst Y0 e32
  grind

theorem FrameTurns_al41 {Z0 : Rat} (Y0 : Z0 = (0 : Rat)) {x4 : Rat}  : x4 = (x4 + Z0) := by
  subst Y0
  grind

theorem FrameTurns_al43 {Z0 : Rat} (Y0 : Z0 = (0 : Rat)) {x5 : Rat} (c12 : ¬x5 = Z0) : x5 = (x5 + Z0) := by
  subst Y0
  grind

theorem FrameTurns_al47 {Z0 Z1 : Rat} (Y0 : Z0 = (0 : Rat)) (Y1 : Z1 = (1 : Rat)) {x5 q39 x3 q32 x6 x4 : Rat} (e32 : q32 = (x6 * x5)) (e39 : q39 = (x3 + q32)) (c12 : ¬x5 = Z0) : x5 = (((q39 * Z0) + (x4 * Z0)) + (x5 * Z1)) := by
  subst Y0 Y1 e32 e39
  grind

theorem FrameTurns_al50 {Z0 Z1 : Rat} (Y0 : Z0 = (0 : Rat)) (Y1 : Z1 = (1 : Rat)) {q14 x3 x4 x5 q39 q32 x6 : Rat} (d14 : q14 * x5 = (((x3 * Z0) + (x4 * Z1)) + (x5 * Z0))) (e32 : q32 = (x6 * x5)) (e39 : q39 = (x3 + q32)) (c12 : ¬x5 = Z0) : q14 = ((((q39 * Z0) + (x4 * Z1)) + (x5 * Z0)) / x5) := by
  subst Y0 Y1 e32 e39
  grind

theorem FrameTurns_al54 {Zm1 Z0 : Rat} (Ym1 : Zm1 = (-1 : Rat)) (Y0 : Z0 = (0 : Rat)) {q18 x5 : Rat} (e18 : q18 = (Zm1 * x5)) (c12 : ¬x5 = Z0) (c24 : ¬q18 = Z0) : q18 = (-x5) := by
  subst Ym1 Y0 e18
  grind

theorem FrameTurns_al57 {Z0 Z1 : Rat} (Y0 : Z0 = (0 : Rat)) (Y1 : Z1 = (1 : Rat)) {q48 q39 x3 q32 x6 x5 x4 q13 : Rat} (e32 : q32 = (x6 * x5)) (e39 : q39 = (x3 + q32)) (d48 : q48 * x5 = (((q39 * Z1) + (x4 * Z0)) + (x5 * Z0))) (d13 : q13 * x5 = (((x3 * Z1) + (x4 * Z0)) + (x5 * Z0))) (c12 : ¬x5 = Z0) : q48 = (q13 + x6) := by
  subst Y0 Y1 e32 e39
  grind

theorem FrameTurns_al63 {Zm2 Z0 Z1 : Rat} (Ym2 : Zm2 = (-2 : Rat)) (Y0 : Z0 = (0 : Rat)) (Y1 : Z1 = (1 : Rat)) {x0 q59 q3 x1 x2 q1 : Rat} (e3 : q3 = ((((Z0 - x0) * (Z0 - x0)) + ((Z0 - x1) * (Z0 - x1))) + ((Z1 - x2) * (Z1 - x2)))) (d59 : q59 * q3 = Zm2) (e1 : q1 = (((x0 * x0) + (x1 * x1)) + (x2 * x2))) (c2 : q1 = Z1) (c4 : ¬q3 = Z0) : x0 = (Z0 + ((q59 * (Z0 - x0)) * (Z1 - x2))) := by
  subst Ym2 Y0 Y1 e3 e1
  grind

theorem FrameTurns_al65 {Zm2 Z0 Z1 : Rat} (Ym2 : Zm2 = (-2 : Rat)) (Y0 : Z0 = (0 : Rat)) (Y1 : Z1 = (1 : Rat)) {q61 q59 q3 x0 x1 x2 q1 : Rat} (e3 : q3 = ((((Z0 - x0) * (Z0 - x0)) + ((Z0 - x1) * (Z0 - x1))) + ((Z1 - x2) * (Z1 - x2)))) (d59 : q59 * q3 = Zm2) (e61 : q61 = (Z0 + ((q59 * (Z0 - x0)) * (Z0 - x1)))) (e1 : q1 = (((x0 * x0) + (x1 * x1)) + (x2 * x2))) (c2 : q1 = Z1) (c4 : ¬q3 = Z0) : q61 = (Z0 + ((q59 * (Z0 - x1)) * (Z0 - x0))) := by
  subst Ym2 Y0 Y1 e3 e61 e1
  grind

theorem FrameTurns_al68 {Zm2 Z0 Z1 : Rat} (Ym2 : Zm2 = (-2 : Rat)) (Y0 : Z0 = (0 : Rat)) (Y1 : Z1 = (1 : Rat)) {x1 q59 q3 x0 x2 q1 : Rat} (e3 : q3 = ((((Z0 - x0) * (Z0 - x0)) + ((Z0 - x1) * (Z0 - x1))) + ((Z1 - x2) * (Z1 - x2)))) (d59 : q59 * q3 = Zm2) (e1 : q1 = (((x0 * x0) + (x1 * x1)) + (x2 * x2))) (c2 : q1 = Z1) (c4 : ¬q3 = Z0) : x1 = (Z0 + ((q59 * (Z0 - x1)) * (Z1 - x2))) := by
  subst Ym2 Y0 Y1 e3 e1
  grind

theorem FrameTurns_al93 {Zm1 Z0 Z1 : Rat} (Ym1 : Zm1 = (-1 : Rat)) (Y0 : Z0 = (0 : Rat)) (Y1 : Z1 = (1 : Rat)) {q91 q85 x3 x0 q86 x4 x1 q87 x5 x2 q1 q3 q80 : Rat} (e85 : q85 = (Zm1 * x3)) (e86 : q86 = (Zm1 * x4)) (e87 : q87 = (Zm1 * x5)) (e91 : q91 = (((q85 * x0) + (q86 * x1)) + (q87 * x2))) (e1 : q1 = (((x0 * x0) + (x1 * x1)) + (x2 * x2))) (e3 : q3 = ((((Z0 - x0) * (Z0 - x0)) + ((Z0 - x1) * (Z0 - x1))) + ((Z1 - x2) * (Z1 - x2)))) (e80 : q80 = (((x3 * x0) + (x4 * x1)) + (x5 * x2))) (c2 : q1 = Z1) (c4 : ¬q3 = Z0) (c81 : ¬q80 = Z0) : ¬(q91 = Z0) := by
  subst Ym1 Y0 Y1 e85 e86 e87 e91 e1 e3 e80
  grind

theorem FrameTurns_al95 {Zm2 Zm1 Z0 Z1 : Rat} (Ym2 : Zm2 = (-2 : Rat)) (Ym1 : Zm1 = (-1 : Rat)) (Y0 : Z0 = (0 : Rat)) (Y1 : Z1 = (1 : Rat)) {q82 x3 q60 q59 q3 x0 x1 x2 x4 q61 x5 q80 q85 q86 q87 q91 q1 : Rat} (e3 : q3 = ((((Z0 - x0) * (Z0 - x0)) + ((Z0 - x1) * (Z0 - x1))) + ((Z1 - x2) * (Z1 - x2)))) (d59 : q59 * q3 = Zm2) (e60 : q60 = (Z1 + ((q59 * (Z0 - x0)) * (Z0 - x0)))) (e61 : q61 = (Z0 + ((q59 * (Z0 - x0)) * (Z0 - x1)))) (e80 : q80 = (((x3 * x0) + (x4 * x1)) + (x5 * x2))) (d82 : q82 * q80 = (((x3 * q60) + (x4 * q61)) + (x5 * x0))) (e85 : q85 = (Zm1 * x3)) (e86 : q86 = (Zm1 * x4)) (e87 : q87 = (Zm1 * x5)) (e91 : q91 = (((q85 * x0) + (q86 * x1)) + (q87 * x2))) (e1 : q1 = (((x0 * x0) + (x1 * x1)) + (x2 * x2))) (c2 : q1 = Z1) (c4 : ¬q3 = Z0) (c81 : ¬q80 = Z0) (c92 : ¬q91 = Z0) : q82 = ((((q85 * q60) + (q86 * q61)) + (q87 * x0)) / q91) := by
  subst Ym2 Ym1 Y0 Y1 e3 e60 e61 e80 e85 e86 e87 e91 e1
  grind

theorem FrameTurns_al97 {Zm2 Zm1 Z0 Z1 : Rat} (Ym2 : Zm2 = (-2 : Rat)) (Ym1 : Zm1 = (-1 : Rat)) (Y0 : Z0 = (0 : Rat)) (Y1 : Z1 = (1 : Rat)) {q83 x3 q61 q59 q3 x0 x1 x2 x4 q66 x5 q80 q85 q86 q87 q91 q1 : Rat} (e3 : q3 = ((((Z0 - x0) * (Z0 - x0)) + ((Z0 - x1) * (Z0 - x1))) + ((Z1 - x2) * (Z1 - x2)))) (d59 : q59 * q3 = Zm2) (e61 : q61 = (Z0 + ((q59 * (Z0 - x0)) * (Z0 - x1)))) (e66 : q66 = (Z1 + ((q59 * (Z0 - x1)) * (Z0 - x1)))) (e80 : q80 = (((x3 * x0) + (x4 * x1)) + (x5 * x2))) (d83 : q83 * q80 = (((x3 * q61) + (x4 * q66)) + (x5 * x1))) (e85 : q85 = (Zm1 * x3)) (e86 : q86 = (Zm1 * x4)) (e87 : q87 = (Zm1 * x5)) (e91 : q91 = (((q85 * x0) + (q86 * x1)) + (q87 * x2))) (e1 : q1 = (((x0 * x0) + (x1 * x1)) + (x2 * x2))) (c2 : q1 = Z1) (c4 : ¬q3 = Z0) (c81 : ¬q80 = Z0) (c92 : ¬q91 = Z0) : q83 = ((((q85 * q61) + (q86 * q66)) + (q87 * x1)) / q91) := by
  subst Ym2 Ym1 Y0 Y1 e3 e61 e66 e80 e85 e86 e87 e91 e1
  grind

theorem FrameTurns_al116 {Zm2 Z0 Z1 : Rat} (Ym2 : Zm2 = (-2 : Rat)) (Y0 : Z0 = (0 : Rat)) (Y1 : Z1 = (1 : Rat)) {q80 x3 x0 x4 x1 x5 x2 q109 q102 q100 x6 q60 q59 q3 q110 q103 q61 q111 q104 q1 : Rat} (e80 : q80 = (((x3 * x0) + (x4 * x1)) + (x5 * x2))) (e100 : q100 = (x6 * q80)) (e3 : q3 = ((((Z0 - x0) * (Z0 - x0)) + ((Z0 - x1) * (Z0 - x1))) + ((Z1 - x2) * (Z1 - x2)))) (d59 : q59 * q3 = Zm2) (e60 : q60 = (Z1 + ((q59 * (Z0 - x0)) * (Z0 - x0)))) (e102 : q102 = (q100 * q60)) (e109 : q109 = (x3 + q102)) (e61 : q61 = (Z0 + ((q59 * (Z0 - x0)) * (Z0 - x1)))) (e103 : q103 = (q100 * q61)) (e110 : q110 = (x4 + q103)) (e104 : q104 = (q100 * x0)) (e111 : q111 = (x5 + q104)) (e1 : q1 = (((x0 * x0) + (x1 * x1)) + (x2 * x2))) (c2 : q1 = Z1) (c4 : ¬q3 = Z0) (c81 : ¬q80 = Z0) : q80 = (((q109 * x0) + (q110 * x1)) + (q111 * x2)) := by
  subst Ym2 Y0 Y1 e80 e100 e3 e60 e102 e109 e61 e103 e110 e104 e111 e1
  grind

theorem FrameTurns_al119 {Zm2 Z0 Z1 : Rat} (Ym2 : Zm2 = (-2 : Rat)) (Y0 : Z0 = (0 : Rat)) (Y1 : Z1 = (1 : Rat)) {q83 x3 q61 q59 q3 x0 x1 x2 x4 q66 x5 q80 q109 q102 q100 x6 q60 q110 q103 q111 q104 q1 : Rat} (e3 : q3 = ((((Z0 - x0) * (Z0 - x0)) + ((Z0 - x1) * (Z0 - x1))) + ((Z1 - x2) * (Z1 - x2)))) (d59 : q59 * q3 = Zm2) (e61 : q61 = (Z0 + ((q59 * (Z0 - x0)) * (Z0 - x1)))) (e66 : q66 = (Z1 + ((q59 * (Z0 - x1)) * (Z0 - x1)))) (e80 : q80 = (((x3 * x0) + (x4 * x1)) + (x5 * x2))) (d83 : q83 * q80 = (((x3 * q61) + (x4 * q66)) + (x5 * x1))) (e100 : q100 = (x6 * q80)) (e60 : q60 = (Z1 + ((q59 * (Z0 - x0)) * (Z0 - x0)))) (e102 : q102 = (q100 * q60)) (e109 : q109 = (x3 + q102)) (e103 : q103 = (q100 * q61)) (e110 : q110 = (x4 + q103)) (e104 : q104 = (q100 * x0)) (e111 : q111 = (x5 + q104)) (e1 : q1 = (((x0 * x0) + (x1 * x1)) + (x2 * x2))) (c2 : q1 = Z1) (c4 : ¬q3 = Z0) (c81 : ¬q80 = Z0) : q83 = ((((q109 * q61) + (q110 * q66)) + (q111 * x1)) / q80) := by
  subst Ym2 Y0 Y1 e3 e61 e66 e80 e100 e60 e102 e109 e103 e110 e104 e111 e1
  grind

theorem FrameTurns_al123 {Zm1 Z0 Z1 : Rat} (Ym1 : Zm1 = (-1 : Rat)) (Y0 : Z0 = (0 : Rat)) (Y1 : Z1 = (1 : Rat)) {q91 q85 x3 x0 q86 x4 x1 q87 x5 x2 q80 q1 : Rat} (e85 : q85 = (Zm1 * x3)) (e86 : q86 = (Zm1 * x4)) (e87 : q87 = (Zm1 * x5)) (e91 : q91 = (((q85 * x0) + (q86 * x1)) + (q87 * x2))) (e80 : q80 = (((x3 * x0) + (x4 * x1)) + (x5 * x2))) (e1 : q1 = (((x0 * x0) + (x1 * x1)) + (x2 * x2))) (c2 : q1 = Z1) (c81 : ¬q80 = Z0) (c92 : ¬q91 = Z0) : q91 = (-q80) := by
  subst Ym1 Y0 Y1 e85 e86 e87 e91 e80 e1
  grind

theorem FrameTurns_al127 {Zm2 Z0 Z1 : Rat} (Ym2 : Zm2 = (-2 : Rat)) (Y0 : Z0 = (0 : Rat)) (Y1 : Z1 = (1 : Rat)) {q117 q109 x3 q102 q100 x6 q80 x0 x4 x1 x5 x2 q60 q59 q3 q110 q103 q61 q111 q104 q82 q1 : Rat} (e80 : q80 = (((x3 * x0) + (x4 * x1)) + (x5 * x2))) (e100 : q100 = (x6 * q80)) (e3 : q3 = ((((Z0 - x0) * (Z0 - x0)) + ((Z0 - x1) * (Z0 - x1))) + ((Z1 - x2) * (Z1 - x2)))) (d59 : q59 * q3 = Zm2) (e60 : q60 = (Z1 + ((q59 * (Z0 - x0)) * (Z0 - x0)))) (e102 : q102 = (q100 * q60)) (e109 : q109 = (x3 + q102)) (e61 : q61 = (Z0 + ((q59 * (Z0 - x0)) * (Z0 - x1)))) (e103 : q103 = (q100 * q61)) (e110 : q110 = (x4 + q103)) (e104 : q104 = (q100 * x0)) (e111 : q111 = (x5 + q104)) (d117 : q117 * q80 = (((q109 * q60) + (q110 * q61)) + (q111 * x0))) (d82 : q82 * q80 = (((x3 * q60) + (x4 * q61)) + (x5 * x0))) (e1 : q1 = (((x0 * x0) + (x1 * x1)) + (x2 * x2))) (c2 : q1 = Z1) (c4 : ¬q3 = Z0) (c81 : ¬q80 = Z0) : q117 = (q82 + x6) := by
  subst Ym2 Y0 Y1 e80 e100 e3 e60 e102 e109 e61 e103 e110 e104 e111 e1
  grind

theorem FrameTurns_al131 {Z0 : Rat} (Y0 : Z0 = (0 : Rat)) {x3 x4 x5 : Rat}  : Z0 = (((x3 * Z0) + (x4 * Z0)) + (x5 * Z0)) := by
  subst Y0
  grind

theorem pure_FrameTurns {r0 r1 r2 r3 r4 r5 r6 : RR} (g0 : r0.ok 1048576) (g1 : r1.ok 1048576) (g2 : r2.ok 1048576) (g3 : r3.ok 1048576) (g4 : r4.ok 1048576) (g5 : r5.ok 1048576) (g6 : r6.ok 1048576) : PureCalls prog F.penumbralaw06_FrameTurns [.agg ([.bool r0.neg, nl r0.num, nl r0.den, .bool r1.neg, nl r1.num, nl r1.den, .bool r2.neg, nl r2.num, nl r2.den]), .agg ([.bool r3.neg, nl r3.num, nl r3.den, .bool r4.neg, nl r4.num, nl r4.den, .bool r5.neg, nl r5.num, nl r5.den]), .agg ([.bool r6.neg, nl r6.num, nl r6.den])] [.one (.bool true)] := by
  obtain ⟨Zm2, Ym2⟩ := ex_eq (-2 : Rat)
  obtain ⟨Zm1, Ym1⟩ := ex_eq (-1 : Rat)
  obtain ⟨Z0, Y0⟩ := ex_eq (0 : Rat)
  obtain ⟨Z1, Y1⟩ := ex_eq (1 : Rat)
  obtain ⟨x0, h0⟩ := Num.raw g0 (by decide)
  obtain ⟨x1, h1⟩ := Num.raw g1 (by decide)
  obtain ⟨x2, h2⟩ := Num.raw g2 (by decide)
  obtain ⟨x3, h3⟩ := Num.raw g3 (by decide)
  obtain ⟨x4, h4⟩ := Num.raw g4 (by decide)
  obtain ⟨x5, h5⟩ := Num.raw g5 (by decide)
  obtain ⟨x6, h6⟩ := Num.raw g6 (by decide)
  refine symFunc_sound hmix tree_penumbralaw06_FrameTurns (by kernel_rfl) rfl ?_
  unfold ir_penumbralaw06_FrameTurns
  simp only [fa_agg, fa_one, fa_nil, List.cons_append, List.nil_append, List.append_nil]
  obtain ⟨q1, e1⟩ := ex_eq (((x0 * x0) + (x1 * x1)) + (x2 * x2))
  by_cases c2 : q1 = Z1
  · skip
    obtain ⟨q3, e3⟩ := ex_eq ((((Z0 - x0) * (Z0 - x0)) + ((Z0 - x1) * (Z0 - x1))) + ((Z1 - x2) * (Z1 - x2)))
    by_cases c4 : q3 = Z0
    · skip
      have z5 : (Z0 - x0) = Z0 := sq3_0 Y0 (e3.symm.trans c4)
      have z6 : (Z0 - x1) = Z0 := sq3_1 Y0 (e3.symm.trans c4)
      have z7 : (Z1 - x2) = Z0 := sq3_2 Y0 (e3.symm.trans c4)
      refine call_step (n_frame_Of_0 (k0 := q1) (k1 := q3) Ym2 Y0 Y1 (h0.mono (by decide)) (h1.mono (by decide)) (h2.mono (by decide)) e1 e3 c2 c4) rfl ?_
      simp only [fa_agg, fa_one, fa_nil, List.cons_append, List.nil_append, List.append_nil]
      have m8 : Num 1 (cr Z1) Z1 := Num.c Y1 (by decide +kernel) (by decide +kernel)
      have m9 : Num 1 (cr Z0) Z0 := Num.c Y0 (by decide +kernel) (by decide +kernel)
      have u10 : x5 = (((x3 * Z0) + (x4 * Z0)) + (x5 * Z1)) := (FrameTurns_al11 Y0 Y1)
      by_cases c12 : x5 = Z0
      · skip
        refine call_step (n_frame_Slopes_0 (k0 := x5) Y0 (m8.mono (by decide)) (m9.mono (by decide)) (m9.mono (by decide)) (m9.mono (by decide)) (m8.mono (by decide)) (m9.mono (by decide)) (m9.mono (by decide)) (m9.mono (by decide)) (m8.mono (by decide)) (h3.mono (by decide)) (h4.mono (by decide)) (h5.mono (by decide)) u10 c12) rfl ?_
        simp only [fa_agg, fa_one, fa_nil, List.cons_append, List.nil_append, List.append_nil]
        refine call_step n_penumbralaw06_fixed rfl ?_
        simp only [fa_agg, fa_one, fa_nil, List.cons_append, List.nil_append, List.append_nil]
        refine primS (.bool false) rfl ?_
        refine itF rfl ?_
        refine primS (.bool false) rfl ?_
        refine itF rfl ?_
        refine primS (.bool true) rfl ?_
        refine itT rfl ?_
        refine call_step n_penumbralaw06_fixed rfl ?_
        simp only [fa_agg, fa_one, fa_nil, List.cons_append, List.nil_append, List.append_nil]
        exact ret_step rfl
      · skip
        obtain ⟨q13, e13⟩ := ex_eq ((((x3 * Z1) + (x4 * Z0)) + (x5 * Z0)) / x5)
        have d13 := div_mul Y0 e13 c12
        obtain ⟨q14, e14⟩ := ex_eq ((((x3 * Z0) + (x4 * Z1)) + (x5 * Z0)) / x5)
        have d14 := div_mul Y0 e14 c12
        refine call_step (n_frame_Slopes_1 (k0 := x5) (k1 := q13) (k2 := q14) Y0 (m8.mono (by decide)) (m9.mono (by decide)) (m9.mono (by decide)) (m9.mono (by decide)) (m8.mono (by decide)) (m9.mono (by decide)) (m9.mono (by decide)) (m9.mono (by decide)) (m8.mono (by decide)) (h3.mono (by decide)) (h4.mono (by decide)) (h5.mono (by decide)) u10 e13 e14 c12) rfl ?_
        simp only [fa_agg, fa_one, fa_nil, List.cons_append, List.nil_append, List.append_nil]
        refine call_step n_penumbralaw06_fixed rfl ?_
        simp only [fa_agg, fa_one, fa_nil, List.cons_append, List.nil_append, List.append_nil]
        refine primS (.bool false) rfl ?_
        refine itF rfl ?_
        refine primS (.bool false) rfl ?_
        refine itF rfl ?_
        refine primS (.bool false) rfl ?_
        refine itF rfl ?_
        refine call_step (n_rat_Of (-1) (1) (by decide) (by decide) (by decide) (by decide) (Ym1.trans (by decide +kernel))) rfl ?_
        simp only [fa_agg, fa_one, fa_nil, List.cons_append, List.nil_append, List.append_nil]
        have m15 : Num 1 (cr Zm1) Zm1 := Num.c Ym1 (by decide +kernel) (by decide +kernel)
        obtain ⟨q16, e16⟩ := ex_eq (Zm1 * x3)
        obtain ⟨q17, e17⟩ := ex_eq (Zm1 * x4)
        obtain ⟨q18, e18⟩ := ex_eq (Zm1 * x5)
        refine call_step (n_vec_Scale_0 (k0 := q16) (k1 := q17) (k2 := q18) (m15.mono (by decide)) (h3.mono (by decide)) (h4.mono (by decide)) (h5.mono (by decide)) e16 e17 e18) rfl ?_
        simp only [fa_agg, fa_one, fa_nil, List.cons_append, List.nil_append, List.append_nil]
        have m19 : Num 1048577 (cr q16) q16 := Num.eqn e16 (Sm.mul m15.sm h3.sm)
        have m20 : Num 1048577 (cr q17) q17 := Num.eqn e17 (Sm.mul m15.sm h4.sm)
        have m21 : Num 1048577 (cr q18) q18 := Num.eqn e18 (Sm.mul m15.sm h5.sm)
        have u22 : q18 = (((q16 * Z0) + (q17 * Z0)) + (q18 * Z1)) := (FrameTurns_al23 Ym1 Y0 Y1 e18 e16 e17 c12)
        have c24 : ¬(q18 = Z0) := (FrameTurns_al25 Ym1 Y0 Y1 e18 e1 e3 c2 c4 z5 z6 z7 c12)
        have u26 : q13 = ((((q16 * Z1) + (q17 * Z0)) + (q18 * Z0)) / q18) := (FrameTurns_al27 Ym1 Y0 Y1 d13 e16 e17 e18 c12 c24)
        have u28 : q14 = ((((q16 * Z0) + (q17 * Z1)) + (q18 * Z0)) / q18) := (FrameTurns_al29 Ym1 Y0 Y1 d14 e16 e17 e18 c12 c24)
        refine call_step (n_frame_Slopes_1 (k0 := q18) (k1 := q13) (k2 := q14) Y0 (m8.mono (by decide)) (m9.mono (by decide)) (m9.mono (by decide)) (m9.mono (by decide)) (m8.mono (by decide)) (m9.mono (by decide)) (m9.mono (by decide)) (m9.mono (by decide)) (m8.mono (by decide)) (m19.mono (by decide)) (m20.mono (by decide)) (m21.mono (by decide)) u22 u26 u28 c24) rfl ?_
        simp only [fa_agg, fa_one, fa_nil, List.cons_append, List.nil_append, List.append_nil]
        refine primS (rl [r6, (cr x5)]) rfl ?_
        have m31 : Num 1048576 (cr x5) x5 := Num.of h5.sm
        obtain ⟨q32, e32⟩ := ex_eq (x6 * x5)
        refine call_step (n_rat_Product_2 (k0 := q32) (h6.mono (by decide)) (m31.mono (by decide)) e32) rfl ?_
        simp only [fa_agg, fa_one, fa_nil, List.cons_append, List.nil_append, List.append_nil]
        have m33 : Num 2097152 (cr q32) q32 := Num.eqn e32 (Sm.mul h6.sm m31.sm)
        have u34 : q32 = (q32 * Z1) := (FrameTurns_al35 Y0 Y1 e32 c12)
        have u36 : Z0 = (q32 * Z0) := (FrameTurns_al37 Y0 e32 c12)
        refine call_step (n_vec_Scale_0 (k0 := q32) (k1 := Z0) (k2 := Z0) (m33.mono (by decide)) (m8.mono (by decide)) (m9.mono (by decide)) (m9.mono (by decide)) u34 u36 u36) rfl ?_
        simp only [fa_agg, fa_one, fa_nil, List.cons_append, List.nil_append, List.append_nil]
        refine primS (rl3 [(r3, r4, r5), ((cr q32), (cr Z0), (cr Z0))]) rfl ?_
        obtain ⟨q39, e39⟩ := ex_eq (x3 + q32)
        have u40 : x4 = (x4 + Z0) := (FrameTurns_al41 Y0)
        have u42 : x5 = (x5 + Z0) := (FrameTurns_al43 Y0 c12)
        refine call_step (n_vec_Sum_2 (o0 := q39) (o1 := x4) (o2 := x5) (h3.mono (by decide)) (h4.mono (by decide)) (h5.mono (by decide)) (m33.mono (by decide)) (m9.mono (by decide)) (m9.mono (by decide)) e39 u40 u42) rfl ?_
        simp only [fa_agg, fa_one, fa_nil, List.cons_append, List.nil_append, List.append_nil]
        have m44 : Num 3145729 (cr q39) q39 := Num.eqn e39 (Sm.add h3.sm m33.sm)
        have m45 : Num 1048576 (cr x4) x4 := Num.of h4.sm
        have u46 : x5 = (((q39 * Z0) + (x4 * Z0)) + (x5 * Z1)) := (FrameTurns_al47 Y0 Y1 e32 e39 c12)
        obtain ⟨q48, e48⟩ := ex_eq ((((q39 * Z1) + (x4 * Z0)) + (x5 * Z0)) / x5)
        have d48 := div_mul Y0 e48 c12
        have u49 : q14 = ((((q39 * Z0) + (x4 * Z1)) + (x5 * Z0)) / x5) := (FrameTurns_al50 Y0 Y1 d14 e32 e39 c12)
        refine call_step (n_frame_Slopes_1 (k0 := x5) (k1 := q48) (k2 := q14) Y0 (m8.mono (by decide)) (m9.mono (by decide)) (m9.mono (by decide)) (m9.mono (by decide)) (m8.mono (by decide)) (m9.mono (by decide)) (m9.mono (by decide)) (m9.mono (by decide)) (m8.mono (by decide)) (m44.mono (by decide)) (m45.mono (by decide)) (m31.mono (by decide)) u46 e48 u49 c12) rfl ?_
        simp only [fa_agg, fa_one, fa_nil, List.cons_append, List.nil_append, List.append_nil]
        refine itT rfl ?_
        have m51 : Num 4194309 (cr q13) q13 := Num.eqn e13 (Sm.div (Sm.add (Sm.add (Sm.mul h3.sm m8.sm) (Sm.mul h4.sm m9.sm)) (Sm.mul h5.sm m9.sm)) m31.sm)
        refine call_step (n_penumbraref03_Is_t (m51.mono (by decide)) (m51.mono (by decide)) rfl) rfl ?_
        simp only [fa_agg, fa_one, fa_nil, List.cons_append, List.nil_append, List.append_nil]
        refine itT rfl ?_
        have m52 : Num 4194309 (cr q14) q14 := Num.eqn e14 (Sm.div (Sm.add (Sm.add (Sm.mul h3.sm m9.sm) (Sm.mul h4.sm m8.sm)) (Sm.mul h5.sm m9.sm)) m31.sm)
        refine call_step (n_penumbraref03_Is_t (m52.mono (by decide)) (m52.mono (by decide)) rfl) rfl ?_
        simp only [fa_agg, fa_one, fa_nil, List.cons_append, List.nil_append, List.append_nil]
        refine itT rfl ?_
        have u53 : q18 = (-x5) := (FrameTurns_al54 Ym1 Y0 e18 c12 c24)
        refine call_step (n_rat_Neg (k0 := q18) (m31.mono (by decide)) u53) rfl ?_
        simp only [fa_agg, fa_one, fa_nil, List.cons_append, List.nil_append, List.append_nil]
        refine call_step (n_penumbraref03_Is_t (m21.mono (by decide)) (m21.mono (by decide)) rfl) rfl ?_
        simp only [fa_agg, fa_one, fa_nil, List.cons_append, List.nil_append, List.append_nil]
        refine itT rfl ?_
        refine itT rfl ?_
        refine primS (rl [(cr q13), r6]) rfl ?_
        have u56 : q48 = (q13 + x6) := (FrameTurns_al57 Y0 Y1 e32 e39 d48 d13 c12)
        refine call_step (n_rat_Sum_2 (k0 := q48) (m51.mono (by decide)) (h6.mono (by decide)) u56) rfl ?_
        simp only [fa_agg, fa_one, fa_nil, List.cons_append, List.nil_append, List.append_nil]
        have m58 : Num 6291462 (cr q48) q48 := Num.eqn e48 (Sm.div (Sm.add (Sm.add (Sm.mul m44.sm m8.sm) (Sm.mul m45.sm m9.sm)) (Sm.mul m31.sm m9.sm)) m31.sm)
        refine call_step (n_penumbraref03_Is_t (m58.mono (by decide)) (m58.mono (by decide)) rfl) rfl ?_
        simp only [fa_agg, fa_one, fa_nil, List.cons_append, List.nil_append, List.append_nil]
        refine itT rfl ?_
        refine call_step (n_penumbraref03_Is_t (m52.mono (by decide)) (m52.mono (by decide)) rfl) rfl ?_
        simp only [fa_agg, fa_one, fa_nil, List.cons_append, List.nil_append, List.append_nil]
        refine itT rfl ?_
        refine call_step (n_penumbraref03_Is_t (m31.mono (by decide)) (m31.mono (by decide)) rfl) rfl ?_
        simp only [fa_agg, fa_one, fa_nil, List.cons_append, List.nil_append, List.append_nil]
        exact ret_step rfl
    · skip
      obtain ⟨q59, e59⟩ := ex_eq (Zm2 / q3)
      have d59 := div_mul Y0 e59 c4
      obtain ⟨q60, e60⟩ := ex_eq (Z1 + ((q59 * (Z0 - x0)) * (Z0 - x0)))
      obtain ⟨q61, e61⟩ := ex_eq (Z0 + ((q59 * (Z0 - x0)) * (Z0 - x1)))
      have u62 : x0 = (Z0 + ((q59 * (Z0 - x0)) * (Z1 - x2))) := (FrameTurns_al63 Ym2 Y0 Y1 e3 d59 e1 c2 c4)
      have u64 : q61 = (Z0 + ((q59 * (Z0 - x1)) * (Z0 - x0))) := (FrameTurns_al65 Ym2 Y0 Y1 e3 d59 e61 e1 c2 c4)
      obtain ⟨q66, e66⟩ := ex_eq (Z1 + ((q59 * (Z0 - x1)) * (Z0 - x1)))
      have u67 : x1 = (Z0 + ((q59 * (Z0 - x1)) * (Z1 - x2))) := (FrameTurns_al68 Ym2 Y0 Y1 e3 d59 e1 c2 c4)
      refine call_step (n_frame_Of_1 (k0 := q1) (k1 := q3) (k2 := q59) (k3 := q60) (k4 := q61) (k5 := x0) (k6 := q61) (k7 := q66) (k8 := x1) Ym2 Y0 Y1 (h0.mono (by decide)) (h1.mono (by decide)) (h2.mono (by decide)) e1 e3 e59 e60 e61 u62 u64 e66 u67 c2 c4) rfl ?_
      simp only [fa_agg, fa_one, fa_nil, List.cons_append, List.nil_append, List.append_nil]
      have m70 : Num 1 (cr Z1) Z1 := Num.c Y1 (by decide +kernel) (by decide +kernel)
      have m72 : Num 1 (cr Zm2) Zm2 := Num.c Ym2 (by decide +kernel) (by decide +kernel)
      have m74 : Num 1 (cr Z0) Z0 := Num.c Y0 (by decide +kernel) (by decide +kernel)
      have m73 : Num 6291470 (cr q3) q3 := Num.eqn e3 (Sm.add (Sm.add (Sm.mul (Sm.sub m74.sm h0.sm) (Sm.sub m74.sm h0.sm)) (Sm.mul (Sm.sub m74.sm h1.sm) (Sm.sub m74.sm h1.sm))) (Sm.mul (Sm.sub m70.sm h2.sm) (Sm.sub m70.sm h2.sm)))
      have m71 : Num 6291471 (cr q59) q59 := Num.eqn e59 (Sm.div m72.sm m73.sm)
      have m69 : Num 8388629 (cr q60) q60 := Num.eqn e60 (Sm.add m70.sm (Sm.mul (Sm.mul m71.sm (Sm.sub m74.sm h0.sm)) (Sm.sub m74.sm h0.sm)))
      have m75 : Num 8388629 (cr q61) q61 := Num.eqn e61 (Sm.add m74.sm (Sm.mul (Sm.mul m71.sm (Sm.sub m74.sm h0.sm)) (Sm.sub m74.sm h1.sm)))
      have m76 : Num 1048576 (cr x0) x0 := Num.of h0.sm
      have m77 : Num 8388629 (cr q66) q66 := Num.eqn e66 (Sm.add m70.sm (Sm.mul (Sm.mul m71.sm (Sm.sub m74.sm h1.sm)) (Sm.sub m74.sm h1.sm)))
      have m78 : Num 1048576 (cr x1) x1 := Num.of h1.sm
      have m79 : Num 1048576 (cr x2) x2 := Num.of h2.sm
      obtain ⟨q80, e80⟩ := ex_eq (((x3 * x0) + (x4 * x1)) + (x5 * x2))
      by_cases c81 : q80 = Z0
      · skip
        refine call_step (n_frame_Slopes_0 (k0 := q80) Y0 (m69.mono (by decide)) (m75.mono (by decide)) (m76.mono (by decide)) (m75.mono (by decide)) (m77.mono (by decide)) (m78.mono (by decide)) (m76.mono (by decide)) (m78.mono (by decide)) (m79.mono (by decide)) (h3.mono (by decide)) (h4.mono (by decide)) (h5.mono (by decide)) e80 c81) rfl ?_
        simp only [fa_agg, fa_one, fa_nil, List.cons_append, List.nil_append, List.append_nil]
        refine call_step n_penumbralaw06_fixed rfl ?_
        simp only [fa_agg, fa_one, fa_nil, List.cons_append, List.nil_append, List.append_nil]
        refine primS (.bool false) rfl ?_
        refine itF rfl ?_
        refine primS (.bool false) rfl ?_
        refine itF rfl ?_
        refine primS (.bool true) rfl ?_
        refine itT rfl ?_
        refine call_step n_penumbralaw06_fixed rfl ?_
        simp only [fa_agg, fa_one, fa_nil, List.cons_append, List.nil_append, List.append_nil]
        exact ret_step rfl
      · skip
        obtain ⟨q82, e82⟩ := ex_eq ((((x3 * q60) + (x4 * q61)) + (x5 * x0)) / q80)
        have d82 := div_mul Y0 e82 c81
        obtain ⟨q83, e83⟩ := ex_eq ((((x3 * q61) + (x4 * q66)) + (x5 * x1)) / q80)
        have d83 := div_mul Y0 e83 c81
        refine call_step (n_frame_Slopes_1 (k0 := q80) (k1 := q82) (k2 := q83) Y0 (m69.mono (by decide)) (m75.mono (by decide)) (m76.mono (by decide)) (m75.mono (by decide)) (m77.mono (by decide)) (m78.mono (by decide)) (m76.mono (by decide)) (m78.mono (by decide)) (m79.mono (by decide)) (h3.mono (by decide)) (h4.mono (by decide)) (h5.mono (by decide)) e80 e82 e83 c81) rfl ?_
        simp only [fa_agg, fa_one, fa_nil, List.cons_append, List.nil_append, List.append_nil]
        refine call_step n_penumbralaw06_fixed rfl ?_
        simp only [fa_agg, fa_one, fa_nil, List.cons_append, List.nil_append, List.append_nil]
        refine primS (.bool false) rfl ?_
        refine itF rfl ?_
        refine primS (.bool false) rfl ?_
        refine itF rfl ?_
        refine primS (.bool false) rfl ?_
        refine itF rfl ?_
        refine call_step (n_rat_Of (-1) (1) (by decide) (by decide) (by decide) (by decide) (Ym1.trans (by decide +kernel))) rfl ?_
        simp only [fa_agg, fa_one, fa_nil, List.cons_append, List.nil_append, List.append_nil]
        have m84 : Num 1 (cr Zm1) Zm1 := Num.c Ym1 (by decide +kernel) (by decide +kernel)
        obtain ⟨q85, e85⟩ := ex_eq (Zm1 * x3)
        obtain ⟨q86, e86⟩ := ex_eq (Zm1 * x4)
        obtain ⟨q87, e87⟩ := ex_eq (Zm1 * x5)
        refine call_step (n_vec_Scale_0 (k0 := q85) (k1 := q86) (k2 := q87) (m84.mono (by decide)) (h3.mono (by decide)) (h4.mono (by decide)) (h5.mono (by decide)) e85 e86 e87) rfl ?_
        simp only [fa_agg, fa_one, fa_nil, List.cons_append, List.nil_append, List.append_nil]
        have m88 : Num 1048577 (cr q85) q85 := Num.eqn e85 (Sm.mul m84.sm h3.sm)
        have m89 : Num 1048577 (cr q86) q86 := Num.eqn e86 (Sm.mul m84.sm h4.sm)
        have m90 : Num 1048577 (cr q87) q87 := Num.eqn e87 (Sm.mul m84.sm h5.sm)
        obtain ⟨q91, e91⟩ := ex_eq (((q85 * x0) + (q86 * x1)) + (q87 * x2))
        have c92 : ¬(q91 = Z0) := (FrameTurns_al93 Ym1 Y0 Y1 e85 e86 e87 e91 e1 e3 e80 c2 c4 c81)
        have u94 : q82 = ((((q85 * q60) + (q86 * q61)) + (q87 * x0)) / q91) := (FrameTurns_al95 Ym2 Ym1 Y0 Y1 e3 d59 e60 e61 e80 d82 e85 e86 e87 e91 e1 c2 c4 c81 c92)
        have u96 : q83 = ((((q85 * q61) + (q86 * q66)) + (q87 * x1)) / q91) := (FrameTurns_al97 Ym2 Ym1 Y0 Y1 e3 d59 e61 e66 e80 d83 e85 e86 e87 e91 e1 c2 c4 c81 c92)
        refine call_step (n_frame_Slopes_1 (k0 := q91) (k1 := q82) (k2 := q83) Y0 (m69.mono (by decide)) (m75.mono (by decide)) (m76.mono (by decide)) (m75.mono (by decide)) (m77.mono (by decide)) (m78.mono (by decide)) (m76.mono (by decide)) (m78.mono (by decide)) (m79.mono (by decide)) (m88.mono (by decide)) (m89.mono (by decide)) (m90.mono (by decide)) e91 u94 u96 c92) rfl ?_
        simp only [fa_agg, fa_one, fa_nil, List.cons_append, List.nil_append, List.append_nil]
        refine primS (rl [r6, (cr q80)]) rfl ?_
        have m99 : Num 6291458 (cr q80) q80 := Num.eqn e80 (Sm.add (Sm.add (Sm.mul h3.sm m76.sm) (Sm.mul h4.sm m78.sm)) (Sm.mul h5.sm m79.sm))
        obtain ⟨q100, e100⟩ := ex_eq (x6 * q80)
        refine call_step (n_rat_Product_2 (k0 := q100) (h6.mono (by decide)) (m99.mono (by decide)) e100) rfl ?_
        simp only [fa_agg, fa_one, fa_nil, List.cons_append, List.nil_append, List.append_nil]
        have m101 : Num 7340034 (cr q100) q100 := Num.eqn e100 (Sm.mul h6.sm m99.sm)
        obtain ⟨q102, e102⟩ := ex_eq (q100 * q60)
        obtain ⟨q103, e103⟩ := ex_eq (q100 * q61)
        obtain ⟨q104, e104⟩ := ex_eq (q100 * x0)
        refine call_step (n_vec_Scale_0 (k0 := q102) (k1 := q103) (k2 := q104) (m101.mono (by decide)) (m69.mono (by decide)) (m75.mono (by decide)) (m76.mono (by decide)) e102 e103 e104) rfl ?_
        simp only [fa_agg, fa_one, fa_nil, List.cons_append, List.nil_append, List.append_nil]
        refine primS (rl3 [(r3, r4, r5), ((cr q102), (cr q103), (cr q104))]) rfl ?_
        have m106 : Num 15728663 (cr q102) q102 := Num.eqn e102 (Sm.mul m101.sm m69.sm)
        have m107 : Num 15728663 (cr q103) q103 := Num.eqn e103 (Sm.mul m101.sm m75.sm)
        have m108 : Num 8388610 (cr q104) q104 := Num.eqn e104 (Sm.mul m101.sm m76.sm)
        obtain ⟨q109, e109⟩ := ex_eq (x3 + q102)
        obtain ⟨q110, e110⟩ := ex_eq (x4 + q103)
        obtain ⟨q111, e111⟩ := ex_eq (x5 + q104)
        refine call_step (n_vec_Sum_2 (o0 := q109) (o1 := q110) (o2 := q111) (h3.mono (by decide)) (h4.mono (by decide)) (h5.mono (by decide)) (m106.mono (by decide)) (m107.mono (by decide)) (m108.mono (by decide)) e109 e110 e111) rfl ?_
        simp only [fa_agg, fa_one, fa_nil, List.cons_append, List.nil_append, List.append_nil]
        have m112 : Num 16777240 (cr q109) q109 := Num.eqn e109 (Sm.add h3.sm m106.sm)
        have m113 : Num 16777240 (cr q110) q110 := Num.eqn e110 (Sm.add h4.sm m107.sm)
        have m114 : Num 9437187 (cr q111) q111 := Num.eqn e111 (Sm.add h5.sm m108.sm)
        have u115 : q80 = (((q109 * x0) + (q110 * x1)) + (q111 * x2)) := (FrameTurns_al116 Ym2 Y0 Y1 e80 e100 e3 d59 e60 e102 e109 e61 e103 e110 e104 e111 e1 c2 c4 c81)
        obtain ⟨q117, e117⟩ := ex_eq ((((q109 * q60) + (q110 * q61)) + (q111 * x0)) / q80)
        have d117 := div_mul Y0 e117 c81
        have u118 : q83 = ((((q109 * q61) + (q110 * q66)) + (q111 * x1)) / q80) := (FrameTurns_al119 Ym2 Y0 Y1 e3 d59 e61 e66 e80 d83 e100 e60 e102 e109 e103 e110 e104 e111 e1 c2 c4 c81)
        refine call_step (n_frame_Slopes_1 (k0 := q80) (k1 := q117) (k2 := q83) Y0 (m69.mono (by decide)) (m75.mono (by decide)) (m76.mono (by decide)) (m75.mono (by decide)) (m77.mono (by decide)) (m78.mono (by decide)) (m76.mono (by decide)) (m78.mono (by decide)) (m79.mono (by decide)) (m112.mono (by decide)) (m113.mono (by decide)) (m114.mono (by decide)) u115 e117 u118 c81) rfl ?_
        simp only [fa_agg, fa_one, fa_nil, List.cons_append, List.nil_append, List.append_nil]
        refine itT rfl ?_
        have m120 : Num 27263022 (cr q82) q82 := Num.eqn e82 (Sm.div (Sm.add (Sm.add (Sm.mul h3.sm m69.sm) (Sm.mul h4.sm m75.sm)) (Sm.mul h5.sm m76.sm)) m99.sm)
        refine call_step (n_penumbraref03_Is_t (m120.mono (by decide)) (m120.mono (by decide)) rfl) rfl ?_
        simp only [fa_agg, fa_one, fa_nil, List.cons_append, List.nil_append, List.append_nil]
        refine itT rfl ?_
        have m121 : Num 27263022 (cr q83) q83 := Num.eqn e83 (Sm.div (Sm.add (Sm.add (Sm.mul h3.sm m75.sm) (Sm.mul h4.sm m77.sm)) (Sm.mul h5.sm m78.sm)) m99.sm)
        refine call_step (n_penumbraref03_Is_t (m121.mono (by decide)) (m121.mono (by decide)) rfl) rfl ?_
        simp only [fa_agg, fa_one, fa_nil, List.cons_append, List.nil_append, List.append_nil]
        refine itT rfl ?_
        have u122 : q91 = (-q80) := (FrameTurns_al123 Ym1 Y0 Y1 e85 e86 e87 e91 e80 e1 c2 c81 c92)
        refine call_step (n_rat_Neg (k0 := q91) (m99.mono (by decide)) u122) rfl ?_
        simp only [fa_agg, fa_one, fa_nil, List.cons_append, List.nil_append, List.append_nil]
        have m124 : Num 6291461 (cr q91) q91 := Num.eqn e91 (Sm.add (Sm.add (Sm.mul m88.sm m76.sm) (Sm.mul m89.sm m78.sm)) (Sm.mul m90.sm m79.sm))
        refine call_step (n_penumbraref03_Is_t (m124.mono (by decide)) (m124.mono (by decide)) rfl) rfl ?_
        simp only [fa_agg, fa_one, fa_nil, List.cons_append, List.nil_append, List.append_nil]
        refine itT rfl ?_
        refine itT rfl ?_
        refine primS (rl [(cr q82), r6]) rfl ?_
        have u126 : q117 = (q82 + x6) := (FrameTurns_al127 Ym2 Y0 Y1 e80 e100 e3 d59 e60 e102 e109 e61 e103 e110 e104 e111 d117 d82 e1 c2 c4 c81)
        refine call_step (n_rat_Sum_2 (k0 := q117) (m120.mono (by decide)) (h6.mono (by decide)) u126) rfl ?_
        simp only [fa_agg, fa_one, fa_nil, List.cons_append, List.nil_append, List.append_nil]
        have m128 : Num 67108961 (cr q117) q117 := Num.eqn e117 (Sm.div (Sm.add (Sm.add (Sm.mul m112.sm m69.sm) (Sm.mul m113.sm m75.sm)) (Sm.mul m114.sm m76.sm)) m99.sm)
        refine call_step (n_penumbraref03_Is_t (m128.mono (by decide)) (m128.mono (by decide)) rfl) rfl ?_
        simp only [fa_agg, fa_one, fa_nil, List.cons_append, List.nil_append, List.append_nil]
        refine itT rfl ?_
        refine call_step (n_penumbraref03_Is_t (m121.mono (by decide)) (m121.mono (by decide)) rfl) rfl ?_
        simp only [fa_agg, fa_one, fa_nil, List.cons_append, List.nil_append, List.append_nil]
        refine itT rfl ?_
        refine call_step (n_penumbraref03_Is_t (m99.mono (by decide)) (m99.mono (by decide)) rfl) rfl ?_
        simp only [fa_agg, fa_one, fa_nil, List.cons_append, List.nil_append, List.append_nil]
        exact ret_step rfl
  · skip
    refine call_step (n_frame_Of_2 (k0 := q1) Y0 Y1 (h0.mono (by decide)) (h1.mono (by decide)) (h2.mono (by decide)) e1 c2) rfl ?_
    simp only [fa_agg, fa_one, fa_nil, List.cons_append, List.nil_append, List.append_nil]
    have m129 : Num 1 (cr Z0) Z0 := Num.c Y0 (by decide +kernel) (by decide +kernel)
    have u130 : Z0 = (((x3 * Z0) + (x4 * Z0)) + (x5 * Z0)) := (FrameTurns_al131 Y0)
    refine call_step (n_frame_Slopes_0 (k0 := Z0) Y0 (m129.mono (by decide)) (m129.mono (by decide)) (m129.mono (by decide)) (m129.mono (by decide)) (m129.mono (by decide)) (m129.mono (by decide)) (m129.mono (by decide)) (m129.mono (by decide)) (m129.mono (by decide)) (h3.mono (by decide)) (h4.mono (by decide)) (h5.mono (by decide)) u130 rfl) rfl ?_
    simp only [fa_agg, fa_one, fa_nil, List.cons_append, List.nil_append, List.append_nil]
    refine call_step n_penumbralaw06_fixed rfl ?_
    simp only [fa_agg, fa_one, fa_nil, List.cons_append, List.nil_append, List.append_nil]
    refine primS (.bool false) rfl ?_
    refine itF rfl ?_
    refine primS (.bool true) rfl ?_
    refine itT rfl ?_
    refine call_step n_penumbralaw06_fixed rfl ?_
    simp only [fa_agg, fa_one, fa_nil, List.cons_append, List.nil_append, List.append_nil]
    exact ret_step rfl

end Go.Px.Na

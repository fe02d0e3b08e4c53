/- QTriAims: whatever the numbers, the law tells true. -/
import Derived.Test.YtadaibgdeojlmaaXTriAims
set_option maxRecDepth 20000
set_option maxHeartbeats 40000000
set_option linter.unusedVariables false
set_option linter.unusedSimpArgs false
namespace Go.Px.Na
open Go.RowKit
open Go.Proofs.Try (prog)

theorem mul_g {Z0 k q r : Rat} (y : Z0 = 0) (hk : Z0 < k) (e : r = k * q) (h : Z0 < q) : Z0 < r := by subst y e; exact Rat.mul_pos hk h
theorem mul_l {Z0 k q r : Rat} (y : Z0 = 0) (hk : Z0 < k) (e : r = k * q) (h : q < Z0) : r < Z0 := by subst y e; have := Rat.mul_pos hk (show 0 < -q by grind); grind
theorem mul_gn {Z0 k q r : Rat} (y : Z0 = 0) (hk : Z0 < k) (e : r = k * q) (h : ¬Z0 < q) : ¬Z0 < r := by subst y e; intro z; have := Rat.mul_nonneg (Rat.le_of_lt hk) (show 0 ≤ -q by grind); grind
theorem mul_ln {Z0 k q r : Rat} (y : Z0 = 0) (hk : Z0 < k) (e : r = k * q) (h : ¬q < Z0) : ¬r < Z0 := by subst y e; intro z; have := Rat.mul_nonneg (Rat.le_of_lt hk) (show 0 ≤ q by grind); grind
theorem rcp_gn {Z0 k q r : Rat} (y : Z0 = 0) (hk : Z0 < k) (e : r * q = k) (h : ¬Z0 < q) : ¬Z0 < r := by subst y; intro z; have := Rat.mul_nonneg (Rat.le_of_lt z) (show 0 ≤ -q by grind); grind
theorem rcp_ln {Z0 k q r : Rat} (y : Z0 = 0) (hk : Z0 < k) (e : r * q = k) (h : ¬q < Z0) : ¬r < Z0 := by subst y; intro z; have := Rat.mul_nonneg (show 0 ≤ -r by grind) (show 0 ≤ q by grind); grind
theorem rcp_g {Z0 k q r : Rat} (y : Z0 = 0) (hk : Z0 < k) (e : r * q = k) (h : Z0 < q) : Z0 < r := Classical.byContradiction fun z => rcp_gn y hk (q := r) (r := q) (by rw [Rat.mul_comm]; exact e) z h
theorem rcp_l {Z0 k q r : Rat} (y : Z0 = 0) (hk : Z0 < k) (e : r * q = k) (h : q < Z0) : r < Z0 := Classical.byContradiction fun z => rcp_ln y hk (q := r) (r := q) (by rw [Rat.mul_comm]; exact e) z h
theorem TriAims_al32 {Z0 : Rat} (Y0 : Z0 = (0 : Rat)) {x14 x12 q20 x6 x3 q15 q9 q3 x4 x7 x13 x10 x1 x11 x5 q16 q10 q4 x8 x2 x9 q14 q8 q2 x0 q28 q22 q23 q24 : Rat} (e3 : q3 = ((x4 + (x12 * (x7 - x4))) + (x13 * (x10 - x4)))) (e9 : q9 = (q3 - x1)) (e15 : q15 = (x14 * q9)) (e4 : q4 = ((x5 + (x12 * (x8 - x5))) + (x13 * (x11 - x5)))) (e10 : q10 = (q4 - x2)) (e16 : q16 = (x14 * q10)) (e2 : q2 = ((x3 + (x12 * (x6 - x3))) + (x13 * (x9 - x3)))) (e8 : q8 = (q2 - x0)) (e14 : q14 = (x14 * q8)) (e20 : q20 = ((((x6 - x3) * ((q15 * (x11 - x5)) - (q16 * (x10 - x4)))) + ((x7 - x4) * ((q16 * (x9 - x3)) - (q14 * (x11 - x5))))) + ((x8 - x5) * ((q14 * (x10 - x4)) - (q15 * (x9 - x3)))))) (e22 : q22 = (((x7 - x4) * (x11 - x5)) - ((x8 - x5) * (x10 - x4)))) (e23 : q23 = (((x8 - x5) * (x9 - x3)) - ((x6 - x3) * (x11 - x5)))) (e24 : q24 = (((x6 - x3) * (x10 - x4)) - ((x7 - x4) * (x9 - x3)))) (e28 : q28 = (((q22 * q8) + (q23 * q9)) + (q24 * q10))) (c1 : x12 < Z0) (c21 : q20 = Z0) (c30 : ¬q28 = Z0) : ¬(Z0 < x14) := by
  subst Y0 e3 e9 e15 e4 e10 e16 e2 e8 e14 e20 e22 e23 e24 e28
  grind

theorem TriAims_al35 {Z0 Z1 : Rat} (Y0 : Z0 = (0 : Rat)) (Y1 : Z1 = (1 : Rat)) {x12 q33 q20 x6 x3 q15 x14 q9 q3 x4 x7 x13 x10 x1 x11 x5 q16 q10 q4 x8 x2 x9 q14 q8 q2 x0 : Rat} (e3 : q3 = ((x4 + (x12 * (x7 - x4))) + (x13 * (x10 - x4)))) (e9 : q9 = (q3 - x1)) (e15 : q15 = (x14 * q9)) (e4 : q4 = ((x5 + (x12 * (x8 - x5))) + (x13 * (x11 - x5)))) (e10 : q10 = (q4 - x2)) (e16 : q16 = (x14 * q10)) (e2 : q2 = ((x3 + (x12 * (x6 - x3))) + (x13 * (x9 - x3)))) (e8 : q8 = (q2 - x0)) (e14 : q14 = (x14 * q8)) (e20 : q20 = ((((x6 - x3) * ((q15 * (x11 - x5)) - (q16 * (x10 - x4)))) + ((x7 - x4) * ((q16 * (x9 - x3)) - (q14 * (x11 - x5))))) + ((x8 - x5) * ((q14 * (x10 - x4)) - (q15 * (x9 - x3)))))) (d33 : q33 * q20 = Z1) (c21 : ¬q20 = Z0) : x12 = (q33 * ((((x0 - x3) * ((q15 * (x11 - x5)) - (q16 * (x10 - x4)))) + ((x1 - x4) * ((q16 * (x9 - x3)) - (q14 * (x11 - x5))))) + ((x2 - x5) * ((q14 * (x10 - x4)) - (q15 * (x9 - x3)))))) := by
  subst Y0 Y1 e3 e9 e15 e4 e10 e16 e2 e8 e14 e20
  grind

theorem TriAims_al45 {Z0 : Rat} (Y0 : Z0 = (0 : Rat)) {q42 q36 x7 x4 x11 x5 x8 x10 q8 q2 x3 x12 x6 x13 x9 x0 q37 q9 q3 x1 q38 q10 q4 x2 q20 q15 x14 q16 q14 : Rat} (e36 : q36 = (((x7 - x4) * (x11 - x5)) - ((x8 - x5) * (x10 - x4)))) (e2 : q2 = ((x3 + (x12 * (x6 - x3))) + (x13 * (x9 - x3)))) (e8 : q8 = (q2 - x0)) (e37 : q37 = (((x8 - x5) * (x9 - x3)) - ((x6 - x3) * (x11 - x5)))) (e3 : q3 = ((x4 + (x12 * (x7 - x4))) + (x13 * (x10 - x4)))) (e9 : q9 = (q3 - x1)) (e38 : q38 = (((x6 - x3) * (x10 - x4)) - ((x7 - x4) * (x9 - x3)))) (e4 : q4 = ((x5 + (x12 * (x8 - x5))) + (x13 * (x11 - x5)))) (e10 : q10 = (q4 - x2)) (e42 : q42 = (((q36 * q8) + (q37 * q9)) + (q38 * q10))) (e15 : q15 = (x14 * q9)) (e16 : q16 = (x14 * q10)) (e14 : q14 = (x14 * q8)) (e20 : q20 = ((((x6 - x3) * ((q15 * (x11 - x5)) - (q16 * (x10 - x4)))) + ((x7 - x4) * ((q16 * (x9 - x3)) - (q14 * (x11 - x5))))) + ((x8 - x5) * ((q14 * (x10 - x4)) - (q15 * (x9 - x3)))))) (c1 : x12 < Z0) (c21 : ¬q20 = Z0) : ¬(q42 = Z0) := by
  subst Y0 e36 e2 e8 e37 e3 e9 e38 e4 e10 e42 e15 e16 e14 e20
  grind

theorem TriAims_al80 {Z0 : Rat} (Y0 : Z0 = (0 : Rat)) {x14 x12 x13 q68 x6 x3 q63 q57 q51 x4 x7 x10 x1 x11 x5 q64 q58 q52 x8 x2 x9 q62 q56 q50 x0 q76 q70 q71 q72 : Rat} (e51 : q51 = ((x4 + (x12 * (x7 - x4))) + (x13 * (x10 - x4)))) (e57 : q57 = (q51 - x1)) (e63 : q63 = (x14 * q57)) (e52 : q52 = ((x5 + (x12 * (x8 - x5))) + (x13 * (x11 - x5)))) (e58 : q58 = (q52 - x2)) (e64 : q64 = (x14 * q58)) (e50 : q50 = ((x3 + (x12 * (x6 - x3))) + (x13 * (x9 - x3)))) (e56 : q56 = (q50 - x0)) (e62 : q62 = (x14 * q56)) (e68 : q68 = ((((x6 - x3) * ((q63 * (x11 - x5)) - (q64 * (x10 - x4)))) + ((x7 - x4) * ((q64 * (x9 - x3)) - (q62 * (x11 - x5))))) + ((x8 - x5) * ((q62 * (x10 - x4)) - (q63 * (x9 - x3)))))) (e70 : q70 = (((x7 - x4) * (x11 - x5)) - ((x8 - x5) * (x10 - x4)))) (e71 : q71 = (((x8 - x5) * (x9 - x3)) - ((x6 - x3) * (x11 - x5)))) (e72 : q72 = (((x6 - x3) * (x10 - x4)) - ((x7 - x4) * (x9 - x3)))) (e76 : q76 = (((q70 * q56) + (q71 * q57)) + (q72 * q58))) (c1 : ¬x12 < Z0) (c49 : x13 < Z0) (c69 : q68 = Z0) (c78 : ¬q76 = Z0) : ¬(Z0 < x14) := by
  subst Y0 e51 e57 e63 e52 e58 e64 e50 e56 e62 e68 e70 e71 e72 e76
  grind

theorem TriAims_al83 {Z0 Z1 : Rat} (Y0 : Z0 = (0 : Rat)) (Y1 : Z1 = (1 : Rat)) {x12 q81 q68 x6 x3 q63 x14 q57 q51 x4 x7 x13 x10 x1 x11 x5 q64 q58 q52 x8 x2 x9 q62 q56 q50 x0 : Rat} (e51 : q51 = ((x4 + (x12 * (x7 - x4))) + (x13 * (x10 - x4)))) (e57 : q57 = (q51 - x1)) (e63 : q63 = (x14 * q57)) (e52 : q52 = ((x5 + (x12 * (x8 - x5))) + (x13 * (x11 - x5)))) (e58 : q58 = (q52 - x2)) (e64 : q64 = (x14 * q58)) (e50 : q50 = ((x3 + (x12 * (x6 - x3))) + (x13 * (x9 - x3)))) (e56 : q56 = (q50 - x0)) (e62 : q62 = (x14 * q56)) (e68 : q68 = ((((x6 - x3) * ((q63 * (x11 - x5)) - (q64 * (x10 - x4)))) + ((x7 - x4) * ((q64 * (x9 - x3)) - (q62 * (x11 - x5))))) + ((x8 - x5) * ((q62 * (x10 - x4)) - (q63 * (x9 - x3)))))) (d81 : q81 * q68 = Z1) (c69 : ¬q68 = Z0) : x12 = (q81 * ((((x0 - x3) * ((q63 * (x11 - x5)) - (q64 * (x10 - x4)))) + ((x1 - x4) * ((q64 * (x9 - x3)) - (q62 * (x11 - x5))))) + ((x2 - x5) * ((q62 * (x10 - x4)) - (q63 * (x9 - x3)))))) := by
  subst Y0 Y1 e51 e57 e63 e52 e58 e64 e50 e56 e62 e68
  grind

theorem TriAims_al85 {Z0 Z1 : Rat} (Y0 : Z0 = (0 : Rat)) (Y1 : Z1 = (1 : Rat)) {x13 q81 q68 x6 x3 q63 x14 q57 q51 x4 x12 x7 x10 x1 x11 x5 q64 q58 q52 x8 x2 x9 q62 q56 q50 x0 : Rat} (e51 : q51 = ((x4 + (x12 * (x7 - x4))) + (x13 * (x10 - x4)))) (e57 : q57 = (q51 - x1)) (e63 : q63 = (x14 * q57)) (e52 : q52 = ((x5 + (x12 * (x8 - x5))) + (x13 * (x11 - x5)))) (e58 : q58 = (q52 - x2)) (e64 : q64 = (x14 * q58)) (e50 : q50 = ((x3 + (x12 * (x6 - x3))) + (x13 * (x9 - x3)))) (e56 : q56 = (q50 - x0)) (e62 : q62 = (x14 * q56)) (e68 : q68 = ((((x6 - x3) * ((q63 * (x11 - x5)) - (q64 * (x10 - x4)))) + ((x7 - x4) * ((q64 * (x9 - x3)) - (q62 * (x11 - x5))))) + ((x8 - x5) * ((q62 * (x10 - x4)) - (q63 * (x9 - x3)))))) (d81 : q81 * q68 = Z1) (c69 : ¬q68 = Z0) : x13 = (q81 * (((q62 * (((x1 - x4) * (x8 - x5)) - ((x2 - x5) * (x7 - x4)))) + (q63 * (((x2 - x5) * (x6 - x3)) - ((x0 - x3) * (x8 - x5))))) + (q64 * (((x0 - x3) * (x7 - x4)) - ((x1 - x4) * (x6 - x3)))))) := by
  subst Y0 Y1 e51 e57 e63 e52 e58 e64 e50 e56 e62 e68
  grind

theorem TriAims_al95 {Z0 : Rat} (Y0 : Z0 = (0 : Rat)) {q92 q86 x7 x4 x11 x5 x8 x10 q56 q50 x3 x12 x6 x13 x9 x0 q87 q57 q51 x1 q88 q58 q52 x2 q68 q63 x14 q64 q62 : Rat} (e86 : q86 = (((x7 - x4) * (x11 - x5)) - ((x8 - x5) * (x10 - x4)))) (e50 : q50 = ((x3 + (x12 * (x6 - x3))) + (x13 * (x9 - x3)))) (e56 : q56 = (q50 - x0)) (e87 : q87 = (((x8 - x5) * (x9 - x3)) - ((x6 - x3) * (x11 - x5)))) (e51 : q51 = ((x4 + (x12 * (x7 - x4))) + (x13 * (x10 - x4)))) (e57 : q57 = (q51 - x1)) (e88 : q88 = (((x6 - x3) * (x10 - x4)) - ((x7 - x4) * (x9 - x3)))) (e52 : q52 = ((x5 + (x12 * (x8 - x5))) + (x13 * (x11 - x5)))) (e58 : q58 = (q52 - x2)) (e92 : q92 = (((q86 * q56) + (q87 * q57)) + (q88 * q58))) (e63 : q63 = (x14 * q57)) (e64 : q64 = (x14 * q58)) (e62 : q62 = (x14 * q56)) (e68 : q68 = ((((x6 - x3) * ((q63 * (x11 - x5)) - (q64 * (x10 - x4)))) + ((x7 - x4) * ((q64 * (x9 - x3)) - (q62 * (x11 - x5))))) + ((x8 - x5) * ((q62 * (x10 - x4)) - (q63 * (x9 - x3)))))) (c1 : ¬x12 < Z0) (c49 : x13 < Z0) (c69 : ¬q68 = Z0) : ¬(q92 = Z0) := by
  subst Y0 e86 e50 e56 e87 e51 e57 e88 e52 e58 e92 e63 e64 e62 e68
  grind

theorem TriAims_al134 {Z0 Z1 : Rat} (Y0 : Z0 = (0 : Rat)) (Y1 : Z1 = (1 : Rat)) {x14 x12 x13 q100 q122 x6 x3 q117 q111 q105 x4 x7 x10 x1 x11 x5 q118 q112 q106 x8 x2 x9 q116 q110 q104 x0 q130 q124 q125 q126 : Rat} (e100 : q100 = (x12 + x13)) (e105 : q105 = ((x4 + (x12 * (x7 - x4))) + (x13 * (x10 - x4)))) (e111 : q111 = (q105 - x1)) (e117 : q117 = (x14 * q111)) (e106 : q106 = ((x5 + (x12 * (x8 - x5))) + (x13 * (x11 - x5)))) (e112 : q112 = (q106 - x2)) (e118 : q118 = (x14 * q112)) (e104 : q104 = ((x3 + (x12 * (x6 - x3))) + (x13 * (x9 - x3)))) (e110 : q110 = (q104 - x0)) (e116 : q116 = (x14 * q110)) (e122 : q122 = ((((x6 - x3) * ((q117 * (x11 - x5)) - (q118 * (x10 - x4)))) + ((x7 - x4) * ((q118 * (x9 - x3)) - (q116 * (x11 - x5))))) + ((x8 - x5) * ((q116 * (x10 - x4)) - (q117 * (x9 - x3)))))) (e124 : q124 = (((x7 - x4) * (x11 - x5)) - ((x8 - x5) * (x10 - x4)))) (e125 : q125 = (((x8 - x5) * (x9 - x3)) - ((x6 - x3) * (x11 - x5)))) (e126 : q126 = (((x6 - x3) * (x10 - x4)) - ((x7 - x4) * (x9 - x3)))) (e130 : q130 = (((q124 * q110) + (q125 * q111)) + (q126 * q112))) (c1 : ¬x12 < Z0) (c49 : ¬x13 < Z0) (c103 : Z1 < q100) (c123 : q122 = Z0) (c132 : ¬q130 = Z0) : ¬(Z0 < x14) := by
  subst Y0 Y1 e100 e105 e111 e117 e106 e112 e118 e104 e110 e116 e122 e124 e125 e126 e130
  grind

theorem TriAims_al137 {Z0 Z1 : Rat} (Y0 : Z0 = (0 : Rat)) (Y1 : Z1 = (1 : Rat)) {x12 q135 q122 x6 x3 q117 x14 q111 q105 x4 x7 x13 x10 x1 x11 x5 q118 q112 q106 x8 x2 x9 q116 q110 q104 x0 : Rat} (e105 : q105 = ((x4 + (x12 * (x7 - x4))) + (x13 * (x10 - x4)))) (e111 : q111 = (q105 - x1)) (e117 : q117 = (x14 * q111)) (e106 : q106 = ((x5 + (x12 * (x8 - x5))) + (x13 * (x11 - x5)))) (e112 : q112 = (q106 - x2)) (e118 : q118 = (x14 * q112)) (e104 : q104 = ((x3 + (x12 * (x6 - x3))) + (x13 * (x9 - x3)))) (e110 : q110 = (q104 - x0)) (e116 : q116 = (x14 * q110)) (e122 : q122 = ((((x6 - x3) * ((q117 * (x11 - x5)) - (q118 * (x10 - x4)))) + ((x7 - x4) * ((q118 * (x9 - x3)) - (q116 * (x11 - x5))))) + ((x8 - x5) * ((q116 * (x10 - x4)) - (q117 * (x9 - x3)))))) (d135 : q135 * q122 = Z1) (c123 : ¬q122 = Z0) : x12 = (q135 * ((((x0 - x3) * ((q117 * (x11 - x5)) - (q118 * (x10 - x4)))) + ((x1 - x4) * ((q118 * (x9 - x3)) - (q116 * (x11 - x5))))) + ((x2 - x5) * ((q116 * (x10 - x4)) - (q117 * (x9 - x3)))))) := by
  subst Y0 Y1 e105 e111 e117 e106 e112 e118 e104 e110 e116 e122
  grind

theorem TriAims_al139 {Z0 Z1 : Rat} (Y0 : Z0 = (0 : Rat)) (Y1 : Z1 = (1 : Rat)) {x13 q135 q122 x6 x3 q117 x14 q111 q105 x4 x12 x7 x10 x1 x11 x5 q118 q112 q106 x8 x2 x9 q116 q110 q104 x0 : Rat} (e105 : q105 = ((x4 + (x12 * (x7 - x4))) + (x13 * (x10 - x4)))) (e111 : q111 = (q105 - x1)) (e117 : q117 = (x14 * q111)) (e106 : q106 = ((x5 + (x12 * (x8 - x5))) + (x13 * (x11 - x5)))) (e112 : q112 = (q106 - x2)) (e118 : q118 = (x14 * q112)) (e104 : q104 = ((x3 + (x12 * (x6 - x3))) + (x13 * (x9 - x3)))) (e110 : q110 = (q104 - x0)) (e116 : q116 = (x14 * q110)) (e122 : q122 = ((((x6 - x3) * ((q117 * (x11 - x5)) - (q118 * (x10 - x4)))) + ((x7 - x4) * ((q118 * (x9 - x3)) - (q116 * (x11 - x5))))) + ((x8 - x5) * ((q116 * (x10 - x4)) - (q117 * (x9 - x3)))))) (d135 : q135 * q122 = Z1) (c123 : ¬q122 = Z0) : x13 = (q135 * (((q116 * (((x1 - x4) * (x8 - x5)) - ((x2 - x5) * (x7 - x4)))) + (q117 * (((x2 - x5) * (x6 - x3)) - ((x0 - x3) * (x8 - x5))))) + (q118 * (((x0 - x3) * (x7 - x4)) - ((x1 - x4) * (x6 - x3)))))) := by
  subst Y0 Y1 e105 e111 e117 e106 e112 e118 e104 e110 e116 e122
  grind

theorem TriAims_al151 {Z0 Z1 : Rat} (Y0 : Z0 = (0 : Rat)) (Y1 : Z1 = (1 : Rat)) {q148 q142 x7 x4 x11 x5 x8 x10 q110 q104 x3 x12 x6 x13 x9 x0 q143 q111 q105 x1 q144 q112 q106 x2 q100 q122 q117 x14 q118 q116 q140 q135 : Rat} (e142 : q142 = (((x7 - x4) * (x11 - x5)) - ((x8 - x5) * (x10 - x4)))) (e104 : q104 = ((x3 + (x12 * (x6 - x3))) + (x13 * (x9 - x3)))) (e110 : q110 = (q104 - x0)) (e143 : q143 = (((x8 - x5) * (x9 - x3)) - ((x6 - x3) * (x11 - x5)))) (e105 : q105 = ((x4 + (x12 * (x7 - x4))) + (x13 * (x10 - x4)))) (e111 : q111 = (q105 - x1)) (e144 : q144 = (((x6 - x3) * (x10 - x4)) - ((x7 - x4) * (x9 - x3)))) (e106 : q106 = ((x5 + (x12 * (x8 - x5))) + (x13 * (x11 - x5)))) (e112 : q112 = (q106 - x2)) (e148 : q148 = (((q142 * q110) + (q143 * q111)) + (q144 * q112))) (e100 : q100 = (x12 + x13)) (e117 : q117 = (x14 * q111)) (e118 : q118 = (x14 * q112)) (e116 : q116 = (x14 * q110)) (e122 : q122 = ((((x6 - x3) * ((q117 * (x11 - x5)) - (q118 * (x10 - x4)))) + ((x7 - x4) * ((q118 * (x9 - x3)) - (q116 * (x11 - x5))))) + ((x8 - x5) * ((q116 * (x10 - x4)) - (q117 * (x9 - x3)))))) (d135 : q135 * q122 = Z1) (e140 : q140 = (q135 * ((((x9 - x3) * (((x1 - x4) * (x8 - x5)) - ((x2 - x5) * (x7 - x4)))) + ((x10 - x4) * (((x2 - x5) * (x6 - x3)) - ((x0 - x3) * (x8 - x5))))) + ((x11 - x5) * (((x0 - x3) * (x7 - x4)) - ((x1 - x4) * (x6 - x3))))))) (c1 : ¬x12 < Z0) (c49 : ¬x13 < Z0) (c103 : Z1 < q100) (c123 : ¬q122 = Z0) (c141 : Z0 < q140) : ¬(q148 = Z0) := by
  subst Y0 Y1 e142 e104 e110 e143 e105 e111 e144 e106 e112 e148 e100 e117 e118 e116 e122 e140
  grind

theorem TriAims_al154 {Z0 Z1 : Rat} (Y0 : Z0 = (0 : Rat)) (Y1 : Z1 = (1 : Rat)) {x14 q140 q135 q122 x6 x3 q117 q111 q105 x4 x12 x7 x13 x10 x1 x11 x5 q118 q112 q106 x8 x2 x9 q116 q110 q104 x0 q100 q148 q142 q143 q144 : Rat} (e105 : q105 = ((x4 + (x12 * (x7 - x4))) + (x13 * (x10 - x4)))) (e111 : q111 = (q105 - x1)) (e117 : q117 = (x14 * q111)) (e106 : q106 = ((x5 + (x12 * (x8 - x5))) + (x13 * (x11 - x5)))) (e112 : q112 = (q106 - x2)) (e118 : q118 = (x14 * q112)) (e104 : q104 = ((x3 + (x12 * (x6 - x3))) + (x13 * (x9 - x3)))) (e110 : q110 = (q104 - x0)) (e116 : q116 = (x14 * q110)) (e122 : q122 = ((((x6 - x3) * ((q117 * (x11 - x5)) - (q118 * (x10 - x4)))) + ((x7 - x4) * ((q118 * (x9 - x3)) - (q116 * (x11 - x5))))) + ((x8 - x5) * ((q116 * (x10 - x4)) - (q117 * (x9 - x3)))))) (d135 : q135 * q122 = Z1) (e140 : q140 = (q135 * ((((x9 - x3) * (((x1 - x4) * (x8 - x5)) - ((x2 - x5) * (x7 - x4)))) + ((x10 - x4) * (((x2 - x5) * (x6 - x3)) - ((x0 - x3) * (x8 - x5))))) + ((x11 - x5) * (((x0 - x3) * (x7 - x4)) - ((x1 - x4) * (x6 - x3))))))) (e100 : q100 = (x12 + x13)) (e142 : q142 = (((x7 - x4) * (x11 - x5)) - ((x8 - x5) * (x10 - x4)))) (e143 : q143 = (((x8 - x5) * (x9 - x3)) - ((x6 - x3) * (x11 - x5)))) (e144 : q144 = (((x6 - x3) * (x10 - x4)) - ((x7 - x4) * (x9 - x3)))) (e148 : q148 = (((q142 * q110) + (q143 * q111)) + (q144 * q112))) (c1 : ¬x12 < Z0) (c49 : ¬x13 < Z0) (c103 : Z1 < q100) (c123 : ¬q122 = Z0) (c141 : Z0 < q140) (c150 : ¬q148 = Z0) : x14 * q140 = Z1 := by
  subst Y0 Y1 e105 e111 e117 e106 e112 e118 e104 e110 e116 e122 e140 e100 e142 e143 e144 e148
  grind

theorem TriAims_al156 {Z0 Z1 : Rat} (Y0 : Z0 = (0 : Rat)) (Y1 : Z1 = (1 : Rat)) {q140 q135 q122 x6 x3 q117 x14 q111 q105 x4 x12 x7 x13 x10 x1 x11 x5 q118 q112 q106 x8 x2 x9 q116 q110 q104 x0 : Rat} (e105 : q105 = ((x4 + (x12 * (x7 - x4))) + (x13 * (x10 - x4)))) (e111 : q111 = (q105 - x1)) (e117 : q117 = (x14 * q111)) (e106 : q106 = ((x5 + (x12 * (x8 - x5))) + (x13 * (x11 - x5)))) (e112 : q112 = (q106 - x2)) (e118 : q118 = (x14 * q112)) (e104 : q104 = ((x3 + (x12 * (x6 - x3))) + (x13 * (x9 - x3)))) (e110 : q110 = (q104 - x0)) (e116 : q116 = (x14 * q110)) (e122 : q122 = ((((x6 - x3) * ((q117 * (x11 - x5)) - (q118 * (x10 - x4)))) + ((x7 - x4) * ((q118 * (x9 - x3)) - (q116 * (x11 - x5))))) + ((x8 - x5) * ((q116 * (x10 - x4)) - (q117 * (x9 - x3)))))) (d135 : q135 * q122 = Z1) (e140 : q140 = (q135 * ((((x9 - x3) * (((x1 - x4) * (x8 - x5)) - ((x2 - x5) * (x7 - x4)))) + ((x10 - x4) * (((x2 - x5) * (x6 - x3)) - ((x0 - x3) * (x8 - x5))))) + ((x11 - x5) * (((x0 - x3) * (x7 - x4)) - ((x1 - x4) * (x6 - x3))))))) (c123 : ¬q122 = Z0) : q140 = (Z1 / x14) := by
  subst Y0 Y1 e105 e111 e117 e106 e112 e118 e104 e110 e116 e122 e140
  grind

theorem TriAims_al166 {Z0 Z1 : Rat} (Y0 : Z0 = (0 : Rat)) (Y1 : Z1 = (1 : Rat)) {q163 q157 x7 x4 x11 x5 x8 x10 q110 q104 x3 x12 x6 x13 x9 x0 q158 q111 q105 x1 q159 q112 q106 x2 q100 q122 q117 x14 q118 q116 q140 q135 : Rat} (e157 : q157 = (((x7 - x4) * (x11 - x5)) - ((x8 - x5) * (x10 - x4)))) (e104 : q104 = ((x3 + (x12 * (x6 - x3))) + (x13 * (x9 - x3)))) (e110 : q110 = (q104 - x0)) (e158 : q158 = (((x8 - x5) * (x9 - x3)) - ((x6 - x3) * (x11 - x5)))) (e105 : q105 = ((x4 + (x12 * (x7 - x4))) + (x13 * (x10 - x4)))) (e111 : q111 = (q105 - x1)) (e159 : q159 = (((x6 - x3) * (x10 - x4)) - ((x7 - x4) * (x9 - x3)))) (e106 : q106 = ((x5 + (x12 * (x8 - x5))) + (x13 * (x11 - x5)))) (e112 : q112 = (q106 - x2)) (e163 : q163 = (((q157 * q110) + (q158 * q111)) + (q159 * q112))) (e100 : q100 = (x12 + x13)) (e117 : q117 = (x14 * q111)) (e118 : q118 = (x14 * q112)) (e116 : q116 = (x14 * q110)) (e122 : q122 = ((((x6 - x3) * ((q117 * (x11 - x5)) - (q118 * (x10 - x4)))) + ((x7 - x4) * ((q118 * (x9 - x3)) - (q116 * (x11 - x5))))) + ((x8 - x5) * ((q116 * (x10 - x4)) - (q117 * (x9 - x3)))))) (d135 : q135 * q122 = Z1) (e140 : q140 = (q135 * ((((x9 - x3) * (((x1 - x4) * (x8 - x5)) - ((x2 - x5) * (x7 - x4)))) + ((x10 - x4) * (((x2 - x5) * (x6 - x3)) - ((x0 - x3) * (x8 - x5))))) + ((x11 - x5) * (((x0 - x3) * (x7 - x4)) - ((x1 - x4) * (x6 - x3))))))) (c1 : ¬x12 < Z0) (c49 : ¬x13 < Z0) (c103 : Z1 < q100) (c123 : ¬q122 = Z0) (c141 : ¬Z0 < q140) : ¬(q163 = Z0) := by
  subst Y0 Y1 e157 e104 e110 e158 e105 e111 e159 e106 e112 e163 e100 e117 e118 e116 e122 e140
  grind

theorem TriAims_al169 {Z0 Z1 : Rat} (Y0 : Z0 = (0 : Rat)) (Y1 : Z1 = (1 : Rat)) {x14 q140 q135 q122 x6 x3 q117 q111 q105 x4 x12 x7 x13 x10 x1 x11 x5 q118 q112 q106 x8 x2 x9 q116 q110 q104 x0 q100 q163 q157 q158 q159 : Rat} (e105 : q105 = ((x4 + (x12 * (x7 - x4))) + (x13 * (x10 - x4)))) (e111 : q111 = (q105 - x1)) (e117 : q117 = (x14 * q111)) (e106 : q106 = ((x5 + (x12 * (x8 - x5))) + (x13 * (x11 - x5)))) (e112 : q112 = (q106 - x2)) (e118 : q118 = (x14 * q112)) (e104 : q104 = ((x3 + (x12 * (x6 - x3))) + (x13 * (x9 - x3)))) (e110 : q110 = (q104 - x0)) (e116 : q116 = (x14 * q110)) (e122 : q122 = ((((x6 - x3) * ((q117 * (x11 - x5)) - (q118 * (x10 - x4)))) + ((x7 - x4) * ((q118 * (x9 - x3)) - (q116 * (x11 - x5))))) + ((x8 - x5) * ((q116 * (x10 - x4)) - (q117 * (x9 - x3)))))) (d135 : q135 * q122 = Z1) (e140 : q140 = (q135 * ((((x9 - x3) * (((x1 - x4) * (x8 - x5)) - ((x2 - x5) * (x7 - x4)))) + ((x10 - x4) * (((x2 - x5) * (x6 - x3)) - ((x0 - x3) * (x8 - x5))))) + ((x11 - x5) * (((x0 - x3) * (x7 - x4)) - ((x1 - x4) * (x6 - x3))))))) (e100 : q100 = (x12 + x13)) (e157 : q157 = (((x7 - x4) * (x11 - x5)) - ((x8 - x5) * (x10 - x4)))) (e158 : q158 = (((x8 - x5) * (x9 - x3)) - ((x6 - x3) * (x11 - x5)))) (e159 : q159 = (((x6 - x3) * (x10 - x4)) - ((x7 - x4) * (x9 - x3)))) (e163 : q163 = (((q157 * q110) + (q158 * q111)) + (q159 * q112))) (c1 : ¬x12 < Z0) (c49 : ¬x13 < Z0) (c103 : Z1 < q100) (c123 : ¬q122 = Z0) (c141 : ¬Z0 < q140) (c165 : ¬q163 = Z0) : x14 * q140 = Z1 := by
  subst Y0 Y1 e105 e111 e117 e106 e112 e118 e104 e110 e116 e122 e140 e100 e157 e158 e159 e163
  grind

theorem TriAims_al200 {Z0 Z1 : Rat} (Y0 : Z0 = (0 : Rat)) (Y1 : Z1 = (1 : Rat)) {x14 x12 x13 q100 q188 x6 x3 q183 q177 q171 x4 x7 x10 x1 x11 x5 q184 q178 q172 x8 x2 x9 q182 q176 q170 x0 q196 q190 q191 q192 : Rat} (e100 : q100 = (x12 + x13)) (e171 : q171 = ((x4 + (x12 * (x7 - x4))) + (x13 * (x10 - x4)))) (e177 : q177 = (q171 - x1)) (e183 : q183 = (x14 * q177)) (e172 : q172 = ((x5 + (x12 * (x8 - x5))) + (x13 * (x11 - x5)))) (e178 : q178 = (q172 - x2)) (e184 : q184 = (x14 * q178)) (e170 : q170 = ((x3 + (x12 * (x6 - x3))) + (x13 * (x9 - x3)))) (e176 : q176 = (q170 - x0)) (e182 : q182 = (x14 * q176)) (e188 : q188 = ((((x6 - x3) * ((q183 * (x11 - x5)) - (q184 * (x10 - x4)))) + ((x7 - x4) * ((q184 * (x9 - x3)) - (q182 * (x11 - x5))))) + ((x8 - x5) * ((q182 * (x10 - x4)) - (q183 * (x9 - x3)))))) (e190 : q190 = (((x7 - x4) * (x11 - x5)) - ((x8 - x5) * (x10 - x4)))) (e191 : q191 = (((x8 - x5) * (x9 - x3)) - ((x6 - x3) * (x11 - x5)))) (e192 : q192 = (((x6 - x3) * (x10 - x4)) - ((x7 - x4) * (x9 - x3)))) (e196 : q196 = (((q190 * q176) + (q191 * q177)) + (q192 * q178))) (c1 : ¬x12 < Z0) (c49 : ¬x13 < Z0) (c103 : ¬Z1 < q100) (c189 : q188 = Z0) (c198 : ¬q196 = Z0) : ¬(Z0 < x14) := by
  subst Y0 Y1 e100 e171 e177 e183 e172 e178 e184 e170 e176 e182 e188 e190 e191 e192 e196
  grind

theorem TriAims_al203 {Z0 Z1 : Rat} (Y0 : Z0 = (0 : Rat)) (Y1 : Z1 = (1 : Rat)) {x12 q201 q188 x6 x3 q183 x14 q177 q171 x4 x7 x13 x10 x1 x11 x5 q184 q178 q172 x8 x2 x9 q182 q176 q170 x0 : Rat} (e171 : q171 = ((x4 + (x12 * (x7 - x4))) + (x13 * (x10 - x4)))) (e177 : q177 = (q171 - x1)) (e183 : q183 = (x14 * q177)) (e172 : q172 = ((x5 + (x12 * (x8 - x5))) + (x13 * (x11 - x5)))) (e178 : q178 = (q172 - x2)) (e184 : q184 = (x14 * q178)) (e170 : q170 = ((x3 + (x12 * (x6 - x3))) + (x13 * (x9 - x3)))) (e176 : q176 = (q170 - x0)) (e182 : q182 = (x14 * q176)) (e188 : q188 = ((((x6 - x3) * ((q183 * (x11 - x5)) - (q184 * (x10 - x4)))) + ((x7 - x4) * ((q184 * (x9 - x3)) - (q182 * (x11 - x5))))) + ((x8 - x5) * ((q182 * (x10 - x4)) - (q183 * (x9 - x3)))))) (d201 : q201 * q188 = Z1) (c189 : ¬q188 = Z0) : x12 = (q201 * ((((x0 - x3) * ((q183 * (x11 - x5)) - (q184 * (x10 - x4)))) + ((x1 - x4) * ((q184 * (x9 - x3)) - (q182 * (x11 - x5))))) + ((x2 - x5) * ((q182 * (x10 - x4)) - (q183 * (x9 - x3)))))) := by
  subst Y0 Y1 e171 e177 e183 e172 e178 e184 e170 e176 e182 e188
  grind

theorem TriAims_al205 {Z0 Z1 : Rat} (Y0 : Z0 = (0 : Rat)) (Y1 : Z1 = (1 : Rat)) {x13 q201 q188 x6 x3 q183 x14 q177 q171 x4 x12 x7 x10 x1 x11 x5 q184 q178 q172 x8 x2 x9 q182 q176 q170 x0 : Rat} (e171 : q171 = ((x4 + (x12 * (x7 - x4))) + (x13 * (x10 - x4)))) (e177 : q177 = (q171 - x1)) (e183 : q183 = (x14 * q177)) (e172 : q172 = ((x5 + (x12 * (x8 - x5))) + (x13 * (x11 - x5)))) (e178 : q178 = (q172 - x2)) (e184 : q184 = (x14 * q178)) (e170 : q170 = ((x3 + (x12 * (x6 - x3))) + (x13 * (x9 - x3)))) (e176 : q176 = (q170 - x0)) (e182 : q182 = (x14 * q176)) (e188 : q188 = ((((x6 - x3) * ((q183 * (x11 - x5)) - (q184 * (x10 - x4)))) + ((x7 - x4) * ((q184 * (x9 - x3)) - (q182 * (x11 - x5))))) + ((x8 - x5) * ((q182 * (x10 - x4)) - (q183 * (x9 - x3)))))) (d201 : q201 * q188 = Z1) (c189 : ¬q188 = Z0) : x13 = (q201 * (((q182 * (((x1 - x4) * (x8 - x5)) - ((x2 - x5) * (x7 - x4)))) + (q183 * (((x2 - x5) * (x6 - x3)) - ((x0 - x3) * (x8 - x5))))) + (q184 * (((x0 - x3) * (x7 - x4)) - ((x1 - x4) * (x6 - x3)))))) := by
  subst Y0 Y1 e171 e177 e183 e172 e178 e184 e170 e176 e182 e188
  grind

theorem TriAims_al212 {Z0 Z1 : Rat} (Y0 : Z0 = (0 : Rat)) (Y1 : Z1 = (1 : Rat)) {q170 x3 x12 x6 x13 x9 x0 q206 q201 q188 q183 x14 q177 q171 x4 x7 x10 x1 x11 x5 q184 q178 q172 x8 x2 q182 q176 : Rat} (e170 : q170 = ((x3 + (x12 * (x6 - x3))) + (x13 * (x9 - x3)))) (e171 : q171 = ((x4 + (x12 * (x7 - x4))) + (x13 * (x10 - x4)))) (e177 : q177 = (q171 - x1)) (e183 : q183 = (x14 * q177)) (e172 : q172 = ((x5 + (x12 * (x8 - x5))) + (x13 * (x11 - x5)))) (e178 : q178 = (q172 - x2)) (e184 : q184 = (x14 * q178)) (e176 : q176 = (q170 - x0)) (e182 : q182 = (x14 * q176)) (e188 : q188 = ((((x6 - x3) * ((q183 * (x11 - x5)) - (q184 * (x10 - x4)))) + ((x7 - x4) * ((q184 * (x9 - x3)) - (q182 * (x11 - x5))))) + ((x8 - x5) * ((q182 * (x10 - x4)) - (q183 * (x9 - x3)))))) (d201 : q201 * q188 = Z1) (e206 : q206 = (q201 * ((((x9 - x3) * (((x1 - x4) * (x8 - x5)) - ((x2 - x5) * (x7 - x4)))) + ((x10 - x4) * (((x2 - x5) * (x6 - x3)) - ((x0 - x3) * (x8 - x5))))) + ((x11 - x5) * (((x0 - x3) * (x7 - x4)) - ((x1 - x4) * (x6 - x3))))))) (c189 : ¬q188 = Z0) : q170 = (x0 + (q206 * q182)) := by
  subst Y0 Y1 e170 e171 e177 e183 e172 e178 e184 e176 e182 e188 e206
  grind

theorem TriAims_al214 {Z0 Z1 : Rat} (Y0 : Z0 = (0 : Rat)) (Y1 : Z1 = (1 : Rat)) {q171 x4 x12 x7 x13 x10 x1 q206 q201 q188 x6 x3 q183 x14 q177 x11 x5 q184 q178 q172 x8 x2 x9 q182 q176 q170 x0 : Rat} (e171 : q171 = ((x4 + (x12 * (x7 - x4))) + (x13 * (x10 - x4)))) (e177 : q177 = (q171 - x1)) (e183 : q183 = (x14 * q177)) (e172 : q172 = ((x5 + (x12 * (x8 - x5))) + (x13 * (x11 - x5)))) (e178 : q178 = (q172 - x2)) (e184 : q184 = (x14 * q178)) (e170 : q170 = ((x3 + (x12 * (x6 - x3))) + (x13 * (x9 - x3)))) (e176 : q176 = (q170 - x0)) (e182 : q182 = (x14 * q176)) (e188 : q188 = ((((x6 - x3) * ((q183 * (x11 - x5)) - (q184 * (x10 - x4)))) + ((x7 - x4) * ((q184 * (x9 - x3)) - (q182 * (x11 - x5))))) + ((x8 - x5) * ((q182 * (x10 - x4)) - (q183 * (x9 - x3)))))) (d201 : q201 * q188 = Z1) (e206 : q206 = (q201 * ((((x9 - x3) * (((x1 - x4) * (x8 - x5)) - ((x2 - x5) * (x7 - x4)))) + ((x10 - x4) * (((x2 - x5) * (x6 - x3)) - ((x0 - x3) * (x8 - x5))))) + ((x11 - x5) * (((x0 - x3) * (x7 - x4)) - ((x1 - x4) * (x6 - x3))))))) (c189 : ¬q188 = Z0) : q171 = (x1 + (q206 * q183)) := by
  subst Y0 Y1 e171 e177 e183 e172 e178 e184 e170 e176 e182 e188 e206
  grind

theorem TriAims_al216 {Z0 Z1 : Rat} (Y0 : Z0 = (0 : Rat)) (Y1 : Z1 = (1 : Rat)) {q172 x5 x12 x8 x13 x11 x2 q206 q201 q188 x6 x3 q183 x14 q177 q171 x4 x7 x10 x1 q184 q178 x9 q182 q176 q170 x0 : Rat} (e172 : q172 = ((x5 + (x12 * (x8 - x5))) + (x13 * (x11 - x5)))) (e171 : q171 = ((x4 + (x12 * (x7 - x4))) + (x13 * (x10 - x4)))) (e177 : q177 = (q171 - x1)) (e183 : q183 = (x14 * q177)) (e178 : q178 = (q172 - x2)) (e184 : q184 = (x14 * q178)) (e170 : q170 = ((x3 + (x12 * (x6 - x3))) + (x13 * (x9 - x3)))) (e176 : q176 = (q170 - x0)) (e182 : q182 = (x14 * q176)) (e188 : q188 = ((((x6 - x3) * ((q183 * (x11 - x5)) - (q184 * (x10 - x4)))) + ((x7 - x4) * ((q184 * (x9 - x3)) - (q182 * (x11 - x5))))) + ((x8 - x5) * ((q182 * (x10 - x4)) - (q183 * (x9 - x3)))))) (d201 : q201 * q188 = Z1) (e206 : q206 = (q201 * ((((x9 - x3) * (((x1 - x4) * (x8 - x5)) - ((x2 - x5) * (x7 - x4)))) + ((x10 - x4) * (((x2 - x5) * (x6 - x3)) - ((x0 - x3) * (x8 - x5))))) + ((x11 - x5) * (((x0 - x3) * (x7 - x4)) - ((x1 - x4) * (x6 - x3))))))) (c189 : ¬q188 = Z0) : q172 = (x2 + (q206 * q184)) := by
  subst Y0 Y1 e172 e171 e177 e183 e178 e184 e170 e176 e182 e188 e206
  grind

theorem TriAims_al228 {Z0 Z1 : Rat} (Y0 : Z0 = (0 : Rat)) (Y1 : Z1 = (1 : Rat)) {q225 q219 x7 x4 x11 x5 x8 x10 q176 q170 x3 x12 x6 x13 x9 x0 q220 q177 q171 x1 q221 q178 q172 x2 q100 q188 q183 x14 q184 q182 q206 q201 : Rat} (e219 : q219 = (((x7 - x4) * (x11 - x5)) - ((x8 - x5) * (x10 - x4)))) (e170 : q170 = ((x3 + (x12 * (x6 - x3))) + (x13 * (x9 - x3)))) (e176 : q176 = (q170 - x0)) (e220 : q220 = (((x8 - x5) * (x9 - x3)) - ((x6 - x3) * (x11 - x5)))) (e171 : q171 = ((x4 + (x12 * (x7 - x4))) + (x13 * (x10 - x4)))) (e177 : q177 = (q171 - x1)) (e221 : q221 = (((x6 - x3) * (x10 - x4)) - ((x7 - x4) * (x9 - x3)))) (e172 : q172 = ((x5 + (x12 * (x8 - x5))) + (x13 * (x11 - x5)))) (e178 : q178 = (q172 - x2)) (e225 : q225 = (((q219 * q176) + (q220 * q177)) + (q221 * q178))) (e100 : q100 = (x12 + x13)) (e183 : q183 = (x14 * q177)) (e184 : q184 = (x14 * q178)) (e182 : q182 = (x14 * q176)) (e188 : q188 = ((((x6 - x3) * ((q183 * (x11 - x5)) - (q184 * (x10 - x4)))) + ((x7 - x4) * ((q184 * (x9 - x3)) - (q182 * (x11 - x5))))) + ((x8 - x5) * ((q182 * (x10 - x4)) - (q183 * (x9 - x3)))))) (d201 : q201 * q188 = Z1) (e206 : q206 = (q201 * ((((x9 - x3) * (((x1 - x4) * (x8 - x5)) - ((x2 - x5) * (x7 - x4)))) + ((x10 - x4) * (((x2 - x5) * (x6 - x3)) - ((x0 - x3) * (x8 - x5))))) + ((x11 - x5) * (((x0 - x3) * (x7 - x4)) - ((x1 - x4) * (x6 - x3))))))) (c1 : ¬x12 < Z0) (c49 : ¬x13 < Z0) (c103 : ¬Z1 < q100) (c189 : ¬q188 = Z0) (c207 : Z0 < q206) : ¬(q225 = Z0) := by
  subst Y0 Y1 e219 e170 e176 e220 e171 e177 e221 e172 e178 e225 e100 e183 e184 e182 e188 e206
  grind

theorem TriAims_al231 {Z0 Z1 : Rat} (Y0 : Z0 = (0 : Rat)) (Y1 : Z1 = (1 : Rat)) {x14 q206 q201 q188 x6 x3 q183 q177 q171 x4 x12 x7 x13 x10 x1 x11 x5 q184 q178 q172 x8 x2 x9 q182 q176 q170 x0 q100 q225 q219 q220 q221 : Rat} (e171 : q171 = ((x4 + (x12 * (x7 - x4))) + (x13 * (x10 - x4)))) (e177 : q177 = (q171 - x1)) (e183 : q183 = (x14 * q177)) (e172 : q172 = ((x5 + (x12 * (x8 - x5))) + (x13 * (x11 - x5)))) (e178 : q178 = (q172 - x2)) (e184 : q184 = (x14 * q178)) (e170 : q170 = ((x3 + (x12 * (x6 - x3))) + (x13 * (x9 - x3)))) (e176 : q176 = (q170 - x0)) (e182 : q182 = (x14 * q176)) (e188 : q188 = ((((x6 - x3) * ((q183 * (x11 - x5)) - (q184 * (x10 - x4)))) + ((x7 - x4) * ((q184 * (x9 - x3)) - (q182 * (x11 - x5))))) + ((x8 - x5) * ((q182 * (x10 - x4)) - (q183 * (x9 - x3)))))) (d201 : q201 * q188 = Z1) (e206 : q206 = (q201 * ((((x9 - x3) * (((x1 - x4) * (x8 - x5)) - ((x2 - x5) * (x7 - x4)))) + ((x10 - x4) * (((x2 - x5) * (x6 - x3)) - ((x0 - x3) * (x8 - x5))))) + ((x11 - x5) * (((x0 - x3) * (x7 - x4)) - ((x1 - x4) * (x6 - x3))))))) (e100 : q100 = (x12 + x13)) (e219 : q219 = (((x7 - x4) * (x11 - x5)) - ((x8 - x5) * (x10 - x4)))) (e220 : q220 = (((x8 - x5) * (x9 - x3)) - ((x6 - x3) * (x11 - x5)))) (e221 : q221 = (((x6 - x3) * (x10 - x4)) - ((x7 - x4) * (x9 - x3)))) (e225 : q225 = (((q219 * q176) + (q220 * q177)) + (q221 * q178))) (c1 : ¬x12 < Z0) (c49 : ¬x13 < Z0) (c103 : ¬Z1 < q100) (c189 : ¬q188 = Z0) (c207 : Z0 < q206) (c227 : ¬q225 = Z0) : x14 * q206 = Z1 := by
  subst Y0 Y1 e171 e177 e183 e172 e178 e184 e170 e176 e182 e188 e206 e100 e219 e220 e221 e225
  grind

theorem TriAims_al233 {Z0 Z1 : Rat} (Y0 : Z0 = (0 : Rat)) (Y1 : Z1 = (1 : Rat)) {q206 q201 q188 x6 x3 q183 x14 q177 q171 x4 x12 x7 x13 x10 x1 x11 x5 q184 q178 q172 x8 x2 x9 q182 q176 q170 x0 : Rat} (e171 : q171 = ((x4 + (x12 * (x7 - x4))) + (x13 * (x10 - x4)))) (e177 : q177 = (q171 - x1)) (e183 : q183 = (x14 * q177)) (e172 : q172 = ((x5 + (x12 * (x8 - x5))) + (x13 * (x11 - x5)))) (e178 : q178 = (q172 - x2)) (e184 : q184 = (x14 * q178)) (e170 : q170 = ((x3 + (x12 * (x6 - x3))) + (x13 * (x9 - x3)))) (e176 : q176 = (q170 - x0)) (e182 : q182 = (x14 * q176)) (e188 : q188 = ((((x6 - x3) * ((q183 * (x11 - x5)) - (q184 * (x10 - x4)))) + ((x7 - x4) * ((q184 * (x9 - x3)) - (q182 * (x11 - x5))))) + ((x8 - x5) * ((q182 * (x10 - x4)) - (q183 * (x9 - x3)))))) (d201 : q201 * q188 = Z1) (e206 : q206 = (q201 * ((((x9 - x3) * (((x1 - x4) * (x8 - x5)) - ((x2 - x5) * (x7 - x4)))) + ((x10 - x4) * (((x2 - x5) * (x6 - x3)) - ((x0 - x3) * (x8 - x5))))) + ((x11 - x5) * (((x0 - x3) * (x7 - x4)) - ((x1 - x4) * (x6 - x3))))))) (c189 : ¬q188 = Z0) : q206 = (Z1 / x14) := by
  subst Y0 Y1 e171 e177 e183 e172 e178 e184 e170 e176 e182 e188 e206
  grind

theorem TriAims_al243 {Z0 Z1 : Rat} (Y0 : Z0 = (0 : Rat)) (Y1 : Z1 = (1 : Rat)) {q240 q234 x7 x4 x11 x5 x8 x10 q176 q170 x3 x12 x6 x13 x9 x0 q235 q177 q171 x1 q236 q178 q172 x2 q100 q188 q183 x14 q184 q182 q206 q201 : Rat} (e234 : q234 = (((x7 - x4) * (x11 - x5)) - ((x8 - x5) * (x10 - x4)))) (e170 : q170 = ((x3 + (x12 * (x6 - x3))) + (x13 * (x9 - x3)))) (e176 : q176 = (q170 - x0)) (e235 : q235 = (((x8 - x5) * (x9 - x3)) - ((x6 - x3) * (x11 - x5)))) (e171 : q171 = ((x4 + (x12 * (x7 - x4))) + (x13 * (x10 - x4)))) (e177 : q177 = (q171 - x1)) (e236 : q236 = (((x6 - x3) * (x10 - x4)) - ((x7 - x4) * (x9 - x3)))) (e172 : q172 = ((x5 + (x12 * (x8 - x5))) + (x13 * (x11 - x5)))) (e178 : q178 = (q172 - x2)) (e240 : q240 = (((q234 * q176) + (q235 * q177)) + (q236 * q178))) (e100 : q100 = (x12 + x13)) (e183 : q183 = (x14 * q177)) (e184 : q184 = (x14 * q178)) (e182 : q182 = (x14 * q176)) (e188 : q188 = ((((x6 - x3) * ((q183 * (x11 - x5)) - (q184 * (x10 - x4)))) + ((x7 - x4) * ((q184 * (x9 - x3)) - (q182 * (x11 - x5))))) + ((x8 - x5) * ((q182 * (x10 - x4)) - (q183 * (x9 - x3)))))) (d201 : q201 * q188 = Z1) (e206 : q206 = (q201 * ((((x9 - x3) * (((x1 - x4) * (x8 - x5)) - ((x2 - x5) * (x7 - x4)))) + ((x10 - x4) * (((x2 - x5) * (x6 - x3)) - ((x0 - x3) * (x8 - x5))))) + ((x11 - x5) * (((x0 - x3) * (x7 - x4)) - ((x1 - x4) * (x6 - x3))))))) (c1 : ¬x12 < Z0) (c49 : ¬x13 < Z0) (c103 : ¬Z1 < q100) (c189 : ¬q188 = Z0) (c207 : ¬Z0 < q206) : ¬(q240 = Z0) := by
  subst Y0 Y1 e234 e170 e176 e235 e171 e177 e236 e172 e178 e240 e100 e183 e184 e182 e188 e206
  grind

theorem TriAims_al246 {Z0 Z1 : Rat} (Y0 : Z0 = (0 : Rat)) (Y1 : Z1 = (1 : Rat)) {x14 q206 q201 q188 x6 x3 q183 q177 q171 x4 x12 x7 x13 x10 x1 x11 x5 q184 q178 q172 x8 x2 x9 q182 q176 q170 x0 q100 q240 q234 q235 q236 : Rat} (e171 : q171 = ((x4 + (x12 * (x7 - x4))) + (x13 * (x10 - x4)))) (e177 : q177 = (q171 - x1)) (e183 : q183 = (x14 * q177)) (e172 : q172 = ((x5 + (x12 * (x8 - x5))) + (x13 * (x11 - x5)))) (e178 : q178 = (q172 - x2)) (e184 : q184 = (x14 * q178)) (e170 : q170 = ((x3 + (x12 * (x6 - x3))) + (x13 * (x9 - x3)))) (e176 : q176 = (q170 - x0)) (e182 : q182 = (x14 * q176)) (e188 : q188 = ((((x6 - x3) * ((q183 * (x11 - x5)) - (q184 * (x10 - x4)))) + ((x7 - x4) * ((q184 * (x9 - x3)) - (q182 * (x11 - x5))))) + ((x8 - x5) * ((q182 * (x10 - x4)) - (q183 * (x9 - x3)))))) (d201 : q201 * q188 = Z1) (e206 : q206 = (q201 * ((((x9 - x3) * (((x1 - x4) * (x8 - x5)) - ((x2 - x5) * (x7 - x4)))) + ((x10 - x4) * (((x2 - x5) * (x6 - x3)) - ((x0 - x3) * (x8 - x5))))) + ((x11 - x5) * (((x0 - x3) * (x7 - x4)) - ((x1 - x4) * (x6 - x3))))))) (e100 : q100 = (x12 + x13)) (e234 : q234 = (((x7 - x4) * (x11 - x5)) - ((x8 - x5) * (x10 - x4)))) (e235 : q235 = (((x8 - x5) * (x9 - x3)) - ((x6 - x3) * (x11 - x5)))) (e236 : q236 = (((x6 - x3) * (x10 - x4)) - ((x7 - x4) * (x9 - x3)))) (e240 : q240 = (((q234 * q176) + (q235 * q177)) + (q236 * q178))) (c1 : ¬x12 < Z0) (c49 : ¬x13 < Z0) (c103 : ¬Z1 < q100) (c189 : ¬q188 = Z0) (c207 : ¬Z0 < q206) (c242 : ¬q240 = Z0) : x14 * q206 = Z1 := by
  subst Y0 Y1 e171 e177 e183 e172 e178 e184 e170 e176 e182 e188 e206 e100 e234 e235 e236 e240
  grind

theorem pure_TriAims {r0 r1 r2 r3 r4 r5 r6 r7 r8 r9 r10 r11 r12 r13 r14 : RR} (g0 : r0.ok 1048576) (g1 : r1.ok 1048576) (g2 : r2.ok 1048576) (g3 : r3.ok 1048576) (g4 : r4.ok 1048576) (g5 : r5.ok 1048576) (g6 : r6.ok 1048576) (g7 : r7.ok 1048576) (g8 : r8.ok 1048576) (g9 : r9.ok 1048576) (g10 : r10.ok 1048576) (g11 : r11.ok 1048576) (g12 : r12.ok 1048576) (g13 : r13.ok 1048576) (g14 : r14.ok 1048576) : PureCalls prog F.penumbralaw08_TriAims [.agg ([.bool r0.neg, nl r0.num, nl r0.den, .bool r1.neg, nl r1.num, nl r1.den, .bool r2.neg, nl r2.num, nl r2.den]), .agg ([.bool r3.neg, nl r3.num, nl r3.den, .bool r4.neg, nl r4.num, nl r4.den, .bool r5.neg, nl r5.num, nl r5.den, .bool r6.neg, nl r6.num, nl r6.den, .bool r7.neg, nl r7.num, nl r7.den, .bool r8.neg, nl r8.num, nl r8.den, .bool r9.neg, nl r9.num, nl r9.den, .bool r10.neg, nl r10.num, nl r10.den, .bool r11.neg, nl r11.num, nl r11.den]), .agg ([.bool r12.neg, nl r12.num, nl r12.den, .bool r13.neg, nl r13.num, nl r13.den, .bool r14.neg, nl r14.num, nl r14.den])] [.one (.bool true)] := by
  obtain ⟨Z0, Y0⟩ := ex_eq (0 : Rat)
  obtain ⟨Z1, Y1⟩ := ex_eq (1 : Rat)
  obtain ⟨x0, h0⟩ := Num.raw g0 (by decide)
  obtain ⟨x1, h1⟩ := Num.raw g1 (by decide)
  obtain ⟨x2, h2⟩ := Num.raw g2 (by decide)
  obtain ⟨x3, h3⟩ := Num.raw g3 (by decide)
  obtain ⟨x4, h4⟩ := Num.raw g4 (by decide)
  obtain ⟨x5, h5⟩ := Num.raw g5 (by decide)
  obtain ⟨x6, h6⟩ := Num.raw g6 (by decide)
  obtain ⟨x7, h7⟩ := Num.raw g7 (by decide)
  obtain ⟨x8, h8⟩ := Num.raw g8 (by decide)
  obtain ⟨x9, h9⟩ := Num.raw g9 (by decide)
  obtain ⟨x10, h10⟩ := Num.raw g10 (by decide)
  obtain ⟨x11, h11⟩ := Num.raw g11 (by decide)
  obtain ⟨x12, h12⟩ := Num.raw g12 (by decide)
  obtain ⟨x13, h13⟩ := Num.raw g13 (by decide)
  obtain ⟨x14, h14⟩ := Num.raw g14 (by decide)
  refine symFunc_sound hmix tree_penumbralaw08_TriAims (by kernel_rfl) rfl ?_
  unfold ir_penumbralaw08_TriAims
  simp only [fa_agg, fa_one, fa_nil, List.cons_append, List.nil_append, List.append_nil]
  refine call_step (n_rat_Of (1) (1) (by decide) (by decide) (by decide) (by decide) (Y1.trans (by decide +kernel))) rfl ?_
  simp only [fa_agg, fa_one, fa_nil, List.cons_append, List.nil_append, List.append_nil]
  refine call_step (n_rat_Sign (h12.mono (by decide))) rfl ?_
  simp only [fa_agg, fa_one, fa_nil, List.cons_append, List.nil_append, List.append_nil]
  by_cases c1 : x12 < Z0
  · skip
    refine primS (.bool false) (cs_geq_f ((sg_lt Y0).2 c1)) ?_
    refine itF rfl ?_
    obtain ⟨q2, e2⟩ := ex_eq ((x3 + (x12 * (x6 - x3))) + (x13 * (x9 - x3)))
    obtain ⟨q3, e3⟩ := ex_eq ((x4 + (x12 * (x7 - x4))) + (x13 * (x10 - x4)))
    obtain ⟨q4, e4⟩ := ex_eq ((x5 + (x12 * (x8 - x5))) + (x13 * (x11 - x5)))
    refine call_step (n_tri_Point_0 (k0 := q2) (k1 := q3) (k2 := q4) (h3.mono (by decide)) (h4.mono (by decide)) (h5.mono (by decide)) (h6.mono (by decide)) (h7.mono (by decide)) (h8.mono (by decide)) (h9.mono (by decide)) (h10.mono (by decide)) (h11.mono (by decide)) (h12.mono (by decide)) (h13.mono (by decide)) e2 e3 e4) rfl ?_
    simp only [fa_agg, fa_one, fa_nil, List.cons_append, List.nil_append, List.append_nil]
    have m5 : Num 7340036 (cr q2) q2 := Num.eqn e2 (Sm.add (Sm.add h3.sm (Sm.mul h12.sm (Sm.sub h6.sm h3.sm))) (Sm.mul h13.sm (Sm.sub h9.sm h3.sm)))
    have m6 : Num 7340036 (cr q3) q3 := Num.eqn e3 (Sm.add (Sm.add h4.sm (Sm.mul h12.sm (Sm.sub h7.sm h4.sm))) (Sm.mul h13.sm (Sm.sub h10.sm h4.sm)))
    have m7 : Num 7340036 (cr q4) q4 := Num.eqn e4 (Sm.add (Sm.add h5.sm (Sm.mul h12.sm (Sm.sub h8.sm h5.sm))) (Sm.mul h13.sm (Sm.sub h11.sm h5.sm)))
    obtain ⟨q8, e8⟩ := ex_eq (q2 - x0)
    obtain ⟨q9, e9⟩ := ex_eq (q3 - x1)
    obtain ⟨q10, e10⟩ := ex_eq (q4 - x2)
    refine call_step (n_vec_Sub_0 (k0 := q8) (k1 := q9) (k2 := q10) (m5.mono (by decide)) (m6.mono (by decide)) (m7.mono (by decide)) (h0.mono (by decide)) (h1.mono (by decide)) (h2.mono (by decide)) e8 e9 e10) rfl ?_
    simp only [fa_agg, fa_one, fa_nil, List.cons_append, List.nil_append, List.append_nil]
    have m11 : Num 8388613 (cr q8) q8 := Num.eqn e8 (Sm.sub m5.sm h0.sm)
    have m12 : Num 8388613 (cr q9) q9 := Num.eqn e9 (Sm.sub m6.sm h1.sm)
    have m13 : Num 8388613 (cr q10) q10 := Num.eqn e10 (Sm.sub m7.sm h2.sm)
    obtain ⟨q14, e14⟩ := ex_eq (x14 * q8)
    obtain ⟨q15, e15⟩ := ex_eq (x14 * q9)
    obtain ⟨q16, e16⟩ := ex_eq (x14 * q10)
    refine call_step (n_vec_Scale_0 (k0 := q14) (k1 := q15) (k2 := q16) (h14.mono (by decide)) (m11.mono (by decide)) (m12.mono (by decide)) (m13.mono (by decide)) e14 e15 e16) rfl ?_
    simp only [fa_agg, fa_one, fa_nil, List.cons_append, List.nil_append, List.append_nil]
    have m17 : Num 9437189 (cr q14) q14 := Num.eqn e14 (Sm.mul h14.sm m11.sm)
    have m18 : Num 9437189 (cr q15) q15 := Num.eqn e15 (Sm.mul h14.sm m12.sm)
    have m19 : Num 9437189 (cr q16) q16 := Num.eqn e16 (Sm.mul h14.sm m13.sm)
    obtain ⟨q20, e20⟩ := ex_eq ((((x6 - x3) * ((q15 * (x11 - x5)) - (q16 * (x10 - x4)))) + ((x7 - x4) * ((q16 * (x9 - x3)) - (q14 * (x11 - x5))))) + ((x8 - x5) * ((q14 * (x10 - x4)) - (q15 * (x9 - x3)))))
    by_cases c21 : q20 = Z0
    · skip
      refine call_step (n_tri_Hit_0 (k0 := q20) Y0 Y1 (h0.mono (by decide)) (h1.mono (by decide)) (h2.mono (by decide)) (m17.mono (by decide)) (m18.mono (by decide)) (m19.mono (by decide)) (h3.mono (by decide)) (h4.mono (by decide)) (h5.mono (by decide)) (h6.mono (by decide)) (h7.mono (by decide)) (h8.mono (by decide)) (h9.mono (by decide)) (h10.mono (by decide)) (h11.mono (by decide)) e20 c21) rfl ?_
      simp only [fa_agg, fa_one, fa_nil, List.cons_append, List.nil_append, List.append_nil]
      refine call_step n_penumbralaw08_fixed rfl ?_
      simp only [fa_agg, fa_one, fa_nil, List.cons_append, List.nil_append, List.append_nil]
      refine primS (.bool false) rfl ?_
      refine itF rfl ?_
      refine itF rfl ?_
      obtain ⟨q22, e22⟩ := ex_eq (((x7 - x4) * (x11 - x5)) - ((x8 - x5) * (x10 - x4)))
      obtain ⟨q23, e23⟩ := ex_eq (((x8 - x5) * (x9 - x3)) - ((x6 - x3) * (x11 - x5)))
      obtain ⟨q24, e24⟩ := ex_eq (((x6 - x3) * (x10 - x4)) - ((x7 - x4) * (x9 - x3)))
      refine call_step (n_tri_Normal_0 (k0 := q22) (k1 := q23) (k2 := q24) (h3.mono (by decide)) (h4.mono (by decide)) (h5.mono (by decide)) (h6.mono (by decide)) (h7.mono (by decide)) (h8.mono (by decide)) (h9.mono (by decide)) (h10.mono (by decide)) (h11.mono (by decide)) e22 e23 e24) rfl ?_
      simp only [fa_agg, fa_one, fa_nil, List.cons_append, List.nil_append, List.append_nil]
      refine call_step (n_vec_Sub_0 (k0 := q8) (k1 := q9) (k2 := q10) (m5.mono (by decide)) (m6.mono (by decide)) (m7.mono (by decide)) (h0.mono (by decide)) (h1.mono (by decide)) (h2.mono (by decide)) e8 e9 e10) rfl ?_
      simp only [fa_agg, fa_one, fa_nil, List.cons_append, List.nil_append, List.append_nil]
      have m25 : Num 8388613 (cr q22) q22 := Num.eqn e22 (Sm.sub (Sm.mul (Sm.sub h7.sm h4.sm) (Sm.sub h11.sm h5.sm)) (Sm.mul (Sm.sub h8.sm h5.sm) (Sm.sub h10.sm h4.sm)))
      have m26 : Num 8388613 (cr q23) q23 := Num.eqn e23 (Sm.sub (Sm.mul (Sm.sub h8.sm h5.sm) (Sm.sub h9.sm h3.sm)) (Sm.mul (Sm.sub h6.sm h3.sm) (Sm.sub h11.sm h5.sm)))
      have m27 : Num 8388613 (cr q24) q24 := Num.eqn e24 (Sm.sub (Sm.mul (Sm.sub h6.sm h3.sm) (Sm.sub h10.sm h4.sm)) (Sm.mul (Sm.sub h7.sm h4.sm) (Sm.sub h9.sm h3.sm)))
      obtain ⟨q28, e28⟩ := ex_eq (((q22 * q8) + (q23 * q9)) + (q24 * q10))
      refine call_step (n_vec_Dot_0 (k0 := q28) (m25.mono (by decide)) (m26.mono (by decide)) (m27.mono (by decide)) (m11.mono (by decide)) (m12.mono (by decide)) (m13.mono (by decide)) e28) rfl ?_
      simp only [fa_agg, fa_one, fa_nil, List.cons_append, List.nil_append, List.append_nil]
      have m29 : Num 50331680 (cr q28) q28 := Num.eqn e28 (Sm.add (Sm.add (Sm.mul m25.sm m11.sm) (Sm.mul m26.sm m12.sm)) (Sm.mul m27.sm m13.sm))
      refine call_step (n_rat_Sign (m29.mono (by decide))) rfl ?_
      simp only [fa_agg, fa_one, fa_nil, List.cons_append, List.nil_append, List.append_nil]
      by_cases c30 : q28 = Z0
      · skip
        refine primS (.bool false) (cs_neq_f ((sg_eq Y0).2 c30)) ?_
        refine primS (.bool true) rfl ?_
        refine itT rfl ?_
        refine primS (.bool true) rfl ?_
        exact ret_step rfl
      · skip
        refine primS (.bool true) (cs_neq_t (fun z => c30 ((sg_eq Y0).1 z))) ?_
        refine primS (.bool false) rfl ?_
        refine itF rfl ?_
        refine call_step (n_rat_Sign (h14.mono (by decide))) rfl ?_
        simp only [fa_agg, fa_one, fa_nil, List.cons_append, List.nil_append, List.append_nil]
        have c31 : ¬(Z0 < x14) := (TriAims_al32 Y0 e3 e9 e15 e4 e10 e16 e2 e8 e14 e20 e22 e23 e24 e28 c1 c21 c30)
        refine primS (.bool true) (cs_leq_t (fun z => c31 ((sg_gt Y0).1 z))) ?_
        refine itT rfl ?_
        refine primS (.bool true) rfl ?_
        exact ret_step rfl
    · skip
      obtain ⟨q33, e33⟩ := ex_eq (Z1 / q20)
      have d33 := div_mul Y0 e33 c21
      have u34 : x12 = (q33 * ((((x0 - x3) * ((q15 * (x11 - x5)) - (q16 * (x10 - x4)))) + ((x1 - x4) * ((q16 * (x9 - x3)) - (q14 * (x11 - x5))))) + ((x2 - x5) * ((q14 * (x10 - x4)) - (q15 * (x9 - x3)))))) := (TriAims_al35 Y0 Y1 e3 e9 e15 e4 e10 e16 e2 e8 e14 e20 d33 c21)
      refine call_step (n_tri_Hit_1 (k0 := q20) (k1 := q33) (k2 := x12) Y0 Y1 (h0.mono (by decide)) (h1.mono (by decide)) (h2.mono (by decide)) (m17.mono (by decide)) (m18.mono (by decide)) (m19.mono (by decide)) (h3.mono (by decide)) (h4.mono (by decide)) (h5.mono (by decide)) (h6.mono (by decide)) (h7.mono (by decide)) (h8.mono (by decide)) (h9.mono (by decide)) (h10.mono (by decide)) (h11.mono (by decide)) e20 e33 u34 c21 c1) rfl ?_
      simp only [fa_agg, fa_one, fa_nil, List.cons_append, List.nil_append, List.append_nil]
      refine call_step n_penumbralaw08_fixed rfl ?_
      simp only [fa_agg, fa_one, fa_nil, List.cons_append, List.nil_append, List.append_nil]
      refine primS (.bool false) rfl ?_
      refine itF rfl ?_
      refine itF rfl ?_
      obtain ⟨q36, e36⟩ := ex_eq (((x7 - x4) * (x11 - x5)) - ((x8 - x5) * (x10 - x4)))
      obtain ⟨q37, e37⟩ := ex_eq (((x8 - x5) * (x9 - x3)) - ((x6 - x3) * (x11 - x5)))
      obtain ⟨q38, e38⟩ := ex_eq (((x6 - x3) * (x10 - x4)) - ((x7 - x4) * (x9 - x3)))
      refine call_step (n_tri_Normal_0 (k0 := q36) (k1 := q37) (k2 := q38) (h3.mono (by decide)) (h4.mono (by decide)) (h5.mono (by decide)) (h6.mono (by decide)) (h7.mono (by decide)) (h8.mono (by decide)) (h9.mono (by decide)) (h10.mono (by decide)) (h11.mono (by decide)) e36 e37 e38) rfl ?_
      simp only [fa_agg, fa_one, fa_nil, List.cons_append, List.nil_append, List.append_nil]
      refine call_step (n_vec_Sub_0 (k0 := q8) (k1 := q9) (k2 := q10) (m5.mono (by decide)) (m6.mono (by decide)) (m7.mono (by decide)) (h0.mono (by decide)) (h1.mono (by decide)) (h2.mono (by decide)) e8 e9 e10) rfl ?_
      simp only [fa_agg, fa_one, fa_nil, List.cons_append, List.nil_append, List.append_nil]
      have m39 : Num 8388613 (cr q36) q36 := Num.eqn e36 (Sm.sub (Sm.mul (Sm.sub h7.sm h4.sm) (Sm.sub h11.sm h5.sm)) (Sm.mul (Sm.sub h8.sm h5.sm) (Sm.sub h10.sm h4.sm)))
      have m40 : Num 8388613 (cr q37) q37 := Num.eqn e37 (Sm.sub (Sm.mul (Sm.sub h8.sm h5.sm) (Sm.sub h9.sm h3.sm)) (Sm.mul (Sm.sub h6.sm h3.sm) (Sm.sub h11.sm h5.sm)))
      have m41 : Num 8388613 (cr q38) q38 := Num.eqn e38 (Sm.sub (Sm.mul (Sm.sub h6.sm h3.sm) (Sm.sub h10.sm h4.sm)) (Sm.mul (Sm.sub h7.sm h4.sm) (Sm.sub h9.sm h3.sm)))
      obtain ⟨q42, e42⟩ := ex_eq (((q36 * q8) + (q37 * q9)) + (q38 * q10))
      refine call_step (n_vec_Dot_0 (k0 := q42) (m39.mono (by decide)) (m40.mono (by decide)) (m41.mono (by decide)) (m11.mono (by decide)) (m12.mono (by decide)) (m13.mono (by decide)) e42) rfl ?_
      simp only [fa_agg, fa_one, fa_nil, List.cons_append, List.nil_append, List.append_nil]
      have m43 : Num 50331680 (cr q42) q42 := Num.eqn e42 (Sm.add (Sm.add (Sm.mul m39.sm m11.sm) (Sm.mul m40.sm m12.sm)) (Sm.mul m41.sm m13.sm))
      refine call_step (n_rat_Sign (m43.mono (by decide))) rfl ?_
      simp only [fa_agg, fa_one, fa_nil, List.cons_append, List.nil_append, List.append_nil]
      have c44 : ¬(q42 = Z0) := (TriAims_al45 Y0 e36 e2 e8 e37 e3 e9 e38 e4 e10 e42 e15 e16 e14 e20 c1 c21)
      refine primS (.bool true) (cs_neq_t (fun z => c44 ((sg_eq Y0).1 z))) ?_
      refine primS (.bool false) rfl ?_
      refine itF rfl ?_
      refine call_step (n_rat_Sign (h14.mono (by decide))) rfl ?_
      simp only [fa_agg, fa_one, fa_nil, List.cons_append, List.nil_append, List.append_nil]
      by_cases c46 : Z0 < x14
      · skip
        refine primS (.bool false) (cs_leq_f ((sg_gt Y0).2 c46)) ?_
        refine itF rfl ?_
        have m47 : Num 1 (cr Z1) Z1 := Num.c Y1 (by decide +kernel) (by decide +kernel)
        obtain ⟨q48, e48⟩ := ex_eq (Z1 / x14)
        have d48 := div_mul Y0 e48 (fun z => Rat.ne_of_lt c46 z.symm)
        refine call_step (n_rat_Div_f (k0 := q48) Y0 (m47.mono (by decide)) (h14.mono (by decide)) e48 (fun z => Rat.ne_of_lt c46 z.symm)) rfl ?_
        simp only [fa_agg, fa_one, fa_nil, List.cons_append, List.nil_append, List.append_nil]
        refine primS (.bool true) rfl ?_
        refine itT rfl ?_
        refine primS (.bool true) rfl ?_
        refine itT rfl ?_
        exact ret_step rfl
      · skip
        refine primS (.bool true) (cs_leq_t (fun z => c46 ((sg_gt Y0).1 z))) ?_
        refine itT rfl ?_
        refine primS (.bool true) rfl ?_
        exact ret_step rfl
  · skip
    refine primS (.bool true) (cs_geq_t (fun z => c1 ((sg_lt Y0).1 z))) ?_
    refine itT rfl ?_
    refine call_step (n_rat_Sign (h13.mono (by decide))) rfl ?_
    simp only [fa_agg, fa_one, fa_nil, List.cons_append, List.nil_append, List.append_nil]
    by_cases c49 : x13 < Z0
    · skip
      refine primS (.bool false) (cs_geq_f ((sg_lt Y0).2 c49)) ?_
      refine itF rfl ?_
      obtain ⟨q50, e50⟩ := ex_eq ((x3 + (x12 * (x6 - x3))) + (x13 * (x9 - x3)))
      obtain ⟨q51, e51⟩ := ex_eq ((x4 + (x12 * (x7 - x4))) + (x13 * (x10 - x4)))
      obtain ⟨q52, e52⟩ := ex_eq ((x5 + (x12 * (x8 - x5))) + (x13 * (x11 - x5)))
      refine call_step (n_tri_Point_0 (k0 := q50) (k1 := q51) (k2 := q52) (h3.mono (by decide)) (h4.mono (by decide)) (h5.mono (by decide)) (h6.mono (by decide)) (h7.mono (by decide)) (h8.mono (by decide)) (h9.mono (by decide)) (h10.mono (by decide)) (h11.mono (by decide)) (h12.mono (by decide)) (h13.mono (by decide)) e50 e51 e52) rfl ?_
      simp only [fa_agg, fa_one, fa_nil, List.cons_append, List.nil_append, List.append_nil]
      have m53 : Num 7340036 (cr q50) q50 := Num.eqn e50 (Sm.add (Sm.add h3.sm (Sm.mul h12.sm (Sm.sub h6.sm h3.sm))) (Sm.mul h13.sm (Sm.sub h9.sm h3.sm)))
      have m54 : Num 7340036 (cr q51) q51 := Num.eqn e51 (Sm.add (Sm.add h4.sm (Sm.mul h12.sm (Sm.sub h7.sm h4.sm))) (Sm.mul h13.sm (Sm.sub h10.sm h4.sm)))
      have m55 : Num 7340036 (cr q52) q52 := Num.eqn e52 (Sm.add (Sm.add h5.sm (Sm.mul h12.sm (Sm.sub h8.sm h5.sm))) (Sm.mul h13.sm (Sm.sub h11.sm h5.sm)))
      obtain ⟨q56, e56⟩ := ex_eq (q50 - x0)
      obtain ⟨q57, e57⟩ := ex_eq (q51 - x1)
      obtain ⟨q58, e58⟩ := ex_eq (q52 - x2)
      refine call_step (n_vec_Sub_0 (k0 := q56) (k1 := q57) (k2 := q58) (m53.mono (by decide)) (m54.mono (by decide)) (m55.mono (by decide)) (h0.mono (by decide)) (h1.mono (by decide)) (h2.mono (by decide)) e56 e57 e58) rfl ?_
      simp only [fa_agg, fa_one, fa_nil, List.cons_append, List.nil_append, List.append_nil]
      have m59 : Num 8388613 (cr q56) q56 := Num.eqn e56 (Sm.sub m53.sm h0.sm)
      have m60 : Num 8388613 (cr q57) q57 := Num.eqn e57 (Sm.sub m54.sm h1.sm)
      have m61 : Num 8388613 (cr q58) q58 := Num.eqn e58 (Sm.sub m55.sm h2.sm)
      obtain ⟨q62, e62⟩ := ex_eq (x14 * q56)
      obtain ⟨q63, e63⟩ := ex_eq (x14 * q57)
      obtain ⟨q64, e64⟩ := ex_eq (x14 * q58)
      refine call_step (n_vec_Scale_0 (k0 := q62) (k1 := q63) (k2 := q64) (h14.mono (by decide)) (m59.mono (by decide)) (m60.mono (by decide)) (m61.mono (by decide)) e62 e63 e64) rfl ?_
      simp only [fa_agg, fa_one, fa_nil, List.cons_append, List.nil_append, List.append_nil]
      have m65 : Num 9437189 (cr q62) q62 := Num.eqn e62 (Sm.mul h14.sm m59.sm)
      have m66 : Num 9437189 (cr q63) q63 := Num.eqn e63 (Sm.mul h14.sm m60.sm)
      have m67 : Num 9437189 (cr q64) q64 := Num.eqn e64 (Sm.mul h14.sm m61.sm)
      obtain ⟨q68, e68⟩ := ex_eq ((((x6 - x3) * ((q63 * (x11 - x5)) - (q64 * (x10 - x4)))) + ((x7 - x4) * ((q64 * (x9 - x3)) - (q62 * (x11 - x5))))) + ((x8 - x5) * ((q62 * (x10 - x4)) - (q63 * (x9 - x3)))))
      by_cases c69 : q68 = Z0
      · skip
        refine call_step (n_tri_Hit_0 (k0 := q68) Y0 Y1 (h0.mono (by decide)) (h1.mono (by decide)) (h2.mono (by decide)) (m65.mono (by decide)) (m66.mono (by decide)) (m67.mono (by decide)) (h3.mono (by decide)) (h4.mono (by decide)) (h5.mono (by decide)) (h6.mono (by decide)) (h7.mono (by decide)) (h8.mono (by decide)) (h9.mono (by decide)) (h10.mono (by decide)) (h11.mono (by decide)) e68 c69) rfl ?_
        simp only [fa_agg, fa_one, fa_nil, List.cons_append, List.nil_append, List.append_nil]
        refine call_step n_penumbralaw08_fixed rfl ?_
        simp only [fa_agg, fa_one, fa_nil, List.cons_append, List.nil_append, List.append_nil]
        refine primS (.bool false) rfl ?_
        refine itF rfl ?_
        refine itF rfl ?_
        obtain ⟨q70, e70⟩ := ex_eq (((x7 - x4) * (x11 - x5)) - ((x8 - x5) * (x10 - x4)))
        obtain ⟨q71, e71⟩ := ex_eq (((x8 - x5) * (x9 - x3)) - ((x6 - x3) * (x11 - x5)))
        obtain ⟨q72, e72⟩ := ex_eq (((x6 - x3) * (x10 - x4)) - ((x7 - x4) * (x9 - x3)))
        refine call_step (n_tri_Normal_0 (k0 := q70) (k1 := q71) (k2 := q72) (h3.mono (by decide)) (h4.mono (by decide)) (h5.mono (by decide)) (h6.mono (by decide)) (h7.mono (by decide)) (h8.mono (by decide)) (h9.mono (by decide)) (h10.mono (by decide)) (h11.mono (by decide)) e70 e71 e72) rfl ?_
        simp only [fa_agg, fa_one, fa_nil, List.cons_append, List.nil_append, List.append_nil]
        refine call_step (n_vec_Sub_0 (k0 := q56) (k1 := q57) (k2 := q58) (m53.mono (by decide)) (m54.mono (by decide)) (m55.mono (by decide)) (h0.mono (by decide)) (h1.mono (by decide)) (h2.mono (by decide)) e56 e57 e58) rfl ?_
        simp only [fa_agg, fa_one, fa_nil, List.cons_append, List.nil_append, List.append_nil]
        have m73 : Num 8388613 (cr q70) q70 := Num.eqn e70 (Sm.sub (Sm.mul (Sm.sub h7.sm h4.sm) (Sm.sub h11.sm h5.sm)) (Sm.mul (Sm.sub h8.sm h5.sm) (Sm.sub h10.sm h4.sm)))
        have m74 : Num 8388613 (cr q71) q71 := Num.eqn e71 (Sm.sub (Sm.mul (Sm.sub h8.sm h5.sm) (Sm.sub h9.sm h3.sm)) (Sm.mul (Sm.sub h6.sm h3.sm) (Sm.sub h11.sm h5.sm)))
        have m75 : Num 8388613 (cr q72) q72 := Num.eqn e72 (Sm.sub (Sm.mul (Sm.sub h6.sm h3.sm) (Sm.sub h10.sm h4.sm)) (Sm.mul (Sm.sub h7.sm h4.sm) (Sm.sub h9.sm h3.sm)))
        obtain ⟨q76, e76⟩ := ex_eq (((q70 * q56) + (q71 * q57)) + (q72 * q58))
        refine call_step (n_vec_Dot_0 (k0 := q76) (m73.mono (by decide)) (m74.mono (by decide)) (m75.mono (by decide)) (m59.mono (by decide)) (m60.mono (by decide)) (m61.mono (by decide)) e76) rfl ?_
        simp only [fa_agg, fa_one, fa_nil, List.cons_append, List.nil_append, List.append_nil]
        have m77 : Num 50331680 (cr q76) q76 := Num.eqn e76 (Sm.add (Sm.add (Sm.mul m73.sm m59.sm) (Sm.mul m74.sm m60.sm)) (Sm.mul m75.sm m61.sm))
        refine call_step (n_rat_Sign (m77.mono (by decide))) rfl ?_
        simp only [fa_agg, fa_one, fa_nil, List.cons_append, List.nil_append, List.append_nil]
        by_cases c78 : q76 = Z0
        · skip
          refine primS (.bool false) (cs_neq_f ((sg_eq Y0).2 c78)) ?_
          refine primS (.bool true) rfl ?_
          refine itT rfl ?_
          refine primS (.bool true) rfl ?_
          exact ret_step rfl
        · skip
          refine primS (.bool true) (cs_neq_t (fun z => c78 ((sg_eq Y0).1 z))) ?_
          refine primS (.bool false) rfl ?_
          refine itF rfl ?_
          refine call_step (n_rat_Sign (h14.mono (by decide))) rfl ?_
          simp only [fa_agg, fa_one, fa_nil, List.cons_append, List.nil_append, List.append_nil]
          have c79 : ¬(Z0 < x14) := (TriAims_al80 Y0 e51 e57 e63 e52 e58 e64 e50 e56 e62 e68 e70 e71 e72 e76 c1 c49 c69 c78)
          refine primS (.bool true) (cs_leq_t (fun z => c79 ((sg_gt Y0).1 z))) ?_
          refine itT rfl ?_
          refine primS (.bool true) rfl ?_
          exact ret_step rfl
      · skip
        obtain ⟨q81, e81⟩ := ex_eq (Z1 / q68)
        have d81 := div_mul Y0 e81 c69
        have u82 : x12 = (q81 * ((((x0 - x3) * ((q63 * (x11 - x5)) - (q64 * (x10 - x4)))) + ((x1 - x4) * ((q64 * (x9 - x3)) - (q62 * (x11 - x5))))) + ((x2 - x5) * ((q62 * (x10 - x4)) - (q63 * (x9 - x3)))))) := (TriAims_al83 Y0 Y1 e51 e57 e63 e52 e58 e64 e50 e56 e62 e68 d81 c69)
        have u84 : x13 = (q81 * (((q62 * (((x1 - x4) * (x8 - x5)) - ((x2 - x5) * (x7 - x4)))) + (q63 * (((x2 - x5) * (x6 - x3)) - ((x0 - x3) * (x8 - x5))))) + (q64 * (((x0 - x3) * (x7 - x4)) - ((x1 - x4) * (x6 - x3)))))) := (TriAims_al85 Y0 Y1 e51 e57 e63 e52 e58 e64 e50 e56 e62 e68 d81 c69)
        refine call_step (n_tri_Hit_2 (k0 := q68) (k1 := q81) (k2 := x12) (k3 := x13) Y0 Y1 (h0.mono (by decide)) (h1.mono (by decide)) (h2.mono (by decide)) (m65.mono (by decide)) (m66.mono (by decide)) (m67.mono (by decide)) (h3.mono (by decide)) (h4.mono (by decide)) (h5.mono (by decide)) (h6.mono (by decide)) (h7.mono (by decide)) (h8.mono (by decide)) (h9.mono (by decide)) (h10.mono (by decide)) (h11.mono (by decide)) e68 e81 u82 u84 c69 c1 c49) rfl ?_
        simp only [fa_agg, fa_one, fa_nil, List.cons_append, List.nil_append, List.append_nil]
        refine call_step n_penumbralaw08_fixed rfl ?_
        simp only [fa_agg, fa_one, fa_nil, List.cons_append, List.nil_append, List.append_nil]
        refine primS (.bool false) rfl ?_
        refine itF rfl ?_
        refine itF rfl ?_
        obtain ⟨q86, e86⟩ := ex_eq (((x7 - x4) * (x11 - x5)) - ((x8 - x5) * (x10 - x4)))
        obtain ⟨q87, e87⟩ := ex_eq (((x8 - x5) * (x9 - x3)) - ((x6 - x3) * (x11 - x5)))
        obtain ⟨q88, e88⟩ := ex_eq (((x6 - x3) * (x10 - x4)) - ((x7 - x4) * (x9 - x3)))
        refine call_step (n_tri_Normal_0 (k0 := q86) (k1 := q87) (k2 := q88) (h3.mono (by decide)) (h4.mono (by decide)) (h5.mono (by decide)) (h6.mono (by decide)) (h7.mono (by decide)) (h8.mono (by decide)) (h9.mono (by decide)) (h10.mono (by decide)) (h11.mono (by decide)) e86 e87 e88) rfl ?_
        simp only [fa_agg, fa_one, fa_nil, List.cons_append, List.nil_append, List.append_nil]
        refine call_step (n_vec_Sub_0 (k0 := q56) (k1 := q57) (k2 := q58) (m53.mono (by decide)) (m54.mono (by decide)) (m55.mono (by decide)) (h0.mono (by decide)) (h1.mono (by decide)) (h2.mono (by decide)) e56 e57 e58) rfl ?_
        simp only [fa_agg, fa_one, fa_nil, List.cons_append, List.nil_append, List.append_nil]
        have m89 : Num 8388613 (cr q86) q86 := Num.eqn e86 (Sm.sub (Sm.mul (Sm.sub h7.sm h4.sm) (Sm.sub h11.sm h5.sm)) (Sm.mul (Sm.sub h8.sm h5.sm) (Sm.sub h10.sm h4.sm)))
        have m90 : Num 8388613 (cr q87) q87 := Num.eqn e87 (Sm.sub (Sm.mul (Sm.sub h8.sm h5.sm) (Sm.sub h9.sm h3.sm)) (Sm.mul (Sm.sub h6.sm h3.sm) (Sm.sub h11.sm h5.sm)))
        have m91 : Num 8388613 (cr q88) q88 := Num.eqn e88 (Sm.sub (Sm.mul (Sm.sub h6.sm h3.sm) (Sm.sub h10.sm h4.sm)) (Sm.mul (Sm.sub h7.sm h4.sm) (Sm.sub h9.sm h3.sm)))
        obtain ⟨q92, e92⟩ := ex_eq (((q86 * q56) + (q87 * q57)) + (q88 * q58))
        refine call_step (n_vec_Dot_0 (k0 := q92) (m89.mono (by decide)) (m90.mono (by decide)) (m91.mono (by decide)) (m59.mono (by decide)) (m60.mono (by decide)) (m61.mono (by decide)) e92) rfl ?_
        simp only [fa_agg, fa_one, fa_nil, List.cons_append, List.nil_append, List.append_nil]
        have m93 : Num 50331680 (cr q92) q92 := Num.eqn e92 (Sm.add (Sm.add (Sm.mul m89.sm m59.sm) (Sm.mul m90.sm m60.sm)) (Sm.mul m91.sm m61.sm))
        refine call_step (n_rat_Sign (m93.mono (by decide))) rfl ?_
        simp only [fa_agg, fa_one, fa_nil, List.cons_append, List.nil_append, List.append_nil]
        have c94 : ¬(q92 = Z0) := (TriAims_al95 Y0 e86 e50 e56 e87 e51 e57 e88 e52 e58 e92 e63 e64 e62 e68 c1 c49 c69)
        refine primS (.bool true) (cs_neq_t (fun z => c94 ((sg_eq Y0).1 z))) ?_
        refine primS (.bool false) rfl ?_
        refine itF rfl ?_
        refine call_step (n_rat_Sign (h14.mono (by decide))) rfl ?_
        simp only [fa_agg, fa_one, fa_nil, List.cons_append, List.nil_append, List.append_nil]
        by_cases c96 : Z0 < x14
        · skip
          refine primS (.bool false) (cs_leq_f ((sg_gt Y0).2 c96)) ?_
          refine itF rfl ?_
          have m97 : Num 1 (cr Z1) Z1 := Num.c Y1 (by decide +kernel) (by decide +kernel)
          obtain ⟨q98, e98⟩ := ex_eq (Z1 / x14)
          have d98 := div_mul Y0 e98 (fun z => Rat.ne_of_lt c96 z.symm)
          refine call_step (n_rat_Div_f (k0 := q98) Y0 (m97.mono (by decide)) (h14.mono (by decide)) e98 (fun z => Rat.ne_of_lt c96 z.symm)) rfl ?_
          simp only [fa_agg, fa_one, fa_nil, List.cons_append, List.nil_append, List.append_nil]
          refine primS (.bool true) rfl ?_
          refine itT rfl ?_
          refine primS (.bool true) rfl ?_
          refine itT rfl ?_
          exact ret_step rfl
        · skip
          refine primS (.bool true) (cs_leq_t (fun z => c96 ((sg_gt Y0).1 z))) ?_
          refine itT rfl ?_
          refine primS (.bool true) rfl ?_
          exact ret_step rfl
    · skip
      refine primS (.bool true) (cs_geq_t (fun z => c49 ((sg_lt Y0).1 z))) ?_
      refine itT rfl ?_
      refine primS (rl [r12, r13]) rfl ?_
      obtain ⟨q100, e100⟩ := ex_eq (x12 + x13)
      refine call_step (n_rat_Sum_2 (k0 := q100) (h12.mono (by decide)) (h13.mono (by decide)) e100) rfl ?_
      simp only [fa_agg, fa_one, fa_nil, List.cons_append, List.nil_append, List.append_nil]
      have m101 : Num 2097153 (cr q100) q100 := Num.eqn e100 (Sm.add h12.sm h13.sm)
      have m102 : Num 1 (cr Z1) Z1 := Num.c Y1 (by decide +kernel) (by decide +kernel)
      refine call_step (n_rat_Cmp (m101.mono (by decide)) (m102.mono (by decide))) rfl ?_
      simp only [fa_agg, fa_one, fa_nil, List.cons_append, List.nil_append, List.append_nil]
      by_cases c103 : Z1 < q100
      · skip
        refine primS (.bool false) (cs_leq_f (cq_gt.2 c103)) ?_
        obtain ⟨q104, e104⟩ := ex_eq ((x3 + (x12 * (x6 - x3))) + (x13 * (x9 - x3)))
        obtain ⟨q105, e105⟩ := ex_eq ((x4 + (x12 * (x7 - x4))) + (x13 * (x10 - x4)))
        obtain ⟨q106, e106⟩ := ex_eq ((x5 + (x12 * (x8 - x5))) + (x13 * (x11 - x5)))
        refine call_step (n_tri_Point_0 (k0 := q104) (k1 := q105) (k2 := q106) (h3.mono (by decide)) (h4.mono (by decide)) (h5.mono (by decide)) (h6.mono (by decide)) (h7.mono (by decide)) (h8.mono (by decide)) (h9.mono (by decide)) (h10.mono (by decide)) (h11.mono (by decide)) (h12.mono (by decide)) (h13.mono (by decide)) e104 e105 e106) rfl ?_
        simp only [fa_agg, fa_one, fa_nil, List.cons_append, List.nil_append, List.append_nil]
        have m107 : Num 7340036 (cr q104) q104 := Num.eqn e104 (Sm.add (Sm.add h3.sm (Sm.mul h12.sm (Sm.sub h6.sm h3.sm))) (Sm.mul h13.sm (Sm.sub h9.sm h3.sm)))
        have m108 : Num 7340036 (cr q105) q105 := Num.eqn e105 (Sm.add (Sm.add h4.sm (Sm.mul h12.sm (Sm.sub h7.sm h4.sm))) (Sm.mul h13.sm (Sm.sub h10.sm h4.sm)))
        have m109 : Num 7340036 (cr q106) q106 := Num.eqn e106 (Sm.add (Sm.add h5.sm (Sm.mul h12.sm (Sm.sub h8.sm h5.sm))) (Sm.mul h13.sm (Sm.sub h11.sm h5.sm)))
        obtain ⟨q110, e110⟩ := ex_eq (q104 - x0)
        obtain ⟨q111, e111⟩ := ex_eq (q105 - x1)
        obtain ⟨q112, e112⟩ := ex_eq (q106 - x2)
        refine call_step (n_vec_Sub_0 (k0 := q110) (k1 := q111) (k2 := q112) (m107.mono (by decide)) (m108.mono (by decide)) (m109.mono (by decide)) (h0.mono (by decide)) (h1.mono (by decide)) (h2.mono (by decide)) e110 e111 e112) rfl ?_
        simp only [fa_agg, fa_one, fa_nil, List.cons_append, List.nil_append, List.append_nil]
        have m113 : Num 8388613 (cr q110) q110 := Num.eqn e110 (Sm.sub m107.sm h0.sm)
        have m114 : Num 8388613 (cr q111) q111 := Num.eqn e111 (Sm.sub m108.sm h1.sm)
        have m115 : Num 8388613 (cr q112) q112 := Num.eqn e112 (Sm.sub m109.sm h2.sm)
        obtain ⟨q116, e116⟩ := ex_eq (x14 * q110)
        obtain ⟨q117, e117⟩ := ex_eq (x14 * q111)
        obtain ⟨q118, e118⟩ := ex_eq (x14 * q112)
        refine call_step (n_vec_Scale_0 (k0 := q116) (k1 := q117) (k2 := q118) (h14.mono (by decide)) (m113.mono (by decide)) (m114.mono (by decide)) (m115.mono (by decide)) e116 e117 e118) rfl ?_
        simp only [fa_agg, fa_one, fa_nil, List.cons_append, List.nil_append, List.append_nil]
        have m119 : Num 9437189 (cr q116) q116 := Num.eqn e116 (Sm.mul h14.sm m113.sm)
        have m120 : Num 9437189 (cr q117) q117 := Num.eqn e117 (Sm.mul h14.sm m114.sm)
        have m121 : Num 9437189 (cr q118) q118 := Num.eqn e118 (Sm.mul h14.sm m115.sm)
        obtain ⟨q122, e122⟩ := ex_eq ((((x6 - x3) * ((q117 * (x11 - x5)) - (q118 * (x10 - x4)))) + ((x7 - x4) * ((q118 * (x9 - x3)) - (q116 * (x11 - x5))))) + ((x8 - x5) * ((q116 * (x10 - x4)) - (q117 * (x9 - x3)))))
        by_cases c123 : q122 = Z0
        · skip
          refine call_step (n_tri_Hit_0 (k0 := q122) Y0 Y1 (h0.mono (by decide)) (h1.mono (by decide)) (h2.mono (by decide)) (m119.mono (by decide)) (m120.mono (by decide)) (m121.mono (by decide)) (h3.mono (by decide)) (h4.mono (by decide)) (h5.mono (by decide)) (h6.mono (by decide)) (h7.mono (by decide)) (h8.mono (by decide)) (h9.mono (by decide)) (h10.mono (by decide)) (h11.mono (by decide)) e122 c123) rfl ?_
          simp only [fa_agg, fa_one, fa_nil, List.cons_append, List.nil_append, List.append_nil]
          refine call_step n_penumbralaw08_fixed rfl ?_
          simp only [fa_agg, fa_one, fa_nil, List.cons_append, List.nil_append, List.append_nil]
          refine primS (.bool false) rfl ?_
          refine itF rfl ?_
          refine itF rfl ?_
          obtain ⟨q124, e124⟩ := ex_eq (((x7 - x4) * (x11 - x5)) - ((x8 - x5) * (x10 - x4)))
          obtain ⟨q125, e125⟩ := ex_eq (((x8 - x5) * (x9 - x3)) - ((x6 - x3) * (x11 - x5)))
          obtain ⟨q126, e126⟩ := ex_eq (((x6 - x3) * (x10 - x4)) - ((x7 - x4) * (x9 - x3)))
          refine call_step (n_tri_Normal_0 (k0 := q124) (k1 := q125) (k2 := q126) (h3.mono (by decide)) (h4.mono (by decide)) (h5.mono (by decide)) (h6.mono (by decide)) (h7.mono (by decide)) (h8.mono (by decide)) (h9.mono (by decide)) (h10.mono (by decide)) (h11.mono (by decide)) e124 e125 e126) rfl ?_
          simp only [fa_agg, fa_one, fa_nil, List.cons_append, List.nil_append, List.append_nil]
          refine call_step (n_vec_Sub_0 (k0 := q110) (k1 := q111) (k2 := q112) (m107.mono (by decide)) (m108.mono (by decide)) (m109.mono (by decide)) (h0.mono (by decide)) (h1.mono (by decide)) (h2.mono (by decide)) e110 e111 e112) rfl ?_
          simp only [fa_agg, fa_one, fa_nil, List.cons_append, List.nil_append, List.append_nil]
          have m127 : Num 8388613 (cr q124) q124 := Num.eqn e124 (Sm.sub (Sm.mul (Sm.sub h7.sm h4.sm) (Sm.sub h11.sm h5.sm)) (Sm.mul (Sm.sub h8.sm h5.sm) (Sm.sub h10.sm h4.sm)))
          have m128 : Num 8388613 (cr q125) q125 := Num.eqn e125 (Sm.sub (Sm.mul (Sm.sub h8.sm h5.sm) (Sm.sub h9.sm h3.sm)) (Sm.mul (Sm.sub h6.sm h3.sm) (Sm.sub h11.sm h5.sm)))
          have m129 : Num 8388613 (cr q126) q126 := Num.eqn e126 (Sm.sub (Sm.mul (Sm.sub h6.sm h3.sm) (Sm.sub h10.sm h4.sm)) (Sm.mul (Sm.sub h7.sm h4.sm) (Sm.sub h9.sm h3.sm)))
          obtain ⟨q130, e130⟩ := ex_eq (((q124 * q110) + (q125 * q111)) + (q126 * q112))
          refine call_step (n_vec_Dot_0 (k0 := q130) (m127.mono (by decide)) (m128.mono (by decide)) (m129.mono (by decide)) (m113.mono (by decide)) (m114.mono (by decide)) (m115.mono (by decide)) e130) rfl ?_
          simp only [fa_agg, fa_one, fa_nil, List.cons_append, List.nil_append, List.append_nil]
          have m131 : Num 50331680 (cr q130) q130 := Num.eqn e130 (Sm.add (Sm.add (Sm.mul m127.sm m113.sm) (Sm.mul m128.sm m114.sm)) (Sm.mul m129.sm m115.sm))
          refine call_step (n_rat_Sign (m131.mono (by decide))) rfl ?_
          simp only [fa_agg, fa_one, fa_nil, List.cons_append, List.nil_append, List.append_nil]
          by_cases c132 : q130 = Z0
          · skip
            refine primS (.bool false) (cs_neq_f ((sg_eq Y0).2 c132)) ?_
            refine primS (.bool true) rfl ?_
            refine itT rfl ?_
            refine primS (.bool true) rfl ?_
            exact ret_step rfl
          · skip
            refine primS (.bool true) (cs_neq_t (fun z => c132 ((sg_eq Y0).1 z))) ?_
            refine primS (.bool false) rfl ?_
            refine itF rfl ?_
            refine call_step (n_rat_Sign (h14.mono (by decide))) rfl ?_
            simp only [fa_agg, fa_one, fa_nil, List.cons_append, List.nil_append, List.append_nil]
            have c133 : ¬(Z0 < x14) := (TriAims_al134 Y0 Y1 e100 e105 e111 e117 e106 e112 e118 e104 e110 e116 e122 e124 e125 e126 e130 c1 c49 c103 c123 c132)
            refine primS (.bool true) (cs_leq_t (fun z => c133 ((sg_gt Y0).1 z))) ?_
            refine itT rfl ?_
            refine primS (.bool true) rfl ?_
            exact ret_step rfl
        · skip
          obtain ⟨q135, e135⟩ := ex_eq (Z1 / q122)
          have d135 := div_mul Y0 e135 c123
          have u136 : x12 = (q135 * ((((x0 - x3) * ((q117 * (x11 - x5)) - (q118 * (x10 - x4)))) + ((x1 - x4) * ((q118 * (x9 - x3)) - (q116 * (x11 - x5))))) + ((x2 - x5) * ((q116 * (x10 - x4)) - (q117 * (x9 - x3)))))) := (TriAims_al137 Y0 Y1 e105 e111 e117 e106 e112 e118 e104 e110 e116 e122 d135 c123)
          have u138 : x13 = (q135 * (((q116 * (((x1 - x4) * (x8 - x5)) - ((x2 - x5) * (x7 - x4)))) + (q117 * (((x2 - x5) * (x6 - x3)) - ((x0 - x3) * (x8 - x5))))) + (q118 * (((x0 - x3) * (x7 - x4)) - ((x1 - x4) * (x6 - x3)))))) := (TriAims_al139 Y0 Y1 e105 e111 e117 e106 e112 e118 e104 e110 e116 e122 d135 c123)
          obtain ⟨q140, e140⟩ := ex_eq (q135 * ((((x9 - x3) * (((x1 - x4) * (x8 - x5)) - ((x2 - x5) * (x7 - x4)))) + ((x10 - x4) * (((x2 - x5) * (x6 - x3)) - ((x0 - x3) * (x8 - x5))))) + ((x11 - x5) * (((x0 - x3) * (x7 - x4)) - ((x1 - x4) * (x6 - x3))))))
          by_cases c141 : Z0 < q140
          · skip
            refine call_step (n_tri_Hit_3 (k0 := q122) (k1 := q135) (k2 := x12) (k3 := x13) (k4 := q140) (k5 := q100) Y0 Y1 (h0.mono (by decide)) (h1.mono (by decide)) (h2.mono (by decide)) (m119.mono (by decide)) (m120.mono (by decide)) (m121.mono (by decide)) (h3.mono (by decide)) (h4.mono (by decide)) (h5.mono (by decide)) (h6.mono (by decide)) (h7.mono (by decide)) (h8.mono (by decide)) (h9.mono (by decide)) (h10.mono (by decide)) (h11.mono (by decide)) e122 e135 u136 u138 e140 e100 c123 c1 c49 c141 c103) rfl ?_
            simp only [fa_agg, fa_one, fa_nil, List.cons_append, List.nil_append, List.append_nil]
            refine call_step n_penumbralaw08_fixed rfl ?_
            simp only [fa_agg, fa_one, fa_nil, List.cons_append, List.nil_append, List.append_nil]
            refine primS (.bool false) rfl ?_
            refine itF rfl ?_
            refine itF rfl ?_
            obtain ⟨q142, e142⟩ := ex_eq (((x7 - x4) * (x11 - x5)) - ((x8 - x5) * (x10 - x4)))
            obtain ⟨q143, e143⟩ := ex_eq (((x8 - x5) * (x9 - x3)) - ((x6 - x3) * (x11 - x5)))
            obtain ⟨q144, e144⟩ := ex_eq (((x6 - x3) * (x10 - x4)) - ((x7 - x4) * (x9 - x3)))
            refine call_step (n_tri_Normal_0 (k0 := q142) (k1 := q143) (k2 := q144) (h3.mono (by decide)) (h4.mono (by decide)) (h5.mono (by decide)) (h6.mono (by decide)) (h7.mono (by decide)) (h8.mono (by decide)) (h9.mono (by decide)) (h10.mono (by decide)) (h11.mono (by decide)) e142 e143 e144) rfl ?_
            simp only [fa_agg, fa_one, fa_nil, List.cons_append, List.nil_append, List.append_nil]
            refine call_step (n_vec_Sub_0 (k0 := q110) (k1 := q111) (k2 := q112) (m107.mono (by decide)) (m108.mono (by decide)) (m109.mono (by decide)) (h0.mono (by decide)) (h1.mono (by decide)) (h2.mono (by decide)) e110 e111 e112) rfl ?_
            simp only [fa_agg, fa_one, fa_nil, List.cons_append, List.nil_append, List.append_nil]
            have m145 : Num 8388613 (cr q142) q142 := Num.eqn e142 (Sm.sub (Sm.mul (Sm.sub h7.sm h4.sm) (Sm.sub h11.sm h5.sm)) (Sm.mul (Sm.sub h8.sm h5.sm) (Sm.sub h10.sm h4.sm)))
            have m146 : Num 8388613 (cr q143) q143 := Num.eqn e143 (Sm.sub (Sm.mul (Sm.sub h8.sm h5.sm) (Sm.sub h9.sm h3.sm)) (Sm.mul (Sm.sub h6.sm h3.sm) (Sm.sub h11.sm h5.sm)))
            have m147 : Num 8388613 (cr q144) q144 := Num.eqn e144 (Sm.sub (Sm.mul (Sm.sub h6.sm h3.sm) (Sm.sub h10.sm h4.sm)) (Sm.mul (Sm.sub h7.sm h4.sm) (Sm.sub h9.sm h3.sm)))
            obtain ⟨q148, e148⟩ := ex_eq (((q142 * q110) + (q143 * q111)) + (q144 * q112))
            refine call_step (n_vec_Dot_0 (k0 := q148) (m145.mono (by decide)) (m146.mono (by decide)) (m147.mono (by decide)) (m113.mono (by decide)) (m114.mono (by decide)) (m115.mono (by decide)) e148) rfl ?_
            simp only [fa_agg, fa_one, fa_nil, List.cons_append, List.nil_append, List.append_nil]
            have m149 : Num 50331680 (cr q148) q148 := Num.eqn e148 (Sm.add (Sm.add (Sm.mul m145.sm m113.sm) (Sm.mul m146.sm m114.sm)) (Sm.mul m147.sm m115.sm))
            refine call_step (n_rat_Sign (m149.mono (by decide))) rfl ?_
            simp only [fa_agg, fa_one, fa_nil, List.cons_append, List.nil_append, List.append_nil]
            have c150 : ¬(q148 = Z0) := (TriAims_al151 Y0 Y1 e142 e104 e110 e143 e105 e111 e144 e106 e112 e148 e100 e117 e118 e116 e122 d135 e140 c1 c49 c103 c123 c141)
            refine primS (.bool true) (cs_neq_t (fun z => c150 ((sg_eq Y0).1 z))) ?_
            refine primS (.bool false) rfl ?_
            refine itF rfl ?_
            refine call_step (n_rat_Sign (h14.mono (by decide))) rfl ?_
            simp only [fa_agg, fa_one, fa_nil, List.cons_append, List.nil_append, List.append_nil]
            have u153 : x14 * q140 = Z1 := (TriAims_al154 Y0 Y1 e105 e111 e117 e106 e112 e118 e104 e110 e116 e122 d135 e140 e100 e142 e143 e144 e148 c1 c49 c103 c123 c141 c150)
            have c152 : (Z0 < x14) := (rcp_g Y0 (show Z0 < Z1 by rw [Y1, Y0] <;> decide +kernel) u153 c141)
            refine primS (.bool false) (cs_leq_f ((sg_gt Y0).2 c152)) ?_
            refine itF rfl ?_
            have u155 : q140 = (Z1 / x14) := (TriAims_al156 Y0 Y1 e105 e111 e117 e106 e112 e118 e104 e110 e116 e122 d135 e140 c123)
            refine call_step (n_rat_Div_f (k0 := q140) Y0 (m102.mono (by decide)) (h14.mono (by decide)) u155 (fun z => Rat.ne_of_lt c152 z.symm)) rfl ?_
            simp only [fa_agg, fa_one, fa_nil, List.cons_append, List.nil_append, List.append_nil]
            refine primS (.bool true) rfl ?_
            refine itT rfl ?_
            refine primS (.bool true) rfl ?_
            refine itT rfl ?_
            exact ret_step rfl
          · skip
            refine call_step (n_tri_Hit_5 (k0 := q122) (k1 := q135) (k2 := x12) (k3 := x13) (k4 := q140) Y0 Y1 (h0.mono (by decide)) (h1.mono (by decide)) (h2.mono (by decide)) (m119.mono (by decide)) (m120.mono (by decide)) (m121.mono (by decide)) (h3.mono (by decide)) (h4.mono (by decide)) (h5.mono (by decide)) (h6.mono (by decide)) (h7.mono (by decide)) (h8.mono (by decide)) (h9.mono (by decide)) (h10.mono (by decide)) (h11.mono (by decide)) e122 e135 u136 u138 e140 c123 c1 c49 c141) rfl ?_
            simp only [fa_agg, fa_one, fa_nil, List.cons_append, List.nil_append, List.append_nil]
            refine call_step n_penumbralaw08_fixed rfl ?_
            simp only [fa_agg, fa_one, fa_nil, List.cons_append, List.nil_append, List.append_nil]
            refine primS (.bool false) rfl ?_
            refine itF rfl ?_
            refine itF rfl ?_
            obtain ⟨q157, e157⟩ := ex_eq (((x7 - x4) * (x11 - x5)) - ((x8 - x5) * (x10 - x4)))
            obtain ⟨q158, e158⟩ := ex_eq (((x8 - x5) * (x9 - x3)) - ((x6 - x3) * (x11 - x5)))
            obtain ⟨q159, e159⟩ := ex_eq (((x6 - x3) * (x10 - x4)) - ((x7 - x4) * (x9 - x3)))
            refine call_step (n_tri_Normal_0 (k0 := q157) (k1 := q158) (k2 := q159) (h3.mono (by decide)) (h4.mono (by decide)) (h5.mono (by decide)) (h6.mono (by decide)) (h7.mono (by decide)) (h8.mono (by decide)) (h9.mono (by decide)) (h10.mono (by decide)) (h11.mono (by decide)) e157 e158 e159) rfl ?_
            simp only [fa_agg, fa_one, fa_nil, List.cons_append, List.nil_append, List.append_nil]
            refine call_step (n_vec_Sub_0 (k0 := q110) (k1 := q111) (k2 := q112) (m107.mono (by decide)) (m108.mono (by decide)) (m109.mono (by decide)) (h0.mono (by decide)) (h1.mono (by decide)) (h2.mono (by decide)) e110 e111 e112) rfl ?_
            simp only [fa_agg, fa_one, fa_nil, List.cons_append, List.nil_append, List.append_nil]
            have m160 : Num 8388613 (cr q157) q157 := Num.eqn e157 (Sm.sub (Sm.mul (Sm.sub h7.sm h4.sm) (Sm.sub h11.sm h5.sm)) (Sm.mul (Sm.sub h8.sm h5.sm) (Sm.sub h10.sm h4.sm)))
            have m161 : Num 8388613 (cr q158) q158 := Num.eqn e158 (Sm.sub (Sm.mul (Sm.sub h8.sm h5.sm) (Sm.sub h9.sm h3.sm)) (Sm.mul (Sm.sub h6.sm h3.sm) (Sm.sub h11.sm h5.sm)))
            have m162 : Num 8388613 (cr q159) q159 := Num.eqn e159 (Sm.sub (Sm.mul (Sm.sub h6.sm h3.sm) (Sm.sub h10.sm h4.sm)) (Sm.mul (Sm.sub h7.sm h4.sm) (Sm.sub h9.sm h3.sm)))
            obtain ⟨q163, e163⟩ := ex_eq (((q157 * q110) + (q158 * q111)) + (q159 * q112))
            refine call_step (n_vec_Dot_0 (k0 := q163) (m160.mono (by decide)) (m161.mono (by decide)) (m162.mono (by decide)) (m113.mono (by decide)) (m114.mono (by decide)) (m115.mono (by decide)) e163) rfl ?_
            simp only [fa_agg, fa_one, fa_nil, List.cons_append, List.nil_append, List.append_nil]
            have m164 : Num 50331680 (cr q163) q163 := Num.eqn e163 (Sm.add (Sm.add (Sm.mul m160.sm m113.sm) (Sm.mul m161.sm m114.sm)) (Sm.mul m162.sm m115.sm))
            refine call_step (n_rat_Sign (m164.mono (by decide))) rfl ?_
            simp only [fa_agg, fa_one, fa_nil, List.cons_append, List.nil_append, List.append_nil]
            have c165 : ¬(q163 = Z0) := (TriAims_al166 Y0 Y1 e157 e104 e110 e158 e105 e111 e159 e106 e112 e163 e100 e117 e118 e116 e122 d135 e140 c1 c49 c103 c123 c141)
            refine primS (.bool true) (cs_neq_t (fun z => c165 ((sg_eq Y0).1 z))) ?_
            refine primS (.bool false) rfl ?_
            refine itF rfl ?_
            refine call_step (n_rat_Sign (h14.mono (by decide))) rfl ?_
            simp only [fa_agg, fa_one, fa_nil, List.cons_append, List.nil_append, List.append_nil]
            have u168 : x14 * q140 = Z1 := (TriAims_al169 Y0 Y1 e105 e111 e117 e106 e112 e118 e104 e110 e116 e122 d135 e140 e100 e157 e158 e159 e163 c1 c49 c103 c123 c141 c165)
            have c167 : ¬(Z0 < x14) := (rcp_gn Y0 (show Z0 < Z1 by rw [Y1, Y0] <;> decide +kernel) u168 c141)
            refine primS (.bool true) (cs_leq_t (fun z => c167 ((sg_gt Y0).1 z))) ?_
            refine itT rfl ?_
            refine primS (.bool true) rfl ?_
            exact ret_step rfl
      · skip
        refine primS (.bool true) (cs_leq_t (fun z => c103 (cq_gt.1 z))) ?_
        obtain ⟨q170, e170⟩ := ex_eq ((x3 + (x12 * (x6 - x3))) + (x13 * (x9 - x3)))
        obtain ⟨q171, e171⟩ := ex_eq ((x4 + (x12 * (x7 - x4))) + (x13 * (x10 - x4)))
        obtain ⟨q172, e172⟩ := ex_eq ((x5 + (x12 * (x8 - x5))) + (x13 * (x11 - x5)))
        refine call_step (n_tri_Point_0 (k0 := q170) (k1 := q171) (k2 := q172) (h3.mono (by decide)) (h4.mono (by decide)) (h5.mono (by decide)) (h6.mono (by decide)) (h7.mono (by decide)) (h8.mono (by decide)) (h9.mono (by decide)) (h10.mono (by decide)) (h11.mono (by decide)) (h12.mono (by decide)) (h13.mono (by decide)) e170 e171 e172) rfl ?_
        simp only [fa_agg, fa_one, fa_nil, List.cons_append, List.nil_append, List.append_nil]
        have m173 : Num 7340036 (cr q170) q170 := Num.eqn e170 (Sm.add (Sm.add h3.sm (Sm.mul h12.sm (Sm.sub h6.sm h3.sm))) (Sm.mul h13.sm (Sm.sub h9.sm h3.sm)))
        have m174 : Num 7340036 (cr q171) q171 := Num.eqn e171 (Sm.add (Sm.add h4.sm (Sm.mul h12.sm (Sm.sub h7.sm h4.sm))) (Sm.mul h13.sm (Sm.sub h10.sm h4.sm)))
        have m175 : Num 7340036 (cr q172) q172 := Num.eqn e172 (Sm.add (Sm.add h5.sm (Sm.mul h12.sm (Sm.sub h8.sm h5.sm))) (Sm.mul h13.sm (Sm.sub h11.sm h5.sm)))
        obtain ⟨q176, e176⟩ := ex_eq (q170 - x0)
        obtain ⟨q177, e177⟩ := ex_eq (q171 - x1)
        obtain ⟨q178, e178⟩ := ex_eq (q172 - x2)
        refine call_step (n_vec_Sub_0 (k0 := q176) (k1 := q177) (k2 := q178) (m173.mono (by decide)) (m174.mono (by decide)) (m175.mono (by decide)) (h0.mono (by decide)) (h1.mono (by decide)) (h2.mono (by decide)) e176 e177 e178) rfl ?_
        simp only [fa_agg, fa_one, fa_nil, List.cons_append, List.nil_append, List.append_nil]
        have m179 : Num 8388613 (cr q176) q176 := Num.eqn e176 (Sm.sub m173.sm h0.sm)
        have m180 : Num 8388613 (cr q177) q177 := Num.eqn e177 (Sm.sub m174.sm h1.sm)
        have m181 : Num 8388613 (cr q178) q178 := Num.eqn e178 (Sm.sub m175.sm h2.sm)
        obtain ⟨q182, e182⟩ := ex_eq (x14 * q176)
        obtain ⟨q183, e183⟩ := ex_eq (x14 * q177)
        obtain ⟨q184, e184⟩ := ex_eq (x14 * q178)
        refine call_step (n_vec_Scale_0 (k0 := q182) (k1 := q183) (k2 := q184) (h14.mono (by decide)) (m179.mono (by decide)) (m180.mono (by decide)) (m181.mono (by decide)) e182 e183 e184) rfl ?_
        simp only [fa_agg, fa_one, fa_nil, List.cons_append, List.nil_append, List.append_nil]
        have m185 : Num 9437189 (cr q182) q182 := Num.eqn e182 (Sm.mul h14.sm m179.sm)
        have m186 : Num 9437189 (cr q183) q183 := Num.eqn e183 (Sm.mul h14.sm m180.sm)
        have m187 : Num 9437189 (cr q184) q184 := Num.eqn e184 (Sm.mul h14.sm m181.sm)
        obtain ⟨q188, e188⟩ := ex_eq ((((x6 - x3) * ((q183 * (x11 - x5)) - (q184 * (x10 - x4)))) + ((x7 - x4) * ((q184 * (x9 - x3)) - (q182 * (x11 - x5))))) + ((x8 - x5) * ((q182 * (x10 - x4)) - (q183 * (x9 - x3)))))
        by_cases c189 : q188 = Z0
        · skip
          refine call_step (n_tri_Hit_0 (k0 := q188) Y0 Y1 (h0.mono (by decide)) (h1.mono (by decide)) (h2.mono (by decide)) (m185.mono (by decide)) (m186.mono (by decide)) (m187.mono (by decide)) (h3.mono (by decide)) (h4.mono (by decide)) (h5.mono (by decide)) (h6.mono (by decide)) (h7.mono (by decide)) (h8.mono (by decide)) (h9.mono (by decide)) (h10.mono (by decide)) (h11.mono (by decide)) e188 c189) rfl ?_
          simp only [fa_agg, fa_one, fa_nil, List.cons_append, List.nil_append, List.append_nil]
          refine call_step n_penumbralaw08_fixed rfl ?_
          simp only [fa_agg, fa_one, fa_nil, List.cons_append, List.nil_append, List.append_nil]
          refine primS (.bool false) rfl ?_
          refine itF rfl ?_
          refine itF rfl ?_
          obtain ⟨q190, e190⟩ := ex_eq (((x7 - x4) * (x11 - x5)) - ((x8 - x5) * (x10 - x4)))
          obtain ⟨q191, e191⟩ := ex_eq (((x8 - x5) * (x9 - x3)) - ((x6 - x3) * (x11 - x5)))
          obtain ⟨q192, e192⟩ := ex_eq (((x6 - x3) * (x10 - x4)) - ((x7 - x4) * (x9 - x3)))
          refine call_step (n_tri_Normal_0 (k0 := q190) (k1 := q191) (k2 := q192) (h3.mono (by decide)) (h4.mono (by decide)) (h5.mono (by decide)) (h6.mono (by decide)) (h7.mono (by decide)) (h8.mono (by decide)) (h9.mono (by decide)) (h10.mono (by decide)) (h11.mono (by decide)) e190 e191 e192) rfl ?_
          simp only [fa_agg, fa_one, fa_nil, List.cons_append, List.nil_append, List.append_nil]
          refine call_step (n_vec_Sub_0 (k0 := q176) (k1 := q177) (k2 := q178) (m173.mono (by decide)) (m174.mono (by decide)) (m175.mono (by decide)) (h0.mono (by decide)) (h1.mono (by decide)) (h2.mono (by decide)) e176 e177 e178) rfl ?_
          simp only [fa_agg, fa_one, fa_nil, List.cons_append, List.nil_append, List.append_nil]
          have m193 : Num 8388613 (cr q190) q190 := Num.eqn e190 (Sm.sub (Sm.mul (Sm.sub h7.sm h4.sm) (Sm.sub h11.sm h5.sm)) (Sm.mul (Sm.sub h8.sm h5.sm) (Sm.sub h10.sm h4.sm)))
          have m194 : Num 8388613 (cr q191) q191 := Num.eqn e191 (Sm.sub (Sm.mul (Sm.sub h8.sm h5.sm) (Sm.sub h9.sm h3.sm)) (Sm.mul (Sm.sub h6.sm h3.sm) (Sm.sub h11.sm h5.sm)))
          have m195 : Num 8388613 (cr q192) q192 := Num.eqn e192 (Sm.sub (Sm.mul (Sm.sub h6.sm h3.sm) (Sm.sub h10.sm h4.sm)) (Sm.mul (Sm.sub h7.sm h4.sm) (Sm.sub h9.sm h3.sm)))
          obtain ⟨q196, e196⟩ := ex_eq (((q190 * q176) + (q191 * q177)) + (q192 * q178))
          refine call_step (n_vec_Dot_0 (k0 := q196) (m193.mono (by decide)) (m194.mono (by decide)) (m195.mono (by decide)) (m179.mono (by decide)) (m180.mono (by decide)) (m181.mono (by decide)) e196) rfl ?_
          simp only [fa_agg, fa_one, fa_nil, List.cons_append, List.nil_append, List.append_nil]
          have m197 : Num 50331680 (cr q196) q196 := Num.eqn e196 (Sm.add (Sm.add (Sm.mul m193.sm m179.sm) (Sm.mul m194.sm m180.sm)) (Sm.mul m195.sm m181.sm))
          refine call_step (n_rat_Sign (m197.mono (by decide))) rfl ?_
          simp only [fa_agg, fa_one, fa_nil, List.cons_append, List.nil_append, List.append_nil]
          by_cases c198 : q196 = Z0
          · skip
            refine primS (.bool false) (cs_neq_f ((sg_eq Y0).2 c198)) ?_
            refine primS (.bool true) rfl ?_
            refine itT rfl ?_
            refine primS (.bool true) rfl ?_
            exact ret_step rfl
          · skip
            refine primS (.bool true) (cs_neq_t (fun z => c198 ((sg_eq Y0).1 z))) ?_
            refine primS (.bool false) rfl ?_
            refine itF rfl ?_
            refine call_step (n_rat_Sign (h14.mono (by decide))) rfl ?_
            simp only [fa_agg, fa_one, fa_nil, List.cons_append, List.nil_append, List.append_nil]
            have c199 : ¬(Z0 < x14) := (TriAims_al200 Y0 Y1 e100 e171 e177 e183 e172 e178 e184 e170 e176 e182 e188 e190 e191 e192 e196 c1 c49 c103 c189 c198)
            refine primS (.bool true) (cs_leq_t (fun z => c199 ((sg_gt Y0).1 z))) ?_
            refine itT rfl ?_
            refine primS (.bool true) rfl ?_
            exact ret_step rfl
        · skip
          obtain ⟨q201, e201⟩ := ex_eq (Z1 / q188)
          have d201 := div_mul Y0 e201 c189
          have u202 : x12 = (q201 * ((((x0 - x3) * ((q183 * (x11 - x5)) - (q184 * (x10 - x4)))) + ((x1 - x4) * ((q184 * (x9 - x3)) - (q182 * (x11 - x5))))) + ((x2 - x5) * ((q182 * (x10 - x4)) - (q183 * (x9 - x3)))))) := (TriAims_al203 Y0 Y1 e171 e177 e183 e172 e178 e184 e170 e176 e182 e188 d201 c189)
          have u204 : x13 = (q201 * (((q182 * (((x1 - x4) * (x8 - x5)) - ((x2 - x5) * (x7 - x4)))) + (q183 * (((x2 - x5) * (x6 - x3)) - ((x0 - x3) * (x8 - x5))))) + (q184 * (((x0 - x3) * (x7 - x4)) - ((x1 - x4) * (x6 - x3)))))) := (TriAims_al205 Y0 Y1 e171 e177 e183 e172 e178 e184 e170 e176 e182 e188 d201 c189)
          obtain ⟨q206, e206⟩ := ex_eq (q201 * ((((x9 - x3) * (((x1 - x4) * (x8 - x5)) - ((x2 - x5) * (x7 - x4)))) + ((x10 - x4) * (((x2 - x5) * (x6 - x3)) - ((x0 - x3) * (x8 - x5))))) + ((x11 - x5) * (((x0 - x3) * (x7 - x4)) - ((x1 - x4) * (x6 - x3))))))
          by_cases c207 : Z0 < q206
          · skip
            refine call_step (n_tri_Hit_4 (k0 := q188) (k1 := q201) (k2 := x12) (k3 := x13) (k4 := q206) (k5 := q100) Y0 Y1 (h0.mono (by decide)) (h1.mono (by decide)) (h2.mono (by decide)) (m185.mono (by decide)) (m186.mono (by decide)) (m187.mono (by decide)) (h3.mono (by decide)) (h4.mono (by decide)) (h5.mono (by decide)) (h6.mono (by decide)) (h7.mono (by decide)) (h8.mono (by decide)) (h9.mono (by decide)) (h10.mono (by decide)) (h11.mono (by decide)) e188 e201 u202 u204 e206 e100 c189 c1 c49 c207 c103) rfl ?_
            simp only [fa_agg, fa_one, fa_nil, List.cons_append, List.nil_append, List.append_nil]
            refine call_step n_penumbralaw08_fixed rfl ?_
            simp only [fa_agg, fa_one, fa_nil, List.cons_append, List.nil_append, List.append_nil]
            refine primS (.bool false) rfl ?_
            refine itF rfl ?_
            refine itT rfl ?_
            have m210 : Num 75497516 (cr q188) q188 := Num.eqn e188 (Sm.add (Sm.add (Sm.mul (Sm.sub h6.sm h3.sm) (Sm.sub (Sm.mul m186.sm (Sm.sub h11.sm h5.sm)) (Sm.mul m187.sm (Sm.sub h10.sm h4.sm)))) (Sm.mul (Sm.sub h7.sm h4.sm) (Sm.sub (Sm.mul m187.sm (Sm.sub h9.sm h3.sm)) (Sm.mul m185.sm (Sm.sub h11.sm h5.sm))))) (Sm.mul (Sm.sub h8.sm h5.sm) (Sm.sub (Sm.mul m185.sm (Sm.sub h10.sm h4.sm)) (Sm.mul m186.sm (Sm.sub h9.sm h3.sm)))))
            have m209 : Num 75497517 (cr q201) q201 := Num.eqn e201 (Sm.div m102.sm m210.sm)
            have m208 : Num 106954817 (cr q206) q206 := Num.eqn e206 (Sm.mul m209.sm (Sm.add (Sm.add (Sm.mul (Sm.sub h9.sm h3.sm) (Sm.sub (Sm.mul (Sm.sub h1.sm h4.sm) (Sm.sub h8.sm h5.sm)) (Sm.mul (Sm.sub h2.sm h5.sm) (Sm.sub h7.sm h4.sm)))) (Sm.mul (Sm.sub h10.sm h4.sm) (Sm.sub (Sm.mul (Sm.sub h2.sm h5.sm) (Sm.sub h6.sm h3.sm)) (Sm.mul (Sm.sub h0.sm h3.sm) (Sm.sub h8.sm h5.sm))))) (Sm.mul (Sm.sub h11.sm h5.sm) (Sm.sub (Sm.mul (Sm.sub h0.sm h3.sm) (Sm.sub h7.sm h4.sm)) (Sm.mul (Sm.sub h1.sm h4.sm) (Sm.sub h6.sm h3.sm))))))
            have u211 : q170 = (x0 + (q206 * q182)) := (TriAims_al212 Y0 Y1 e170 e171 e177 e183 e172 e178 e184 e176 e182 e188 d201 e206 c189)
            have u213 : q171 = (x1 + (q206 * q183)) := (TriAims_al214 Y0 Y1 e171 e177 e183 e172 e178 e184 e170 e176 e182 e188 d201 e206 c189)
            have u215 : q172 = (x2 + (q206 * q184)) := (TriAims_al216 Y0 Y1 e172 e171 e177 e183 e178 e184 e170 e176 e182 e188 d201 e206 c189)
            refine call_step (n_tri_At_0 (k0 := q170) (k1 := q171) (k2 := q172) (h0.mono (by decide)) (h1.mono (by decide)) (h2.mono (by decide)) (m185.mono (by decide)) (m186.mono (by decide)) (m187.mono (by decide)) (m208.mono (by decide)) u211 u213 u215) rfl ?_
            simp only [fa_agg, fa_one, fa_nil, List.cons_append, List.nil_append, List.append_nil]
            have m217 : Num 1048576 (cr x12) x12 := Num.of h12.sm
            have m218 : Num 1048576 (cr x13) x13 := Num.of h13.sm
            refine call_step (n_tri_Point_0 (k0 := q170) (k1 := q171) (k2 := q172) (h3.mono (by decide)) (h4.mono (by decide)) (h5.mono (by decide)) (h6.mono (by decide)) (h7.mono (by decide)) (h8.mono (by decide)) (h9.mono (by decide)) (h10.mono (by decide)) (h11.mono (by decide)) (m217.mono (by decide)) (m218.mono (by decide)) e170 e171 e172) rfl ?_
            simp only [fa_agg, fa_one, fa_nil, List.cons_append, List.nil_append, List.append_nil]
            refine call_step (n_penumbraref05_Is_0 (m173.mono (by decide)) (m174.mono (by decide)) (m175.mono (by decide)) (m173.mono (by decide)) (m174.mono (by decide)) (m175.mono (by decide)) rfl rfl rfl) rfl ?_
            simp only [fa_agg, fa_one, fa_nil, List.cons_append, List.nil_append, List.append_nil]
            refine primS (.bool false) rfl ?_
            refine itF rfl ?_
            obtain ⟨q219, e219⟩ := ex_eq (((x7 - x4) * (x11 - x5)) - ((x8 - x5) * (x10 - x4)))
            obtain ⟨q220, e220⟩ := ex_eq (((x8 - x5) * (x9 - x3)) - ((x6 - x3) * (x11 - x5)))
            obtain ⟨q221, e221⟩ := ex_eq (((x6 - x3) * (x10 - x4)) - ((x7 - x4) * (x9 - x3)))
            refine call_step (n_tri_Normal_0 (k0 := q219) (k1 := q220) (k2 := q221) (h3.mono (by decide)) (h4.mono (by decide)) (h5.mono (by decide)) (h6.mono (by decide)) (h7.mono (by decide)) (h8.mono (by decide)) (h9.mono (by decide)) (h10.mono (by decide)) (h11.mono (by decide)) e219 e220 e221) rfl ?_
            simp only [fa_agg, fa_one, fa_nil, List.cons_append, List.nil_append, List.append_nil]
            refine call_step (n_vec_Sub_0 (k0 := q176) (k1 := q177) (k2 := q178) (m173.mono (by decide)) (m174.mono (by decide)) (m175.mono (by decide)) (h0.mono (by decide)) (h1.mono (by decide)) (h2.mono (by decide)) e176 e177 e178) rfl ?_
            simp only [fa_agg, fa_one, fa_nil, List.cons_append, List.nil_append, List.append_nil]
            have m222 : Num 8388613 (cr q219) q219 := Num.eqn e219 (Sm.sub (Sm.mul (Sm.sub h7.sm h4.sm) (Sm.sub h11.sm h5.sm)) (Sm.mul (Sm.sub h8.sm h5.sm) (Sm.sub h10.sm h4.sm)))
            have m223 : Num 8388613 (cr q220) q220 := Num.eqn e220 (Sm.sub (Sm.mul (Sm.sub h8.sm h5.sm) (Sm.sub h9.sm h3.sm)) (Sm.mul (Sm.sub h6.sm h3.sm) (Sm.sub h11.sm h5.sm)))
            have m224 : Num 8388613 (cr q221) q221 := Num.eqn e221 (Sm.sub (Sm.mul (Sm.sub h6.sm h3.sm) (Sm.sub h10.sm h4.sm)) (Sm.mul (Sm.sub h7.sm h4.sm) (Sm.sub h9.sm h3.sm)))
            obtain ⟨q225, e225⟩ := ex_eq (((q219 * q176) + (q220 * q177)) + (q221 * q178))
            refine call_step (n_vec_Dot_0 (k0 := q225) (m222.mono (by decide)) (m223.mono (by decide)) (m224.mono (by decide)) (m179.mono (by decide)) (m180.mono (by decide)) (m181.mono (by decide)) e225) rfl ?_
            simp only [fa_agg, fa_one, fa_nil, List.cons_append, List.nil_append, List.append_nil]
            have m226 : Num 50331680 (cr q225) q225 := Num.eqn e225 (Sm.add (Sm.add (Sm.mul m222.sm m179.sm) (Sm.mul m223.sm m180.sm)) (Sm.mul m224.sm m181.sm))
            refine call_step (n_rat_Sign (m226.mono (by decide))) rfl ?_
            simp only [fa_agg, fa_one, fa_nil, List.cons_append, List.nil_append, List.append_nil]
            have c227 : ¬(q225 = Z0) := (TriAims_al228 Y0 Y1 e219 e170 e176 e220 e171 e177 e221 e172 e178 e225 e100 e183 e184 e182 e188 d201 e206 c1 c49 c103 c189 c207)
            refine primS (.bool true) (cs_neq_t (fun z => c227 ((sg_eq Y0).1 z))) ?_
            refine primS (.bool false) rfl ?_
            refine itF rfl ?_
            refine call_step (n_rat_Sign (h14.mono (by decide))) rfl ?_
            simp only [fa_agg, fa_one, fa_nil, List.cons_append, List.nil_append, List.append_nil]
            have u230 : x14 * q206 = Z1 := (TriAims_al231 Y0 Y1 e171 e177 e183 e172 e178 e184 e170 e176 e182 e188 d201 e206 e100 e219 e220 e221 e225 c1 c49 c103 c189 c207 c227)
            have c229 : (Z0 < x14) := (rcp_g Y0 (show Z0 < Z1 by rw [Y1, Y0] <;> decide +kernel) u230 c207)
            refine primS (.bool false) (cs_leq_f ((sg_gt Y0).2 c229)) ?_
            refine itF rfl ?_
            have u232 : q206 = (Z1 / x14) := (TriAims_al233 Y0 Y1 e171 e177 e183 e172 e178 e184 e170 e176 e182 e188 d201 e206 c189)
            refine call_step (n_rat_Div_f (k0 := q206) Y0 (m102.mono (by decide)) (h14.mono (by decide)) u232 (fun z => Rat.ne_of_lt c229 z.symm)) rfl ?_
            simp only [fa_agg, fa_one, fa_nil, List.cons_append, List.nil_append, List.append_nil]
            refine primS (.bool true) rfl ?_
            refine itT rfl ?_
            refine primS (.bool false) rfl ?_
            refine itF rfl ?_
            refine call_step (n_rat_Read (h12.mono (by decide))) rfl ?_
            simp only [fa_agg, fa_one, fa_nil, List.cons_append, List.nil_append, List.append_nil]
            refine call_step (n_penumbraref03_Is_t (m217.mono (by decide)) (m217.mono (by decide)) rfl) rfl ?_
            simp only [fa_agg, fa_one, fa_nil, List.cons_append, List.nil_append, List.append_nil]
            refine itT rfl ?_
            refine call_step (n_rat_Read (h13.mono (by decide))) rfl ?_
            simp only [fa_agg, fa_one, fa_nil, List.cons_append, List.nil_append, List.append_nil]
            refine call_step (n_penumbraref03_Is_t (m218.mono (by decide)) (m218.mono (by decide)) rfl) rfl ?_
            simp only [fa_agg, fa_one, fa_nil, List.cons_append, List.nil_append, List.append_nil]
            refine itT rfl ?_
            refine call_step (n_penumbraref03_Is_t (m208.mono (by decide)) (m208.mono (by decide)) rfl) rfl ?_
            simp only [fa_agg, fa_one, fa_nil, List.cons_append, List.nil_append, List.append_nil]
            exact ret_step rfl
          · skip
            refine call_step (n_tri_Hit_5 (k0 := q188) (k1 := q201) (k2 := x12) (k3 := x13) (k4 := q206) Y0 Y1 (h0.mono (by decide)) (h1.mono (by decide)) (h2.mono (by decide)) (m185.mono (by decide)) (m186.mono (by decide)) (m187.mono (by decide)) (h3.mono (by decide)) (h4.mono (by decide)) (h5.mono (by decide)) (h6.mono (by decide)) (h7.mono (by decide)) (h8.mono (by decide)) (h9.mono (by decide)) (h10.mono (by decide)) (h11.mono (by decide)) e188 e201 u202 u204 e206 c189 c1 c49 c207) rfl ?_
            simp only [fa_agg, fa_one, fa_nil, List.cons_append, List.nil_append, List.append_nil]
            refine call_step n_penumbralaw08_fixed rfl ?_
            simp only [fa_agg, fa_one, fa_nil, List.cons_append, List.nil_append, List.append_nil]
            refine primS (.bool false) rfl ?_
            refine itF rfl ?_
            refine itF rfl ?_
            obtain ⟨q234, e234⟩ := ex_eq (((x7 - x4) * (x11 - x5)) - ((x8 - x5) * (x10 - x4)))
            obtain ⟨q235, e235⟩ := ex_eq (((x8 - x5) * (x9 - x3)) - ((x6 - x3) * (x11 - x5)))
            obtain ⟨q236, e236⟩ := ex_eq (((x6 - x3) * (x10 - x4)) - ((x7 - x4) * (x9 - x3)))
            refine call_step (n_tri_Normal_0 (k0 := q234) (k1 := q235) (k2 := q236) (h3.mono (by decide)) (h4.mono (by decide)) (h5.mono (by decide)) (h6.mono (by decide)) (h7.mono (by decide)) (h8.mono (by decide)) (h9.mono (by decide)) (h10.mono (by decide)) (h11.mono (by decide)) e234 e235 e236) rfl ?_
            simp only [fa_agg, fa_one, fa_nil, List.cons_append, List.nil_append, List.append_nil]
            refine call_step (n_vec_Sub_0 (k0 := q176) (k1 := q177) (k2 := q178) (m173.mono (by decide)) (m174.mono (by decide)) (m175.mono (by decide)) (h0.mono (by decide)) (h1.mono (by decide)) (h2.mono (by decide)) e176 e177 e178) rfl ?_
            simp only [fa_agg, fa_one, fa_nil, List.cons_append, List.nil_append, List.append_nil]
            have m237 : Num 8388613 (cr q234) q234 := Num.eqn e234 (Sm.sub (Sm.mul (Sm.sub h7.sm h4.sm) (Sm.sub h11.sm h5.sm)) (Sm.mul (Sm.sub h8.sm h5.sm) (Sm.sub h10.sm h4.sm)))
            have m238 : Num 8388613 (cr q235) q235 := Num.eqn e235 (Sm.sub (Sm.mul (Sm.sub h8.sm h5.sm) (Sm.sub h9.sm h3.sm)) (Sm.mul (Sm.sub h6.sm h3.sm) (Sm.sub h11.sm h5.sm)))
            have m239 : Num 8388613 (cr q236) q236 := Num.eqn e236 (Sm.sub (Sm.mul (Sm.sub h6.sm h3.sm) (Sm.sub h10.sm h4.sm)) (Sm.mul (Sm.sub h7.sm h4.sm) (Sm.sub h9.sm h3.sm)))
            obtain ⟨q240, e240⟩ := ex_eq (((q234 * q176) + (q235 * q177)) + (q236 * q178))
            refine call_step (n_vec_Dot_0 (k0 := q240) (m237.mono (by decide)) (m238.mono (by decide)) (m239.mono (by decide)) (m179.mono (by decide)) (m180.mono (by decide)) (m181.mono (by decide)) e240) rfl ?_
            simp only [fa_agg, fa_one, fa_nil, List.cons_append, List.nil_append, List.append_nil]
            have m241 : Num 50331680 (cr q240) q240 := Num.eqn e240 (Sm.add (Sm.add (Sm.mul m237.sm m179.sm) (Sm.mul m238.sm m180.sm)) (Sm.mul m239.sm m181.sm))
            refine call_step (n_rat_Sign (m241.mono (by decide))) rfl ?_
            simp only [fa_agg, fa_one, fa_nil, List.cons_append, List.nil_append, List.append_nil]
            have c242 : ¬(q240 = Z0) := (TriAims_al243 Y0 Y1 e234 e170 e176 e235 e171 e177 e236 e172 e178 e240 e100 e183 e184 e182 e188 d201 e206 c1 c49 c103 c189 c207)
            refine primS (.bool true) (cs_neq_t (fun z => c242 ((sg_eq Y0).1 z))) ?_
            refine primS (.bool false) rfl ?_
            refine itF rfl ?_
            refine call_step (n_rat_Sign (h14.mono (by decide))) rfl ?_
            simp only [fa_agg, fa_one, fa_nil, List.cons_append, List.nil_append, List.append_nil]
            have u245 : x14 * q206 = Z1 := (TriAims_al246 Y0 Y1 e171 e177 e183 e172 e178 e184 e170 e176 e182 e188 d201 e206 e100 e234 e235 e236 e240 c1 c49 c103 c189 c207 c242)
            have c244 : ¬(Z0 < x14) := (rcp_gn Y0 (show Z0 < Z1 by rw [Y1, Y0] <;> decide +kernel) u245 c207)
            refine primS (.bool true) (cs_leq_t (fun z => c244 ((sg_gt Y0).1 z))) ?_
            refine itT rfl ?_
            refine primS (.bool true) rfl ?_
            exact ret_step rfl

end Go.Px.Na

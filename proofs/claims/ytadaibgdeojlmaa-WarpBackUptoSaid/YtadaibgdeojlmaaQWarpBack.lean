/- QWarpBack: whatever the numbers, the law tells true. -/
import Derived.Test.YtadaibgdeojlmaaXWarpBack
set_option maxRecDepth 20000
set_option maxHeartbeats 40000000
set_option linter.unusedVariables false
set_option linter.unusedSimpArgs false
namespace Go.Px.Na
open Go.RowKit
open Go.Proofs.Try (prog)

theorem wd_lt {A B u v : Rat} (hA : A * u = 1) (hB : B * v = 1) (hu : 0 < u) (hv : 0 < v) (h : B < A) : u < v := by
  have e : v - u = (A - B) * (u * v) := by grind
  have := Rat.mul_pos (a := A - B) (b := u * v) (by grind) (Rat.mul_pos hu hv)
  grind
theorem bck_mono {a b : Rat} (h : a < b) : bck a < bck b := by
  rcases Rat.le_total (a := 0) (b := a) with ha | ha
  · obtain ⟨u, hu, pu, du, bu⟩ := wd_p ha
    obtain ⟨v, hv, pv, dv, bv⟩ := wd_p (x := b) (by grind)
    have := wd_lt hv hu pv pu (by grind)
    rw [bu, bv]; grind
  · obtain ⟨u, hu, pu, du, bu⟩ := wd_n ha
    rcases Rat.le_total (a := 0) (b := b) with hb | hb
    · obtain ⟨v, hv, pv, dv, bv⟩ := wd_p hb
      have k1 := wd_le (B := 1) (v := 1) hu (by grind) pu (by decide) (by grind)
      have k2 := wd_le (B := 1) (v := 1) hv (by grind) pv (by decide) (by grind)
      rw [bu, bv]
      by_cases z : a = 0
      · have := wd_lt (B := 1) (v := 1) hv (by grind) pv (by decide) (by grind)
        grind
      · have := wd_lt (B := 1) (v := 1) hu (by grind) pu (by decide) (by grind)
        grind
    · obtain ⟨v, hv, pv, dv, bv⟩ := wd_n hb
      have := wd_lt hu hv pu pv (by grind)
      rw [bu, bv]; grind
theorem bck_in (x : Rat) : 0 < bck x ∧ bck x < 1 := by
  rcases Rat.le_total (a := 0) (b := x) with h | h
  · obtain ⟨u, hu, pu, du, bu⟩ := wd_p h
    have k2 := wd_le (B := 1) (v := 1) hu (by grind) pu (by decide) (by grind)
    rw [bu]; constructor <;> grind
  · obtain ⟨u, hu, pu, du, bu⟩ := wd_n h
    have k2 := wd_le (B := 1) (v := 1) hu (by grind) pu (by decide) (by grind)
    rw [bu]; constructor <;> grind
theorem bck_half (x : Rat) : (0 ≤ x ↔ 1 / 2 ≤ bck x) := by
  have e : bck 0 = 1 / 2 := by decide +kernel
  constructor
  · intro h
    by_cases z : x = 0
    · subst z; rw [e]; exact Rat.le_refl
    · have := bck_mono (a := 0) (b := x) (by grind); grind
  · intro h
    exact Classical.byContradiction fun z => by
      have := bck_mono (a := x) (b := 0) (by grind); grind
theorem sg_of {q p r : Rat} (e : q * p = r) (hp : 0 < p) : (r < 0 → q < 0) ∧ (0 < r → 0 < q) ∧ (r = 0 → q = 0) := by
  refine ⟨fun h => ?_, fun h => ?_, fun h => ?_⟩
  · exact Classical.byContradiction fun z => by have := Rat.mul_nonneg (a := q) (b := p) (by grind) (by grind); grind
  · exact Classical.byContradiction fun z => by have := Rat.mul_nonneg (a := -q) (b := p) (by grind) (by grind); grind
  · rcases Rat.mul_eq_zero.1 (e.trans h) with z | z
    · exact z
    · grind
theorem WarpBack_al7 {Z0 Z1 : Rat} (Y0 : Z0 = (0 : Rat)) (Y1 : Z1 = (1 : Rat)) {q5 q3 x0 : Rat} (e3 : q3 = ((x0 + x0) - Z1)) (e5 : q5 = (Z1 - (-q3))) (c1 : Z0 < x0) (c2 : x0 < Z1) (c4 : q3 < Z0) : ¬(q5 = Z0) := by
  subst Y0 Y1 e3 e5
  grind

theorem WarpBack_al14 {Z0 Z1 : Rat} (Y0 : Z0 = (0 : Rat)) (Y1 : Z1 = (1 : Rat)) {x0 q8 q3 q5 : Rat} (e3 : q3 = ((x0 + x0) - Z1)) (e5 : q5 = (Z1 - (-q3))) (d8 : q8 * q5 = q3) (c1 : Z0 < x0) (c2 : x0 < Z1) (c4 : q3 < Z0) (c6 : ¬q5 = Z0) : x0 = (bck q8) := by
  subst Y0 Y1 e3 e5
  have bi0 := bck_in q8
  have bh0 := bck_half q8
  try have sg0 := sg_of d8 (by grind)
  rcases Rat.le_total (a := 0) (b := q8) with hq8 | hq8
  · obtain ⟨uq8, huq8, puq8, duq8, buq8⟩ := wd_p hq8
    first | grind | (have hz : q8 = 0 := (by grind); have e0 : bck q8 = 1 / 2 := (by rw [hz]; decide +kernel); grind)
  · obtain ⟨uq8, huq8, puq8, duq8, buq8⟩ := wd_n hq8
    first | grind | (have hz : q8 = 0 := (by grind); have e0 : bck q8 = 1 / 2 := (by rw [hz]; decide +kernel); grind)

theorem WarpBack_al20 {Z0 Z1 : Rat} (Y0 : Z0 = (0 : Rat)) (Y1 : Z1 = (1 : Rat)) {q16 x0 q3 q5 : Rat} (e16 : q16 = (bck x0)) (e3 : q3 = ((x0 + x0) - Z1)) (e5 : q5 = (Z1 - (-q3))) (c1 : Z0 < x0) (c2 : x0 < Z1) (c4 : q3 < Z0) (c6 : ¬q5 = Z0) : (Z0 < q16) := by
  subst Y0 Y1 e16 e3 e5
  have bi0 := bck_in x0
  have bh0 := bck_half x0
  rcases Rat.le_total (a := 0) (b := x0) with hx0 | hx0
  · obtain ⟨ux0, hux0, pux0, dux0, bux0⟩ := wd_p hx0
    first | grind | (have hz : x0 = 0 := (by grind); have e0 : bck x0 = 1 / 2 := (by rw [hz]; decide +kernel); grind)
  · obtain ⟨ux0, hux0, pux0, dux0, bux0⟩ := wd_n hx0
    first | grind | (have hz : x0 = 0 := (by grind); have e0 : bck x0 = 1 / 2 := (by rw [hz]; decide +kernel); grind)

theorem WarpBack_al22 {Z0 Z1 : Rat} (Y0 : Z0 = (0 : Rat)) (Y1 : Z1 = (1 : Rat)) {q16 x0 q3 q5 : Rat} (e16 : q16 = (bck x0)) (e3 : q3 = ((x0 + x0) - Z1)) (e5 : q5 = (Z1 - (-q3))) (c1 : Z0 < x0) (c2 : x0 < Z1) (c4 : q3 < Z0) (c6 : ¬q5 = Z0) (c19 : Z0 < q16) : (q16 < Z1) := by
  subst Y0 Y1 e16 e3 e5
  have bi0 := bck_in x0
  have bh0 := bck_half x0
  rcases Rat.le_total (a := 0) (b := x0) with hx0 | hx0
  · obtain ⟨ux0, hux0, pux0, dux0, bux0⟩ := wd_p hx0
    first | grind | (have hz : x0 = 0 := (by grind); have e0 : bck x0 = 1 / 2 := (by rw [hz]; decide +kernel); grind)
  · obtain ⟨ux0, hux0, pux0, dux0, bux0⟩ := wd_n hx0
    first | grind | (have hz : x0 = 0 := (by grind); have e0 : bck x0 = 1 / 2 := (by rw [hz]; decide +kernel); grind)

theorem WarpBack_al25 {Z0 Z1 : Rat} (Y0 : Z0 = (0 : Rat)) (Y1 : Z1 = (1 : Rat)) {q23 q16 x0 q3 q5 : Rat} (e16 : q16 = (bck x0)) (e23 : q23 = ((q16 + q16) - Z1)) (e3 : q3 = ((x0 + x0) - Z1)) (e5 : q5 = (Z1 - (-q3))) (c1 : Z0 < x0) (c2 : x0 < Z1) (c4 : q3 < Z0) (c6 : ¬q5 = Z0) (c19 : Z0 < q16) (c21 : q16 < Z1) : ¬(q23 < Z0) := by
  subst Y0 Y1 e16 e23 e3 e5
  have bi0 := bck_in x0
  have bh0 := bck_half x0
  rcases Rat.le_total (a := 0) (b := x0) with hx0 | hx0
  · obtain ⟨ux0, hux0, pux0, dux0, bux0⟩ := wd_p hx0
    first | grind | (have hz : x0 = 0 := (by grind); have e0 : bck x0 = 1 / 2 := (by rw [hz]; decide +kernel); grind)
  · obtain ⟨ux0, hux0, pux0, dux0, bux0⟩ := wd_n hx0
    first | grind | (have hz : x0 = 0 := (by grind); have e0 : bck x0 = 1 / 2 := (by rw [hz]; decide +kernel); grind)

theorem WarpBack_al28 {Z0 Z1 : Rat} (Y0 : Z0 = (0 : Rat)) (Y1 : Z1 = (1 : Rat)) {q26 q23 q16 x0 q3 q5 : Rat} (e16 : q16 = (bck x0)) (e23 : q23 = ((q16 + q16) - Z1)) (e26 : q26 = (Z1 - q23)) (e3 : q3 = ((x0 + x0) - Z1)) (e5 : q5 = (Z1 - (-q3))) (c1 : Z0 < x0) (c2 : x0 < Z1) (c4 : q3 < Z0) (c6 : ¬q5 = Z0) (c19 : Z0 < q16) (c21 : q16 < Z1) (c24 : ¬q23 < Z0) : ¬(q26 = Z0) := by
  subst Y0 Y1 e16 e23 e26 e3 e5
  have bi0 := bck_in x0
  have bh0 := bck_half x0
  rcases Rat.le_total (a := 0) (b := x0) with hx0 | hx0
  · obtain ⟨ux0, hux0, pux0, dux0, bux0⟩ := wd_p hx0
    first | grind | (have hz : x0 = 0 := (by grind); have e0 : bck x0 = 1 / 2 := (by rw [hz]; decide +kernel); grind)
  · obtain ⟨ux0, hux0, pux0, dux0, bux0⟩ := wd_n hx0
    first | grind | (have hz : x0 = 0 := (by grind); have e0 : bck x0 = 1 / 2 := (by rw [hz]; decide +kernel); grind)

theorem WarpBack_al30 {Z0 Z1 : Rat} (Y0 : Z0 = (0 : Rat)) (Y1 : Z1 = (1 : Rat)) {x0 q23 q16 q26 q3 q5 : Rat} (e16 : q16 = (bck x0)) (e23 : q23 = ((q16 + q16) - Z1)) (e26 : q26 = (Z1 - q23)) (e3 : q3 = ((x0 + x0) - Z1)) (e5 : q5 = (Z1 - (-q3))) (c1 : Z0 < x0) (c2 : x0 < Z1) (c4 : q3 < Z0) (c6 : ¬q5 = Z0) (c19 : Z0 < q16) (c21 : q16 < Z1) (c24 : ¬q23 < Z0) (c27 : ¬q26 = Z0) : x0 = (q23 / q26) := by
  subst Y0 Y1 e16 e23 e26 e3 e5
  have bi0 := bck_in x0
  have bh0 := bck_half x0
  rcases Rat.le_total (a := 0) (b := x0) with hx0 | hx0
  · obtain ⟨ux0, hux0, pux0, dux0, bux0⟩ := wd_p hx0
    first | grind | (have hz : x0 = 0 := (by grind); have e0 : bck x0 = 1 / 2 := (by rw [hz]; decide +kernel); grind)
  · obtain ⟨ux0, hux0, pux0, dux0, bux0⟩ := wd_n hx0
    first | grind | (have hz : x0 = 0 := (by grind); have e0 : bck x0 = 1 / 2 := (by rw [hz]; decide +kernel); grind)

theorem WarpBack_al34 {Z0 Z1 : Rat} (Y0 : Z0 = (0 : Rat)) (Y1 : Z1 = (1 : Rat)) {x0 x1 q3 q5 q16 q23 q26 q17 : Rat} (e3 : q3 = ((x0 + x0) - Z1)) (e5 : q5 = (Z1 - (-q3))) (e16 : q16 = (bck x0)) (e23 : q23 = ((q16 + q16) - Z1)) (e26 : q26 = (Z1 - q23)) (e17 : q17 = (bck x1)) (c1 : Z0 < x0) (c2 : x0 < Z1) (c4 : q3 < Z0) (c6 : ¬q5 = Z0) (c19 : Z0 < q16) (c21 : q16 < Z1) (c24 : ¬q23 < Z0) (c27 : ¬q26 = Z0) (c32 : q16 < q17) : (x0 < x1) := by
  subst Y0 Y1 e3 e5 e16 e23 e26 e17
  have bi0 := bck_in x0
  have bh0 := bck_half x0
  have bi1 := bck_in x1
  have bh1 := bck_half x1
  have bm01 := bck_mono (a := x0) (b := x1)
  have bm10 := bck_mono (a := x1) (b := x0)
  grind

theorem WarpBack_al37 {Z0 Z1 : Rat} (Y0 : Z0 = (0 : Rat)) (Y1 : Z1 = (1 : Rat)) {x0 x1 q3 q5 q16 q23 q26 q17 : Rat} (e3 : q3 = ((x0 + x0) - Z1)) (e5 : q5 = (Z1 - (-q3))) (e16 : q16 = (bck x0)) (e23 : q23 = ((q16 + q16) - Z1)) (e26 : q26 = (Z1 - q23)) (e17 : q17 = (bck x1)) (c1 : Z0 < x0) (c2 : x0 < Z1) (c4 : q3 < Z0) (c6 : ¬q5 = Z0) (c19 : Z0 < q16) (c21 : q16 < Z1) (c24 : ¬q23 < Z0) (c27 : ¬q26 = Z0) (c32 : ¬q16 < q17) (c35 : q16 = q17) : ¬(x0 < x1) := by
  subst Y0 Y1 e3 e5 e16 e23 e26 e17
  have bi0 := bck_in x0
  have bh0 := bck_half x0
  have bi1 := bck_in x1
  have bh1 := bck_half x1
  have bm01 := bck_mono (a := x0) (b := x1)
  have bm10 := bck_mono (a := x1) (b := x0)
  grind

theorem WarpBack_al39 {Z0 Z1 : Rat} (Y0 : Z0 = (0 : Rat)) (Y1 : Z1 = (1 : Rat)) {x0 x1 q3 q5 q16 q23 q26 q17 : Rat} (e3 : q3 = ((x0 + x0) - Z1)) (e5 : q5 = (Z1 - (-q3))) (e16 : q16 = (bck x0)) (e23 : q23 = ((q16 + q16) - Z1)) (e26 : q26 = (Z1 - q23)) (e17 : q17 = (bck x1)) (c1 : Z0 < x0) (c2 : x0 < Z1) (c4 : q3 < Z0) (c6 : ¬q5 = Z0) (c19 : Z0 < q16) (c21 : q16 < Z1) (c24 : ¬q23 < Z0) (c27 : ¬q26 = Z0) (c32 : ¬q16 < q17) (c35 : q16 = q17) (c36 : ¬x0 < x1) : (x0 = x1) := by
  subst Y0 Y1 e3 e5 e16 e23 e26 e17
  have bi0 := bck_in x0
  have bh0 := bck_half x0
  have bi1 := bck_in x1
  have bh1 := bck_half x1
  have bm01 := bck_mono (a := x0) (b := x1)
  have bm10 := bck_mono (a := x1) (b := x0)
  grind

theorem WarpBack_al41 {Z0 Z1 : Rat} (Y0 : Z0 = (0 : Rat)) (Y1 : Z1 = (1 : Rat)) {x0 x1 q3 q5 q16 q23 q26 q17 : Rat} (e3 : q3 = ((x0 + x0) - Z1)) (e5 : q5 = (Z1 - (-q3))) (e16 : q16 = (bck x0)) (e23 : q23 = ((q16 + q16) - Z1)) (e26 : q26 = (Z1 - q23)) (e17 : q17 = (bck x1)) (c1 : Z0 < x0) (c2 : x0 < Z1) (c4 : q3 < Z0) (c6 : ¬q5 = Z0) (c19 : Z0 < q16) (c21 : q16 < Z1) (c24 : ¬q23 < Z0) (c27 : ¬q26 = Z0) (c32 : ¬q16 < q17) (c35 : ¬q16 = q17) : ¬(x0 < x1) := by
  subst Y0 Y1 e3 e5 e16 e23 e26 e17
  have bi0 := bck_in x0
  have bh0 := bck_half x0
  have bi1 := bck_in x1
  have bh1 := bck_half x1
  have bm01 := bck_mono (a := x0) (b := x1)
  have bm10 := bck_mono (a := x1) (b := x0)
  grind

theorem WarpBack_al43 {Z0 Z1 : Rat} (Y0 : Z0 = (0 : Rat)) (Y1 : Z1 = (1 : Rat)) {x0 x1 q3 q5 q16 q23 q26 q17 : Rat} (e3 : q3 = ((x0 + x0) - Z1)) (e5 : q5 = (Z1 - (-q3))) (e16 : q16 = (bck x0)) (e23 : q23 = ((q16 + q16) - Z1)) (e26 : q26 = (Z1 - q23)) (e17 : q17 = (bck x1)) (c1 : Z0 < x0) (c2 : x0 < Z1) (c4 : q3 < Z0) (c6 : ¬q5 = Z0) (c19 : Z0 < q16) (c21 : q16 < Z1) (c24 : ¬q23 < Z0) (c27 : ¬q26 = Z0) (c32 : ¬q16 < q17) (c35 : ¬q16 = q17) (c40 : ¬x0 < x1) : ¬(x0 = x1) := by
  subst Y0 Y1 e3 e5 e16 e23 e26 e17
  have bi0 := bck_in x0
  have bh0 := bck_half x0
  have bi1 := bck_in x1
  have bh1 := bck_half x1
  have bm01 := bck_mono (a := x0) (b := x1)
  have bm10 := bck_mono (a := x1) (b := x0)
  grind

theorem WarpBack_al46 {Z0 Z1 : Rat} (Y0 : Z0 = (0 : Rat)) (Y1 : Z1 = (1 : Rat)) {q44 q3 x0 : Rat} (e3 : q3 = ((x0 + x0) - Z1)) (e44 : q44 = (Z1 - q3)) (c1 : Z0 < x0) (c2 : x0 < Z1) (c4 : ¬q3 < Z0) : ¬(q44 = Z0) := by
  subst Y0 Y1 e3 e44
  grind

theorem WarpBack_al53 {Z0 Z1 : Rat} (Y0 : Z0 = (0 : Rat)) (Y1 : Z1 = (1 : Rat)) {x0 q47 q3 q44 : Rat} (e3 : q3 = ((x0 + x0) - Z1)) (e44 : q44 = (Z1 - q3)) (d47 : q47 * q44 = q3) (c1 : Z0 < x0) (c2 : x0 < Z1) (c4 : ¬q3 < Z0) (c45 : ¬q44 = Z0) : x0 = (bck q47) := by
  subst Y0 Y1 e3 e44
  have bi0 := bck_in q47
  have bh0 := bck_half q47
  try have sg0 := sg_of d47 (by grind)
  rcases Rat.le_total (a := 0) (b := q47) with hq47 | hq47
  · obtain ⟨uq47, huq47, puq47, duq47, buq47⟩ := wd_p hq47
    first | grind | (have hz : q47 = 0 := (by grind); have e0 : bck q47 = 1 / 2 := (by rw [hz]; decide +kernel); grind)
  · obtain ⟨uq47, huq47, puq47, duq47, buq47⟩ := wd_n hq47
    first | grind | (have hz : q47 = 0 := (by grind); have e0 : bck q47 = 1 / 2 := (by rw [hz]; decide +kernel); grind)

theorem WarpBack_al59 {Z0 Z1 : Rat} (Y0 : Z0 = (0 : Rat)) (Y1 : Z1 = (1 : Rat)) {q55 x0 q3 q44 : Rat} (e55 : q55 = (bck x0)) (e3 : q3 = ((x0 + x0) - Z1)) (e44 : q44 = (Z1 - q3)) (c1 : Z0 < x0) (c2 : x0 < Z1) (c4 : ¬q3 < Z0) (c45 : ¬q44 = Z0) : (Z0 < q55) := by
  subst Y0 Y1 e55 e3 e44
  have bi0 := bck_in x0
  have bh0 := bck_half x0
  rcases Rat.le_total (a := 0) (b := x0) with hx0 | hx0
  · obtain ⟨ux0, hux0, pux0, dux0, bux0⟩ := wd_p hx0
    first | grind | (have hz : x0 = 0 := (by grind); have e0 : bck x0 = 1 / 2 := (by rw [hz]; decide +kernel); grind)
  · obtain ⟨ux0, hux0, pux0, dux0, bux0⟩ := wd_n hx0
    first | grind | (have hz : x0 = 0 := (by grind); have e0 : bck x0 = 1 / 2 := (by rw [hz]; decide +kernel); grind)

theorem WarpBack_al61 {Z0 Z1 : Rat} (Y0 : Z0 = (0 : Rat)) (Y1 : Z1 = (1 : Rat)) {q55 x0 q3 q44 : Rat} (e55 : q55 = (bck x0)) (e3 : q3 = ((x0 + x0) - Z1)) (e44 : q44 = (Z1 - q3)) (c1 : Z0 < x0) (c2 : x0 < Z1) (c4 : ¬q3 < Z0) (c45 : ¬q44 = Z0) (c58 : Z0 < q55) : (q55 < Z1) := by
  subst Y0 Y1 e55 e3 e44
  have bi0 := bck_in x0
  have bh0 := bck_half x0
  rcases Rat.le_total (a := 0) (b := x0) with hx0 | hx0
  · obtain ⟨ux0, hux0, pux0, dux0, bux0⟩ := wd_p hx0
    first | grind | (have hz : x0 = 0 := (by grind); have e0 : bck x0 = 1 / 2 := (by rw [hz]; decide +kernel); grind)
  · obtain ⟨ux0, hux0, pux0, dux0, bux0⟩ := wd_n hx0
    first | grind | (have hz : x0 = 0 := (by grind); have e0 : bck x0 = 1 / 2 := (by rw [hz]; decide +kernel); grind)

theorem WarpBack_al64 {Z0 Z1 : Rat} (Y0 : Z0 = (0 : Rat)) (Y1 : Z1 = (1 : Rat)) {q62 q55 x0 q3 q44 : Rat} (e55 : q55 = (bck x0)) (e62 : q62 = ((q55 + q55) - Z1)) (e3 : q3 = ((x0 + x0) - Z1)) (e44 : q44 = (Z1 - q3)) (c1 : Z0 < x0) (c2 : x0 < Z1) (c4 : ¬q3 < Z0) (c45 : ¬q44 = Z0) (c58 : Z0 < q55) (c60 : q55 < Z1) : ¬(q62 < Z0) := by
  subst Y0 Y1 e55 e62 e3 e44
  have bi0 := bck_in x0
  have bh0 := bck_half x0
  rcases Rat.le_total (a := 0) (b := x0) with hx0 | hx0
  · obtain ⟨ux0, hux0, pux0, dux0, bux0⟩ := wd_p hx0
    first | grind | (have hz : x0 = 0 := (by grind); have e0 : bck x0 = 1 / 2 := (by rw [hz]; decide +kernel); grind)
  · obtain ⟨ux0, hux0, pux0, dux0, bux0⟩ := wd_n hx0
    first | grind | (have hz : x0 = 0 := (by grind); have e0 : bck x0 = 1 / 2 := (by rw [hz]; decide +kernel); grind)

theorem WarpBack_al67 {Z0 Z1 : Rat} (Y0 : Z0 = (0 : Rat)) (Y1 : Z1 = (1 : Rat)) {q65 q62 q55 x0 q3 q44 : Rat} (e55 : q55 = (bck x0)) (e62 : q62 = ((q55 + q55) - Z1)) (e65 : q65 = (Z1 - q62)) (e3 : q3 = ((x0 + x0) - Z1)) (e44 : q44 = (Z1 - q3)) (c1 : Z0 < x0) (c2 : x0 < Z1) (c4 : ¬q3 < Z0) (c45 : ¬q44 = Z0) (c58 : Z0 < q55) (c60 : q55 < Z1) (c63 : ¬q62 < Z0) : ¬(q65 = Z0) := by
  subst Y0 Y1 e55 e62 e65 e3 e44
  have bi0 := bck_in x0
  have bh0 := bck_half x0
  rcases Rat.le_total (a := 0) (b := x0) with hx0 | hx0
  · obtain ⟨ux0, hux0, pux0, dux0, bux0⟩ := wd_p hx0
    first | grind | (have hz : x0 = 0 := (by grind); have e0 : bck x0 = 1 / 2 := (by rw [hz]; decide +kernel); grind)
  · obtain ⟨ux0, hux0, pux0, dux0, bux0⟩ := wd_n hx0
    first | grind | (have hz : x0 = 0 := (by grind); have e0 : bck x0 = 1 / 2 := (by rw [hz]; decide +kernel); grind)

theorem WarpBack_al69 {Z0 Z1 : Rat} (Y0 : Z0 = (0 : Rat)) (Y1 : Z1 = (1 : Rat)) {x0 q62 q55 q65 q3 q44 : Rat} (e55 : q55 = (bck x0)) (e62 : q62 = ((q55 + q55) - Z1)) (e65 : q65 = (Z1 - q62)) (e3 : q3 = ((x0 + x0) - Z1)) (e44 : q44 = (Z1 - q3)) (c1 : Z0 < x0) (c2 : x0 < Z1) (c4 : ¬q3 < Z0) (c45 : ¬q44 = Z0) (c58 : Z0 < q55) (c60 : q55 < Z1) (c63 : ¬q62 < Z0) (c66 : ¬q65 = Z0) : x0 = (q62 / q65) := by
  subst Y0 Y1 e55 e62 e65 e3 e44
  have bi0 := bck_in x0
  have bh0 := bck_half x0
  rcases Rat.le_total (a := 0) (b := x0) with hx0 | hx0
  · obtain ⟨ux0, hux0, pux0, dux0, bux0⟩ := wd_p hx0
    first | grind | (have hz : x0 = 0 := (by grind); have e0 : bck x0 = 1 / 2 := (by rw [hz]; decide +kernel); grind)
  · obtain ⟨ux0, hux0, pux0, dux0, bux0⟩ := wd_n hx0
    first | grind | (have hz : x0 = 0 := (by grind); have e0 : bck x0 = 1 / 2 := (by rw [hz]; decide +kernel); grind)

theorem WarpBack_al73 {Z0 Z1 : Rat} (Y0 : Z0 = (0 : Rat)) (Y1 : Z1 = (1 : Rat)) {x0 x1 q3 q44 q55 q62 q65 q56 : Rat} (e3 : q3 = ((x0 + x0) - Z1)) (e44 : q44 = (Z1 - q3)) (e55 : q55 = (bck x0)) (e62 : q62 = ((q55 + q55) - Z1)) (e65 : q65 = (Z1 - q62)) (e56 : q56 = (bck x1)) (c1 : Z0 < x0) (c2 : x0 < Z1) (c4 : ¬q3 < Z0) (c45 : ¬q44 = Z0) (c58 : Z0 < q55) (c60 : q55 < Z1) (c63 : ¬q62 < Z0) (c66 : ¬q65 = Z0) (c71 : q55 < q56) : (x0 < x1) := by
  subst Y0 Y1 e3 e44 e55 e62 e65 e56
  have bi0 := bck_in x0
  have bh0 := bck_half x0
  have bi1 := bck_in x1
  have bh1 := bck_half x1
  have bm01 := bck_mono (a := x0) (b := x1)
  have bm10 := bck_mono (a := x1) (b := x0)
  grind

theorem WarpBack_al76 {Z0 Z1 : Rat} (Y0 : Z0 = (0 : Rat)) (Y1 : Z1 = (1 : Rat)) {x0 x1 q3 q44 q55 q62 q65 q56 : Rat} (e3 : q3 = ((x0 + x0) - Z1)) (e44 : q44 = (Z1 - q3)) (e55 : q55 = (bck x0)) (e62 : q62 = ((q55 + q55) - Z1)) (e65 : q65 = (Z1 - q62)) (e56 : q56 = (bck x1)) (c1 : Z0 < x0) (c2 : x0 < Z1) (c4 : ¬q3 < Z0) (c45 : ¬q44 = Z0) (c58 : Z0 < q55) (c60 : q55 < Z1) (c63 : ¬q62 < Z0) (c66 : ¬q65 = Z0) (c71 : ¬q55 < q56) (c74 : q55 = q56) : ¬(x0 < x1) := by
  subst Y0 Y1 e3 e44 e55 e62 e65 e56
  have bi0 := bck_in x0
  have bh0 := bck_half x0
  have bi1 := bck_in x1
  have bh1 := bck_half x1
  have bm01 := bck_mono (a := x0) (b := x1)
  have bm10 := bck_mono (a := x1) (b := x0)
  grind

theorem WarpBack_al78 {Z0 Z1 : Rat} (Y0 : Z0 = (0 : Rat)) (Y1 : Z1 = (1 : Rat)) {x0 x1 q3 q44 q55 q62 q65 q56 : Rat} (e3 : q3 = ((x0 + x0) - Z1)) (e44 : q44 = (Z1 - q3)) (e55 : q55 = (bck x0)) (e62 : q62 = ((q55 + q55) - Z1)) (e65 : q65 = (Z1 - q62)) (e56 : q56 = (bck x1)) (c1 : Z0 < x0) (c2 : x0 < Z1) (c4 : ¬q3 < Z0) (c45 : ¬q44 = Z0) (c58 : Z0 < q55) (c60 : q55 < Z1) (c63 : ¬q62 < Z0) (c66 : ¬q65 = Z0) (c71 : ¬q55 < q56) (c74 : q55 = q56) (c75 : ¬x0 < x1) : (x0 = x1) := by
  subst Y0 Y1 e3 e44 e55 e62 e65 e56
  have bi0 := bck_in x0
  have bh0 := bck_half x0
  have bi1 := bck_in x1
  have bh1 := bck_half x1
  have bm01 := bck_mono (a := x0) (b := x1)
  have bm10 := bck_mono (a := x1) (b := x0)
  grind

theorem WarpBack_al80 {Z0 Z1 : Rat} (Y0 : Z0 = (0 : Rat)) (Y1 : Z1 = (1 : Rat)) {x0 x1 q3 q44 q55 q62 q65 q56 : Rat} (e3 : q3 = ((x0 + x0) - Z1)) (e44 : q44 = (Z1 - q3)) (e55 : q55 = (bck x0)) (e62 : q62 = ((q55 + q55) - Z1)) (e65 : q65 = (Z1 - q62)) (e56 : q56 = (bck x1)) (c1 : Z0 < x0) (c2 : x0 < Z1) (c4 : ¬q3 < Z0) (c45 : ¬q44 = Z0) (c58 : Z0 < q55) (c60 : q55 < Z1) (c63 : ¬q62 < Z0) (c66 : ¬q65 = Z0) (c71 : ¬q55 < q56) (c74 : ¬q55 = q56) : ¬(x0 < x1) := by
  subst Y0 Y1 e3 e44 e55 e62 e65 e56
  have bi0 := bck_in x0
  have bh0 := bck_half x0
  have bi1 := bck_in x1
  have bh1 := bck_half x1
  have bm01 := bck_mono (a := x0) (b := x1)
  have bm10 := bck_mono (a := x1) (b := x0)
  grind

theorem WarpBack_al82 {Z0 Z1 : Rat} (Y0 : Z0 = (0 : Rat)) (Y1 : Z1 = (1 : Rat)) {x0 x1 q3 q44 q55 q62 q65 q56 : Rat} (e3 : q3 = ((x0 + x0) - Z1)) (e44 : q44 = (Z1 - q3)) (e55 : q55 = (bck x0)) (e62 : q62 = ((q55 + q55) - Z1)) (e65 : q65 = (Z1 - q62)) (e56 : q56 = (bck x1)) (c1 : Z0 < x0) (c2 : x0 < Z1) (c4 : ¬q3 < Z0) (c45 : ¬q44 = Z0) (c58 : Z0 < q55) (c60 : q55 < Z1) (c63 : ¬q62 < Z0) (c66 : ¬q65 = Z0) (c71 : ¬q55 < q56) (c74 : ¬q55 = q56) (c79 : ¬x0 < x1) : ¬(x0 = x1) := by
  subst Y0 Y1 e3 e44 e55 e62 e65 e56
  have bi0 := bck_in x0
  have bh0 := bck_half x0
  have bi1 := bck_in x1
  have bh1 := bck_half x1
  have bm01 := bck_mono (a := x0) (b := x1)
  have bm10 := bck_mono (a := x1) (b := x0)
  grind

theorem WarpBack_al88 {Z0 Z1 : Rat} (Y0 : Z0 = (0 : Rat)) (Y1 : Z1 = (1 : Rat)) {q84 x0 : Rat} (e84 : q84 = (bck x0)) (c1 : Z0 < x0) (c2 : ¬x0 < Z1) : (Z0 < q84) := by
  subst Y0 Y1 e84
  have bi0 := bck_in x0
  have bh0 := bck_half x0
  rcases Rat.le_total (a := 0) (b := x0) with hx0 | hx0
  · obtain ⟨ux0, hux0, pux0, dux0, bux0⟩ := wd_p hx0
    first | grind | (have hz : x0 = 0 := (by grind); have e0 : bck x0 = 1 / 2 := (by rw [hz]; decide +kernel); grind)
  · obtain ⟨ux0, hux0, pux0, dux0, bux0⟩ := wd_n hx0
    first | grind | (have hz : x0 = 0 := (by grind); have e0 : bck x0 = 1 / 2 := (by rw [hz]; decide +kernel); grind)

theorem WarpBack_al90 {Z0 Z1 : Rat} (Y0 : Z0 = (0 : Rat)) (Y1 : Z1 = (1 : Rat)) {q84 x0 : Rat} (e84 : q84 = (bck x0)) (c1 : Z0 < x0) (c2 : ¬x0 < Z1) (c87 : Z0 < q84) : (q84 < Z1) := by
  subst Y0 Y1 e84
  have bi0 := bck_in x0
  have bh0 := bck_half x0
  rcases Rat.le_total (a := 0) (b := x0) with hx0 | hx0
  · obtain ⟨ux0, hux0, pux0, dux0, bux0⟩ := wd_p hx0
    first | grind | (have hz : x0 = 0 := (by grind); have e0 : bck x0 = 1 / 2 := (by rw [hz]; decide +kernel); grind)
  · obtain ⟨ux0, hux0, pux0, dux0, bux0⟩ := wd_n hx0
    first | grind | (have hz : x0 = 0 := (by grind); have e0 : bck x0 = 1 / 2 := (by rw [hz]; decide +kernel); grind)

theorem WarpBack_al93 {Z0 Z1 : Rat} (Y0 : Z0 = (0 : Rat)) (Y1 : Z1 = (1 : Rat)) {q91 q84 x0 : Rat} (e84 : q84 = (bck x0)) (e91 : q91 = ((q84 + q84) - Z1)) (c1 : Z0 < x0) (c2 : ¬x0 < Z1) (c87 : Z0 < q84) (c89 : q84 < Z1) : ¬(q91 < Z0) := by
  subst Y0 Y1 e84 e91
  have bi0 := bck_in x0
  have bh0 := bck_half x0
  rcases Rat.le_total (a := 0) (b := x0) with hx0 | hx0
  · obtain ⟨ux0, hux0, pux0, dux0, bux0⟩ := wd_p hx0
    first | grind | (have hz : x0 = 0 := (by grind); have e0 : bck x0 = 1 / 2 := (by rw [hz]; decide +kernel); grind)
  · obtain ⟨ux0, hux0, pux0, dux0, bux0⟩ := wd_n hx0
    first | grind | (have hz : x0 = 0 := (by grind); have e0 : bck x0 = 1 / 2 := (by rw [hz]; decide +kernel); grind)

theorem WarpBack_al96 {Z0 Z1 : Rat} (Y0 : Z0 = (0 : Rat)) (Y1 : Z1 = (1 : Rat)) {q94 q91 q84 x0 : Rat} (e84 : q84 = (bck x0)) (e91 : q91 = ((q84 + q84) - Z1)) (e94 : q94 = (Z1 - q91)) (c1 : Z0 < x0) (c2 : ¬x0 < Z1) (c87 : Z0 < q84) (c89 : q84 < Z1) (c92 : ¬q91 < Z0) : ¬(q94 = Z0) := by
  subst Y0 Y1 e84 e91 e94
  have bi0 := bck_in x0
  have bh0 := bck_half x0
  rcases Rat.le_total (a := 0) (b := x0) with hx0 | hx0
  · obtain ⟨ux0, hux0, pux0, dux0, bux0⟩ := wd_p hx0
    first | grind | (have hz : x0 = 0 := (by grind); have e0 : bck x0 = 1 / 2 := (by rw [hz]; decide +kernel); grind)
  · obtain ⟨ux0, hux0, pux0, dux0, bux0⟩ := wd_n hx0
    first | grind | (have hz : x0 = 0 := (by grind); have e0 : bck x0 = 1 / 2 := (by rw [hz]; decide +kernel); grind)

theorem WarpBack_al98 {Z0 Z1 : Rat} (Y0 : Z0 = (0 : Rat)) (Y1 : Z1 = (1 : Rat)) {x0 q91 q84 q94 : Rat} (e84 : q84 = (bck x0)) (e91 : q91 = ((q84 + q84) - Z1)) (e94 : q94 = (Z1 - q91)) (c1 : Z0 < x0) (c2 : ¬x0 < Z1) (c87 : Z0 < q84) (c89 : q84 < Z1) (c92 : ¬q91 < Z0) (c95 : ¬q94 = Z0) : x0 = (q91 / q94) := by
  subst Y0 Y1 e84 e91 e94
  have bi0 := bck_in x0
  have bh0 := bck_half x0
  rcases Rat.le_total (a := 0) (b := x0) with hx0 | hx0
  · obtain ⟨ux0, hux0, pux0, dux0, bux0⟩ := wd_p hx0
    first | grind | (have hz : x0 = 0 := (by grind); have e0 : bck x0 = 1 / 2 := (by rw [hz]; decide +kernel); grind)
  · obtain ⟨ux0, hux0, pux0, dux0, bux0⟩ := wd_n hx0
    first | grind | (have hz : x0 = 0 := (by grind); have e0 : bck x0 = 1 / 2 := (by rw [hz]; decide +kernel); grind)

theorem WarpBack_al103 {Z0 Z1 : Rat} (Y0 : Z0 = (0 : Rat)) (Y1 : Z1 = (1 : Rat)) {x0 x1 q84 q91 q94 q85 : Rat} (e84 : q84 = (bck x0)) (e91 : q91 = ((q84 + q84) - Z1)) (e94 : q94 = (Z1 - q91)) (e85 : q85 = (bck x1)) (c1 : Z0 < x0) (c2 : ¬x0 < Z1) (c87 : Z0 < q84) (c89 : q84 < Z1) (c92 : ¬q91 < Z0) (c95 : ¬q94 = Z0) (c101 : q84 < q85) : (x0 < x1) := by
  subst Y0 Y1 e84 e91 e94 e85
  have bi0 := bck_in x0
  have bh0 := bck_half x0
  have bi1 := bck_in x1
  have bh1 := bck_half x1
  have bm01 := bck_mono (a := x0) (b := x1)
  have bm10 := bck_mono (a := x1) (b := x0)
  grind

theorem WarpBack_al106 {Z0 Z1 : Rat} (Y0 : Z0 = (0 : Rat)) (Y1 : Z1 = (1 : Rat)) {x0 x1 q84 q91 q94 q85 : Rat} (e84 : q84 = (bck x0)) (e91 : q91 = ((q84 + q84) - Z1)) (e94 : q94 = (Z1 - q91)) (e85 : q85 = (bck x1)) (c1 : Z0 < x0) (c2 : ¬x0 < Z1) (c87 : Z0 < q84) (c89 : q84 < Z1) (c92 : ¬q91 < Z0) (c95 : ¬q94 = Z0) (c101 : ¬q84 < q85) (c104 : q84 = q85) : ¬(x0 < x1) := by
  subst Y0 Y1 e84 e91 e94 e85
  have bi0 := bck_in x0
  have bh0 := bck_half x0
  have bi1 := bck_in x1
  have bh1 := bck_half x1
  have bm01 := bck_mono (a := x0) (b := x1)
  have bm10 := bck_mono (a := x1) (b := x0)
  grind

theorem WarpBack_al108 {Z0 Z1 : Rat} (Y0 : Z0 = (0 : Rat)) (Y1 : Z1 = (1 : Rat)) {x0 x1 q84 q91 q94 q85 : Rat} (e84 : q84 = (bck x0)) (e91 : q91 = ((q84 + q84) - Z1)) (e94 : q94 = (Z1 - q91)) (e85 : q85 = (bck x1)) (c1 : Z0 < x0) (c2 : ¬x0 < Z1) (c87 : Z0 < q84) (c89 : q84 < Z1) (c92 : ¬q91 < Z0) (c95 : ¬q94 = Z0) (c101 : ¬q84 < q85) (c104 : q84 = q85) (c105 : ¬x0 < x1) : (x0 = x1) := by
  subst Y0 Y1 e84 e91 e94 e85
  have bi0 := bck_in x0
  have bh0 := bck_half x0
  have bi1 := bck_in x1
  have bh1 := bck_half x1
  have bm01 := bck_mono (a := x0) (b := x1)
  have bm10 := bck_mono (a := x1) (b := x0)
  grind

theorem WarpBack_al110 {Z0 Z1 : Rat} (Y0 : Z0 = (0 : Rat)) (Y1 : Z1 = (1 : Rat)) {x0 x1 q84 q91 q94 q85 : Rat} (e84 : q84 = (bck x0)) (e91 : q91 = ((q84 + q84) - Z1)) (e94 : q94 = (Z1 - q91)) (e85 : q85 = (bck x1)) (c1 : Z0 < x0) (c2 : ¬x0 < Z1) (c87 : Z0 < q84) (c89 : q84 < Z1) (c92 : ¬q91 < Z0) (c95 : ¬q94 = Z0) (c101 : ¬q84 < q85) (c104 : ¬q84 = q85) : ¬(x0 < x1) := by
  subst Y0 Y1 e84 e91 e94 e85
  have bi0 := bck_in x0
  have bh0 := bck_half x0
  have bi1 := bck_in x1
  have bh1 := bck_half x1
  have bm01 := bck_mono (a := x0) (b := x1)
  have bm10 := bck_mono (a := x1) (b := x0)
  grind

theorem WarpBack_al112 {Z0 Z1 : Rat} (Y0 : Z0 = (0 : Rat)) (Y1 : Z1 = (1 : Rat)) {x0 x1 q84 q91 q94 q85 : Rat} (e84 : q84 = (bck x0)) (e91 : q91 = ((q84 + q84) - Z1)) (e94 : q94 = (Z1 - q91)) (e85 : q85 = (bck x1)) (c1 : Z0 < x0) (c2 : ¬x0 < Z1) (c87 : Z0 < q84) (c89 : q84 < Z1) (c92 : ¬q91 < Z0) (c95 : ¬q94 = Z0) (c101 : ¬q84 < q85) (c104 : ¬q84 = q85) (c109 : ¬x0 < x1) : ¬(x0 = x1) := by
  subst Y0 Y1 e84 e91 e94 e85
  have bi0 := bck_in x0
  have bh0 := bck_half x0
  have bi1 := bck_in x1
  have bh1 := bck_half x1
  have bm01 := bck_mono (a := x0) (b := x1)
  have bm10 := bck_mono (a := x1) (b := x0)
  grind

theorem WarpBack_al117 {Z0 : Rat} (Y0 : Z0 = (0 : Rat)) {q113 x0 : Rat} (e113 : q113 = (bck x0)) (c1 : ¬Z0 < x0) : (Z0 < q113) := by
  subst Y0 e113
  have bi0 := bck_in x0
  have bh0 := bck_half x0
  rcases Rat.le_total (a := 0) (b := x0) with hx0 | hx0
  · obtain ⟨ux0, hux0, pux0, dux0, bux0⟩ := wd_p hx0
    first | grind | (have hz : x0 = 0 := (by grind); have e0 : bck x0 = 1 / 2 := (by rw [hz]; decide +kernel); grind)
  · obtain ⟨ux0, hux0, pux0, dux0, bux0⟩ := wd_n hx0
    first | grind | (have hz : x0 = 0 := (by grind); have e0 : bck x0 = 1 / 2 := (by rw [hz]; decide +kernel); grind)

theorem WarpBack_al119 {Z0 Z1 : Rat} (Y0 : Z0 = (0 : Rat)) (Y1 : Z1 = (1 : Rat)) {q113 x0 : Rat} (e113 : q113 = (bck x0)) (c1 : ¬Z0 < x0) (c116 : Z0 < q113) : (q113 < Z1) := by
  subst Y0 Y1 e113
  have bi0 := bck_in x0
  have bh0 := bck_half x0
  rcases Rat.le_total (a := 0) (b := x0) with hx0 | hx0
  · obtain ⟨ux0, hux0, pux0, dux0, bux0⟩ := wd_p hx0
    first | grind | (have hz : x0 = 0 := (by grind); have e0 : bck x0 = 1 / 2 := (by rw [hz]; decide +kernel); grind)
  · obtain ⟨ux0, hux0, pux0, dux0, bux0⟩ := wd_n hx0
    first | grind | (have hz : x0 = 0 := (by grind); have e0 : bck x0 = 1 / 2 := (by rw [hz]; decide +kernel); grind)

theorem WarpBack_al124 {Z0 Z1 : Rat} (Y0 : Z0 = (0 : Rat)) (Y1 : Z1 = (1 : Rat)) {q122 q120 q113 x0 : Rat} (e113 : q113 = (bck x0)) (e120 : q120 = ((q113 + q113) - Z1)) (e122 : q122 = (Z1 - (-q120))) (c1 : ¬Z0 < x0) (c116 : Z0 < q113) (c118 : q113 < Z1) (c121 : q120 < Z0) : ¬(q122 = Z0) := by
  subst Y0 Y1 e113 e120 e122
  have bi0 := bck_in x0
  have bh0 := bck_half x0
  rcases Rat.le_total (a := 0) (b := x0) with hx0 | hx0
  · obtain ⟨ux0, hux0, pux0, dux0, bux0⟩ := wd_p hx0
    first | grind | (have hz : x0 = 0 := (by grind); have e0 : bck x0 = 1 / 2 := (by rw [hz]; decide +kernel); grind)
  · obtain ⟨ux0, hux0, pux0, dux0, bux0⟩ := wd_n hx0
    first | grind | (have hz : x0 = 0 := (by grind); have e0 : bck x0 = 1 / 2 := (by rw [hz]; decide +kernel); grind)

theorem WarpBack_al126 {Z0 Z1 : Rat} (Y0 : Z0 = (0 : Rat)) (Y1 : Z1 = (1 : Rat)) {x0 q120 q113 q122 : Rat} (e113 : q113 = (bck x0)) (e120 : q120 = ((q113 + q113) - Z1)) (e122 : q122 = (Z1 - (-q120))) (c1 : ¬Z0 < x0) (c116 : Z0 < q113) (c118 : q113 < Z1) (c121 : q120 < Z0) (c123 : ¬q122 = Z0) : x0 = (q120 / q122) := by
  subst Y0 Y1 e113 e120 e122
  have bi0 := bck_in x0
  have bh0 := bck_half x0
  rcases Rat.le_total (a := 0) (b := x0) with hx0 | hx0
  · obtain ⟨ux0, hux0, pux0, dux0, bux0⟩ := wd_p hx0
    first | grind | (have hz : x0 = 0 := (by grind); have e0 : bck x0 = 1 / 2 := (by rw [hz]; decide +kernel); grind)
  · obtain ⟨ux0, hux0, pux0, dux0, bux0⟩ := wd_n hx0
    first | grind | (have hz : x0 = 0 := (by grind); have e0 : bck x0 = 1 / 2 := (by rw [hz]; decide +kernel); grind)

theorem WarpBack_al131 {Z0 Z1 : Rat} (Y0 : Z0 = (0 : Rat)) (Y1 : Z1 = (1 : Rat)) {x0 x1 q113 q120 q122 q114 : Rat} (e113 : q113 = (bck x0)) (e120 : q120 = ((q113 + q113) - Z1)) (e122 : q122 = (Z1 - (-q120))) (e114 : q114 = (bck x1)) (c1 : ¬Z0 < x0) (c116 : Z0 < q113) (c118 : q113 < Z1) (c121 : q120 < Z0) (c123 : ¬q122 = Z0) (c129 : q113 < q114) : (x0 < x1) := by
  subst Y0 Y1 e113 e120 e122 e114
  have bi0 := bck_in x0
  have bh0 := bck_half x0
  have bi1 := bck_in x1
  have bh1 := bck_half x1
  have bm01 := bck_mono (a := x0) (b := x1)
  have bm10 := bck_mono (a := x1) (b := x0)
  grind

theorem WarpBack_al134 {Z0 Z1 : Rat} (Y0 : Z0 = (0 : Rat)) (Y1 : Z1 = (1 : Rat)) {x0 x1 q113 q120 q122 q114 : Rat} (e113 : q113 = (bck x0)) (e120 : q120 = ((q113 + q113) - Z1)) (e122 : q122 = (Z1 - (-q120))) (e114 : q114 = (bck x1)) (c1 : ¬Z0 < x0) (c116 : Z0 < q113) (c118 : q113 < Z1) (c121 : q120 < Z0) (c123 : ¬q122 = Z0) (c129 : ¬q113 < q114) (c132 : q113 = q114) : ¬(x0 < x1) := by
  subst Y0 Y1 e113 e120 e122 e114
  have bi0 := bck_in x0
  have bh0 := bck_half x0
  have bi1 := bck_in x1
  have bh1 := bck_half x1
  have bm01 := bck_mono (a := x0) (b := x1)
  have bm10 := bck_mono (a := x1) (b := x0)
  grind

theorem WarpBack_al136 {Z0 Z1 : Rat} (Y0 : Z0 = (0 : Rat)) (Y1 : Z1 = (1 : Rat)) {x0 x1 q113 q120 q122 q114 : Rat} (e113 : q113 = (bck x0)) (e120 : q120 = ((q113 + q113) - Z1)) (e122 : q122 = (Z1 - (-q120))) (e114 : q114 = (bck x1)) (c1 : ¬Z0 < x0) (c116 : Z0 < q113) (c118 : q113 < Z1) (c121 : q120 < Z0) (c123 : ¬q122 = Z0) (c129 : ¬q113 < q114) (c132 : q113 = q114) (c133 : ¬x0 < x1) : (x0 = x1) := by
  subst Y0 Y1 e113 e120 e122 e114
  have bi0 := bck_in x0
  have bh0 := bck_half x0
  have bi1 := bck_in x1
  have bh1 := bck_half x1
  have bm01 := bck_mono (a := x0) (b := x1)
  have bm10 := bck_mono (a := x1) (b := x0)
  grind

theorem WarpBack_al138 {Z0 Z1 : Rat} (Y0 : Z0 = (0 : Rat)) (Y1 : Z1 = (1 : Rat)) {x0 x1 q113 q120 q122 q114 : Rat} (e113 : q113 = (bck x0)) (e120 : q120 = ((q113 + q113) - Z1)) (e122 : q122 = (Z1 - (-q120))) (e114 : q114 = (bck x1)) (c1 : ¬Z0 < x0) (c116 : Z0 < q113) (c118 : q113 < Z1) (c121 : q120 < Z0) (c123 : ¬q122 = Z0) (c129 : ¬q113 < q114) (c132 : ¬q113 = q114) : ¬(x0 < x1) := by
  subst Y0 Y1 e113 e120 e122 e114
  have bi0 := bck_in x0
  have bh0 := bck_half x0
  have bi1 := bck_in x1
  have bh1 := bck_half x1
  have bm01 := bck_mono (a := x0) (b := x1)
  have bm10 := bck_mono (a := x1) (b := x0)
  grind

theorem WarpBack_al140 {Z0 Z1 : Rat} (Y0 : Z0 = (0 : Rat)) (Y1 : Z1 = (1 : Rat)) {x0 x1 q113 q120 q122 q114 : Rat} (e113 : q113 = (bck x0)) (e120 : q120 = ((q113 + q113) - Z1)) (e122 : q122 = (Z1 - (-q120))) (e114 : q114 = (bck x1)) (c1 : ¬Z0 < x0) (c116 : Z0 < q113) (c118 : q113 < Z1) (c121 : q120 < Z0) (c123 : ¬q122 = Z0) (c129 : ¬q113 < q114) (c132 : ¬q113 = q114) (c137 : ¬x0 < x1) : ¬(x0 = x1) := by
  subst Y0 Y1 e113 e120 e122 e114
  have bi0 := bck_in x0
  have bh0 := bck_half x0
  have bi1 := bck_in x1
  have bh1 := bck_half x1
  have bm01 := bck_mono (a := x0) (b := x1)
  have bm10 := bck_mono (a := x1) (b := x0)
  grind

theorem WarpBack_al142 {Z0 Z1 : Rat} (Y0 : Z0 = (0 : Rat)) (Y1 : Z1 = (1 : Rat)) {q120 q113 x0 : Rat} (e113 : q113 = (bck x0)) (e120 : q120 = ((q113 + q113) - Z1)) (c1 : ¬Z0 < x0) (c116 : Z0 < q113) (c118 : q113 < Z1) (c121 : ¬q120 < Z0) : Z1 = (Z1 - q120) := by
  subst Y0 Y1 e113 e120
  have bi0 := bck_in x0
  have bh0 := bck_half x0
  rcases Rat.le_total (a := 0) (b := x0) with hx0 | hx0
  · obtain ⟨ux0, hux0, pux0, dux0, bux0⟩ := wd_p hx0
    first | grind | (have hz : x0 = 0 := (by grind); have e0 : bck x0 = 1 / 2 := (by rw [hz]; decide +kernel); grind)
  · obtain ⟨ux0, hux0, pux0, dux0, bux0⟩ := wd_n hx0
    first | grind | (have hz : x0 = 0 := (by grind); have e0 : bck x0 = 1 / 2 := (by rw [hz]; decide +kernel); grind)

theorem WarpBack_al144 {Z0 Z1 : Rat} (Y0 : Z0 = (0 : Rat)) (Y1 : Z1 = (1 : Rat)) {q120 q113 x0 : Rat} (e113 : q113 = (bck x0)) (e120 : q120 = ((q113 + q113) - Z1)) (c1 : ¬Z0 < x0) (c116 : Z0 < q113) (c118 : q113 < Z1) (c121 : ¬q120 < Z0) : Z0 = (q120 / Z1) := by
  subst Y0 Y1 e113 e120
  have bi0 := bck_in x0
  have bh0 := bck_half x0
  rcases Rat.le_total (a := 0) (b := x0) with hx0 | hx0
  · obtain ⟨ux0, hux0, pux0, dux0, bux0⟩ := wd_p hx0
    first | grind | (have hz : x0 = 0 := (by grind); have e0 : bck x0 = 1 / 2 := (by rw [hz]; decide +kernel); grind)
  · obtain ⟨ux0, hux0, pux0, dux0, bux0⟩ := wd_n hx0
    first | grind | (have hz : x0 = 0 := (by grind); have e0 : bck x0 = 1 / 2 := (by rw [hz]; decide +kernel); grind)

theorem WarpBack_al147 {Z0 Z1 : Rat} (Y0 : Z0 = (0 : Rat)) (Y1 : Z1 = (1 : Rat)) {x0 q113 q120 : Rat} (e113 : q113 = (bck x0)) (e120 : q120 = ((q113 + q113) - Z1)) (c1 : ¬Z0 < x0) (c116 : Z0 < q113) (c118 : q113 < Z1) (c121 : ¬q120 < Z0) : Z0 = x0 := by
  subst Y0 Y1 e113 e120
  have bi0 := bck_in x0
  have bh0 := bck_half x0
  rcases Rat.le_total (a := 0) (b := x0) with hx0 | hx0
  · obtain ⟨ux0, hux0, pux0, dux0, bux0⟩ := wd_p hx0
    first | grind | (have hz : x0 = 0 := (by grind); have e0 : bck x0 = 1 / 2 := (by rw [hz]; decide +kernel); grind)
  · obtain ⟨ux0, hux0, pux0, dux0, bux0⟩ := wd_n hx0
    first | grind | (have hz : x0 = 0 := (by grind); have e0 : bck x0 = 1 / 2 := (by rw [hz]; decide +kernel); grind)

theorem WarpBack_al152 {Z0 Z1 : Rat} (Y0 : Z0 = (0 : Rat)) (Y1 : Z1 = (1 : Rat)) {x0 x1 q113 q120 q114 : Rat} (e113 : q113 = (bck x0)) (e120 : q120 = ((q113 + q113) - Z1)) (e114 : q114 = (bck x1)) (c1 : ¬Z0 < x0) (c116 : Z0 < q113) (c118 : q113 < Z1) (c121 : ¬q120 < Z0) (c148 : Z0 = x0) (c150 : q113 < q114) : (x0 < x1) := by
  subst Y0 Y1 e113 e120 e114
  have bi0 := bck_in x0
  have bh0 := bck_half x0
  have bi1 := bck_in x1
  have bh1 := bck_half x1
  have bm01 := bck_mono (a := x0) (b := x1)
  have bm10 := bck_mono (a := x1) (b := x0)
  grind

theorem WarpBack_al155 {Z0 Z1 : Rat} (Y0 : Z0 = (0 : Rat)) (Y1 : Z1 = (1 : Rat)) {x0 x1 q113 q120 q114 : Rat} (e113 : q113 = (bck x0)) (e120 : q120 = ((q113 + q113) - Z1)) (e114 : q114 = (bck x1)) (c1 : ¬Z0 < x0) (c116 : Z0 < q113) (c118 : q113 < Z1) (c121 : ¬q120 < Z0) (c148 : Z0 = x0) (c150 : ¬q113 < q114) (c153 : q113 = q114) : ¬(x0 < x1) := by
  subst Y0 Y1 e113 e120 e114
  have bi0 := bck_in x0
  have bh0 := bck_half x0
  have bi1 := bck_in x1
  have bh1 := bck_half x1
  have bm01 := bck_mono (a := x0) (b := x1)
  have bm10 := bck_mono (a := x1) (b := x0)
  grind

theorem WarpBack_al157 {Z0 Z1 : Rat} (Y0 : Z0 = (0 : Rat)) (Y1 : Z1 = (1 : Rat)) {x0 x1 q113 q120 q114 : Rat} (e113 : q113 = (bck x0)) (e120 : q120 = ((q113 + q113) - Z1)) (e114 : q114 = (bck x1)) (c1 : ¬Z0 < x0) (c116 : Z0 < q113) (c118 : q113 < Z1) (c121 : ¬q120 < Z0) (c148 : Z0 = x0) (c150 : ¬q113 < q114) (c153 : q113 = q114) (c154 : ¬x0 < x1) : (x0 = x1) := by
  subst Y0 Y1 e113 e120 e114
  have bi0 := bck_in x0
  have bh0 := bck_half x0
  have bi1 := bck_in x1
  have bh1 := bck_half x1
  have bm01 := bck_mono (a := x0) (b := x1)
  have bm10 := bck_mono (a := x1) (b := x0)
  grind

theorem WarpBack_al159 {Z0 Z1 : Rat} (Y0 : Z0 = (0 : Rat)) (Y1 : Z1 = (1 : Rat)) {x0 x1 q113 q120 q114 : Rat} (e113 : q113 = (bck x0)) (e120 : q120 = ((q113 + q113) - Z1)) (e114 : q114 = (bck x1)) (c1 : ¬Z0 < x0) (c116 : Z0 < q113) (c118 : q113 < Z1) (c121 : ¬q120 < Z0) (c148 : Z0 = x0) (c150 : ¬q113 < q114) (c153 : ¬q113 = q114) : ¬(x0 < x1) := by
  subst Y0 Y1 e113 e120 e114
  have bi0 := bck_in x0
  have bh0 := bck_half x0
  have bi1 := bck_in x1
  have bh1 := bck_half x1
  have bm01 := bck_mono (a := x0) (b := x1)
  have bm10 := bck_mono (a := x1) (b := x0)
  grind

theorem WarpBack_al161 {Z0 Z1 : Rat} (Y0 : Z0 = (0 : Rat)) (Y1 : Z1 = (1 : Rat)) {x0 x1 q113 q120 q114 : Rat} (e113 : q113 = (bck x0)) (e120 : q120 = ((q113 + q113) - Z1)) (e114 : q114 = (bck x1)) (c1 : ¬Z0 < x0) (c116 : Z0 < q113) (c118 : q113 < Z1) (c121 : ¬q120 < Z0) (c148 : Z0 = x0) (c150 : ¬q113 < q114) (c153 : ¬q113 = q114) (c158 : ¬x0 < x1) : ¬(x0 = x1) := by
  subst Y0 Y1 e113 e120 e114
  have bi0 := bck_in x0
  have bh0 := bck_half x0
  have bi1 := bck_in x1
  have bh1 := bck_half x1
  have bm01 := bck_mono (a := x0) (b := x1)
  have bm10 := bck_mono (a := x1) (b := x0)
  grind

theorem pure_WarpBack {r0 r1 : RR} (g0 : r0.ok 1048576) (g1 : r1.ok 1048576) : PureCalls prog F.penumbralaw14_WarpBack [.agg ([.bool r0.neg, nl r0.num, nl r0.den]), .agg ([.bool r1.neg, nl r1.num, nl r1.den])] [.one (.bool true)] := by
  obtain ⟨Z0, Y0⟩ := ex_eq (0 : Rat)
  obtain ⟨Z1, Y1⟩ := ex_eq (1 : Rat)
  obtain ⟨x0, h0⟩ := Num.raw g0 (by decide)
  obtain ⟨x1, h1⟩ := Num.raw g1 (by decide)
  refine symFunc_sound hmix tree_penumbralaw14_WarpBack (by kernel_rfl) rfl ?_
  unfold ir_penumbralaw14_WarpBack
  simp only [fa_agg, fa_one, fa_nil, List.cons_append, List.nil_append, List.append_nil]
  by_cases c1 : Z0 < x0
  · skip
    by_cases c2 : x0 < Z1
    · skip
      obtain ⟨q3, e3⟩ := ex_eq ((x0 + x0) - Z1)
      by_cases c4 : q3 < Z0
      · skip
        obtain ⟨q5, e5⟩ := ex_eq (Z1 - (-q3))
        have c6 : ¬(q5 = Z0) := (WarpBack_al7 Y0 Y1 e3 e5 c1 c2 c4)
        obtain ⟨q8, e8⟩ := ex_eq (q3 / q5)
        have d8 := div_mul Y0 e8 c6
        refine call_step (n_warp_Line_1 (k0 := q3) (k1 := q5) (k2 := q8) Y0 Y1 (h0.mono (by decide)) e3 e5 e8 c1 c2 c4 c6) rfl ?_
        simp only [fa_agg, fa_one, fa_nil, List.cons_append, List.nil_append, List.append_nil]
        refine call_step (n_rat_Sign (h0.mono (by decide))) rfl ?_
        simp only [fa_agg, fa_one, fa_nil, List.cons_append, List.nil_append, List.append_nil]
        refine primS (.bool true) (cs_gtr_t ((sg_gt Y0).2 c1)) ?_
        refine itT rfl ?_
        refine call_step (n_rat_Of (1) (1) (by decide) (by decide) (by decide) (by decide) (Y1.trans (by decide +kernel))) rfl ?_
        simp only [fa_agg, fa_one, fa_nil, List.cons_append, List.nil_append, List.append_nil]
        have m9 : Num 1 (cr Z1) Z1 := Num.c Y1 (by decide +kernel) (by decide +kernel)
        refine call_step (n_rat_Cmp (h0.mono (by decide)) (m9.mono (by decide))) rfl ?_
        simp only [fa_agg, fa_one, fa_nil, List.cons_append, List.nil_append, List.append_nil]
        refine primS (.bool true) (cs_lss_t (cq_lt.2 c2)) ?_
        refine call_step n_penumbralaw14_fixed rfl ?_
        simp only [fa_agg, fa_one, fa_nil, List.cons_append, List.nil_append, List.append_nil]
        refine primS (.bool false) rfl ?_
        refine itF rfl ?_
        refine primS (.bool false) rfl ?_
        refine itF rfl ?_
        refine itT rfl ?_
        have m11 : Num 2097155 (cr q3) q3 := Num.eqn e3 (Sm.sub (Sm.add h0.sm h0.sm) m9.sm)
        have m12 : Num 2097157 (cr q5) q5 := Num.eqn e5 (Sm.sub m9.sm (Sm.neg m11.sm))
        have m10 : Num 4194312 (cr q8) q8 := Num.eqn e8 (Sm.div m11.sm m12.sm)
        have u13 : x0 = (bck q8) := (WarpBack_al14 Y0 Y1 e3 e5 d8 c1 c2 c4 c6)
        refine call_step (n_warp_Back (k0 := x0) (m10.mono (by decide)) u13) rfl ?_
        simp only [fa_agg, fa_one, fa_nil, List.cons_append, List.nil_append, List.append_nil]
        refine call_step (n_rat_Read (h0.mono (by decide))) rfl ?_
        simp only [fa_agg, fa_one, fa_nil, List.cons_append, List.nil_append, List.append_nil]
        have m15 : Num 1048576 (cr x0) x0 := Num.of h0.sm
        refine call_step (n_penumbraref03_Is_t (m15.mono (by decide)) (m15.mono (by decide)) rfl) rfl ?_
        simp only [fa_agg, fa_one, fa_nil, List.cons_append, List.nil_append, List.append_nil]
        refine primS (.bool false) rfl ?_
        refine itF rfl ?_
        obtain ⟨q16, e16⟩ := ex_eq (bck x0)
        refine call_step (n_warp_Back (k0 := q16) (h0.mono (by decide)) e16) rfl ?_
        simp only [fa_agg, fa_one, fa_nil, List.cons_append, List.nil_append, List.append_nil]
        obtain ⟨q17, e17⟩ := ex_eq (bck x1)
        refine call_step (n_warp_Back (k0 := q17) (h1.mono (by decide)) e17) rfl ?_
        simp only [fa_agg, fa_one, fa_nil, List.cons_append, List.nil_append, List.append_nil]
        have m18 : Num 6291468 (cr q16) q16 := Num.eqn e16 (Sm.bck h0.sm)
        have c19 : (Z0 < q16) := (WarpBack_al20 Y0 Y1 e16 e3 e5 c1 c2 c4 c6)
        have c21 : (q16 < Z1) := (WarpBack_al22 Y0 Y1 e16 e3 e5 c1 c2 c4 c6 c19)
        obtain ⟨q23, e23⟩ := ex_eq ((q16 + q16) - Z1)
        have c24 : ¬(q23 < Z0) := (WarpBack_al25 Y0 Y1 e16 e23 e3 e5 c1 c2 c4 c6 c19 c21)
        obtain ⟨q26, e26⟩ := ex_eq (Z1 - q23)
        have c27 : ¬(q26 = Z0) := (WarpBack_al28 Y0 Y1 e16 e23 e26 e3 e5 c1 c2 c4 c6 c19 c21 c24)
        have u29 : x0 = (q23 / q26) := (WarpBack_al30 Y0 Y1 e16 e23 e26 e3 e5 c1 c2 c4 c6 c19 c21 c24 c27)
        refine call_step (n_warp_Line_3 (k0 := q23) (k1 := q26) (k2 := x0) Y0 Y1 (m18.mono (by decide)) e23 e26 u29 c19 c21 c24 c27) rfl ?_
        simp only [fa_agg, fa_one, fa_nil, List.cons_append, List.nil_append, List.append_nil]
        refine itT rfl ?_
        refine call_step (n_rat_Read (h0.mono (by decide))) rfl ?_
        simp only [fa_agg, fa_one, fa_nil, List.cons_append, List.nil_append, List.append_nil]
        refine call_step (n_penumbraref03_Is_t (m15.mono (by decide)) (m15.mono (by decide)) rfl) rfl ?_
        simp only [fa_agg, fa_one, fa_nil, List.cons_append, List.nil_append, List.append_nil]
        refine itT rfl ?_
        have m31 : Num 6291468 (cr q17) q17 := Num.eqn e17 (Sm.bck h1.sm)
        refine call_step (n_rat_Cmp (m18.mono (by decide)) (m31.mono (by decide))) rfl ?_
        simp only [fa_agg, fa_one, fa_nil, List.cons_append, List.nil_append, List.append_nil]
        refine call_step (n_rat_Cmp (h0.mono (by decide)) (h1.mono (by decide))) rfl ?_
        simp only [fa_agg, fa_one, fa_nil, List.cons_append, List.nil_append, List.append_nil]
        by_cases c32 : q16 < q17
        · skip
          have c33 : (x0 < x1) := (WarpBack_al34 Y0 Y1 e3 e5 e16 e23 e26 e17 c1 c2 c4 c6 c19 c21 c24 c27 c32)
          refine primS (.bool true) (ii_eql (cmp_m c32) (cmp_m c33) rfl) ?_
          exact ret_step rfl
        · skip
          by_cases c35 : q16 = q17
          · skip
            have c36 : ¬(x0 < x1) := (WarpBack_al37 Y0 Y1 e3 e5 e16 e23 e26 e17 c1 c2 c4 c6 c19 c21 c24 c27 c32 c35)
            have c38 : (x0 = x1) := (WarpBack_al39 Y0 Y1 e3 e5 e16 e23 e26 e17 c1 c2 c4 c6 c19 c21 c24 c27 c32 c35 c36)
            refine primS (.bool true) (ii_eql (cmp_z c35) (cmp_z c38) rfl) ?_
            exact ret_step rfl
          · skip
            have c40 : ¬(x0 < x1) := (WarpBack_al41 Y0 Y1 e3 e5 e16 e23 e26 e17 c1 c2 c4 c6 c19 c21 c24 c27 c32 c35)
            have c42 : ¬(x0 = x1) := (WarpBack_al43 Y0 Y1 e3 e5 e16 e23 e26 e17 c1 c2 c4 c6 c19 c21 c24 c27 c32 c35 c40)
            refine primS (.bool true) (ii_eql (cmp_p c32 c35) (cmp_p c40 c42) rfl) ?_
            exact ret_step rfl
      · skip
        obtain ⟨q44, e44⟩ := ex_eq (Z1 - q3)
        have c45 : ¬(q44 = Z0) := (WarpBack_al46 Y0 Y1 e3 e44 c1 c2 c4)
        obtain ⟨q47, e47⟩ := ex_eq (q3 / q44)
        have d47 := div_mul Y0 e47 c45
        refine call_step (n_warp_Line_3 (k0 := q3) (k1 := q44) (k2 := q47) Y0 Y1 (h0.mono (by decide)) e3 e44 e47 c1 c2 c4 c45) rfl ?_
        simp only [fa_agg, fa_one, fa_nil, List.cons_append, List.nil_append, List.append_nil]
        refine call_step (n_rat_Sign (h0.mono (by decide))) rfl ?_
        simp only [fa_agg, fa_one, fa_nil, List.cons_append, List.nil_append, List.append_nil]
        refine primS (.bool true) (cs_gtr_t ((sg_gt Y0).2 c1)) ?_
        refine itT rfl ?_
        refine call_step (n_rat_Of (1) (1) (by decide) (by decide) (by decide) (by decide) (Y1.trans (by decide +kernel))) rfl ?_
        simp only [fa_agg, fa_one, fa_nil, List.cons_append, List.nil_append, List.append_nil]
        have m48 : Num 1 (cr Z1) Z1 := Num.c Y1 (by decide +kernel) (by decide +kernel)
        refine call_step (n_rat_Cmp (h0.mono (by decide)) (m48.mono (by decide))) rfl ?_
        simp only [fa_agg, fa_one, fa_nil, List.cons_append, List.nil_append, List.append_nil]
        refine primS (.bool true) (cs_lss_t (cq_lt.2 c2)) ?_
        refine call_step n_penumbralaw14_fixed rfl ?_
        simp only [fa_agg, fa_one, fa_nil, List.cons_append, List.nil_append, List.append_nil]
        refine primS (.bool false) rfl ?_
        refine itF rfl ?_
        refine primS (.bool false) rfl ?_
        refine itF rfl ?_
        refine itT rfl ?_
        have m50 : Num 2097155 (cr q3) q3 := Num.eqn e3 (Sm.sub (Sm.add h0.sm h0.sm) m48.sm)
        have m51 : Num 2097157 (cr q44) q44 := Num.eqn e44 (Sm.sub m48.sm m50.sm)
        have m49 : Num 4194312 (cr q47) q47 := Num.eqn e47 (Sm.div m50.sm m51.sm)
        have u52 : x0 = (bck q47) := (WarpBack_al53 Y0 Y1 e3 e44 d47 c1 c2 c4 c45)
        refine call_step (n_warp_Back (k0 := x0) (m49.mono (by decide)) u52) rfl ?_
        simp only [fa_agg, fa_one, fa_nil, List.cons_append, List.nil_append, List.append_nil]
        refine call_step (n_rat_Read (h0.mono (by decide))) rfl ?_
        simp only [fa_agg, fa_one, fa_nil, List.cons_append, List.nil_append, List.append_nil]
        have m54 : Num 1048576 (cr x0) x0 := Num.of h0.sm
        refine call_step (n_penumbraref03_Is_t (m54.mono (by decide)) (m54.mono (by decide)) rfl) rfl ?_
        simp only [fa_agg, fa_one, fa_nil, List.cons_append, List.nil_append, List.append_nil]
        refine primS (.bool false) rfl ?_
        refine itF rfl ?_
        obtain ⟨q55, e55⟩ := ex_eq (bck x0)
        refine call_step (n_warp_Back (k0 := q55) (h0.mono (by decide)) e55) rfl ?_
        simp only [fa_agg, fa_one, fa_nil, List.cons_append, List.nil_append, List.append_nil]
        obtain ⟨q56, e56⟩ := ex_eq (bck x1)
        refine call_step (n_warp_Back (k0 := q56) (h1.mono (by decide)) e56) rfl ?_
        simp only [fa_agg, fa_one, fa_nil, List.cons_append, List.nil_append, List.append_nil]
        have m57 : Num 6291468 (cr q55) q55 := Num.eqn e55 (Sm.bck h0.sm)
        have c58 : (Z0 < q55) := (WarpBack_al59 Y0 Y1 e55 e3 e44 c1 c2 c4 c45)
        have c60 : (q55 < Z1) := (WarpBack_al61 Y0 Y1 e55 e3 e44 c1 c2 c4 c45 c58)
        obtain ⟨q62, e62⟩ := ex_eq ((q55 + q55) - Z1)
        have c63 : ¬(q62 < Z0) := (WarpBack_al64 Y0 Y1 e55 e62 e3 e44 c1 c2 c4 c45 c58 c60)
        obtain ⟨q65, e65⟩ := ex_eq (Z1 - q62)
        have c66 : ¬(q65 = Z0) := (WarpBack_al67 Y0 Y1 e55 e62 e65 e3 e44 c1 c2 c4 c45 c58 c60 c63)
        have u68 : x0 = (q62 / q65) := (WarpBack_al69 Y0 Y1 e55 e62 e65 e3 e44 c1 c2 c4 c45 c58 c60 c63 c66)
        refine call_step (n_warp_Line_3 (k0 := q62) (k1 := q65) (k2 := x0) Y0 Y1 (m57.mono (by decide)) e62 e65 u68 c58 c60 c63 c66) rfl ?_
        simp only [fa_agg, fa_one, fa_nil, List.cons_append, List.nil_append, List.append_nil]
        refine itT rfl ?_
        refine call_step (n_rat_Read (h0.mono (by decide))) rfl ?_
        simp only [fa_agg, fa_one, fa_nil, List.cons_append, List.nil_append, List.append_nil]
        refine call_step (n_penumbraref03_Is_t (m54.mono (by decide)) (m54.mono (by decide)) rfl) rfl ?_
        simp only [fa_agg, fa_one, fa_nil, List.cons_append, List.nil_append, List.append_nil]
        refine itT rfl ?_
        have m70 : Num 6291468 (cr q56) q56 := Num.eqn e56 (Sm.bck h1.sm)
        refine call_step (n_rat_Cmp (m57.mono (by decide)) (m70.mono (by decide))) rfl ?_
        simp only [fa_agg, fa_one, fa_nil, List.cons_append, List.nil_append, List.append_nil]
        refine call_step (n_rat_Cmp (h0.mono (by decide)) (h1.mono (by decide))) rfl ?_
        simp only [fa_agg, fa_one, fa_nil, List.cons_append, List.nil_append, List.append_nil]
        by_cases c71 : q55 < q56
        · skip
          have c72 : (x0 < x1) := (WarpBack_al73 Y0 Y1 e3 e44 e55 e62 e65 e56 c1 c2 c4 c45 c58 c60 c63 c66 c71)
          refine primS (.bool true) (ii_eql (cmp_m c71) (cmp_m c72) rfl) ?_
          exact ret_step rfl
        · skip
          by_cases c74 : q55 = q56
          · skip
            have c75 : ¬(x0 < x1) := (WarpBack_al76 Y0 Y1 e3 e44 e55 e62 e65 e56 c1 c2 c4 c45 c58 c60 c63 c66 c71 c74)
            have c77 : (x0 = x1) := (WarpBack_al78 Y0 Y1 e3 e44 e55 e62 e65 e56 c1 c2 c4 c45 c58 c60 c63 c66 c71 c74 c75)
            refine primS (.bool true) (ii_eql (cmp_z c74) (cmp_z c77) rfl) ?_
            exact ret_step rfl
          · skip
            have c79 : ¬(x0 < x1) := (WarpBack_al80 Y0 Y1 e3 e44 e55 e62 e65 e56 c1 c2 c4 c45 c58 c60 c63 c66 c71 c74)
            have c81 : ¬(x0 = x1) := (WarpBack_al82 Y0 Y1 e3 e44 e55 e62 e65 e56 c1 c2 c4 c45 c58 c60 c63 c66 c71 c74 c79)
            refine primS (.bool true) (ii_eql (cmp_p c71 c74) (cmp_p c79 c81) rfl) ?_
            exact ret_step rfl
    · skip
      refine call_step (n_warp_Line_4 Y0 Y1 (h0.mono (by decide)) c1 c2) rfl ?_
      simp only [fa_agg, fa_one, fa_nil, List.cons_append, List.nil_append, List.append_nil]
      refine call_step (n_rat_Sign (h0.mono (by decide))) rfl ?_
      simp only [fa_agg, fa_one, fa_nil, List.cons_append, List.nil_append, List.append_nil]
      refine primS (.bool true) (cs_gtr_t ((sg_gt Y0).2 c1)) ?_
      refine itT rfl ?_
      refine call_step (n_rat_Of (1) (1) (by decide) (by decide) (by decide) (by decide) (Y1.trans (by decide +kernel))) rfl ?_
      simp only [fa_agg, fa_one, fa_nil, List.cons_append, List.nil_append, List.append_nil]
      have m83 : Num 1 (cr Z1) Z1 := Num.c Y1 (by decide +kernel) (by decide +kernel)
      refine call_step (n_rat_Cmp (h0.mono (by decide)) (m83.mono (by decide))) rfl ?_
      simp only [fa_agg, fa_one, fa_nil, List.cons_append, List.nil_append, List.append_nil]
      refine primS (.bool false) (cs_lss_f (fun z => c2 (cq_lt.1 z))) ?_
      refine call_step n_penumbralaw14_fixed rfl ?_
      simp only [fa_agg, fa_one, fa_nil, List.cons_append, List.nil_append, List.append_nil]
      refine primS (.bool false) rfl ?_
      refine itF rfl ?_
      refine primS (.bool false) rfl ?_
      refine itF rfl ?_
      refine itF rfl ?_
      obtain ⟨q84, e84⟩ := ex_eq (bck x0)
      refine call_step (n_warp_Back (k0 := q84) (h0.mono (by decide)) e84) rfl ?_
      simp only [fa_agg, fa_one, fa_nil, List.cons_append, List.nil_append, List.append_nil]
      obtain ⟨q85, e85⟩ := ex_eq (bck x1)
      refine call_step (n_warp_Back (k0 := q85) (h1.mono (by decide)) e85) rfl ?_
      simp only [fa_agg, fa_one, fa_nil, List.cons_append, List.nil_append, List.append_nil]
      have m86 : Num 6291468 (cr q84) q84 := Num.eqn e84 (Sm.bck h0.sm)
      have c87 : (Z0 < q84) := (WarpBack_al88 Y0 Y1 e84 c1 c2)
      have c89 : (q84 < Z1) := (WarpBack_al90 Y0 Y1 e84 c1 c2 c87)
      obtain ⟨q91, e91⟩ := ex_eq ((q84 + q84) - Z1)
      have c92 : ¬(q91 < Z0) := (WarpBack_al93 Y0 Y1 e84 e91 c1 c2 c87 c89)
      obtain ⟨q94, e94⟩ := ex_eq (Z1 - q91)
      have c95 : ¬(q94 = Z0) := (WarpBack_al96 Y0 Y1 e84 e91 e94 c1 c2 c87 c89 c92)
      have u97 : x0 = (q91 / q94) := (WarpBack_al98 Y0 Y1 e84 e91 e94 c1 c2 c87 c89 c92 c95)
      refine call_step (n_warp_Line_3 (k0 := q91) (k1 := q94) (k2 := x0) Y0 Y1 (m86.mono (by decide)) e91 e94 u97 c87 c89 c92 c95) rfl ?_
      simp only [fa_agg, fa_one, fa_nil, List.cons_append, List.nil_append, List.append_nil]
      refine itT rfl ?_
      refine call_step (n_rat_Read (h0.mono (by decide))) rfl ?_
      simp only [fa_agg, fa_one, fa_nil, List.cons_append, List.nil_append, List.append_nil]
      have m99 : Num 1048576 (cr x0) x0 := Num.of h0.sm
      refine call_step (n_penumbraref03_Is_t (m99.mono (by decide)) (m99.mono (by decide)) rfl) rfl ?_
      simp only [fa_agg, fa_one, fa_nil, List.cons_append, List.nil_append, List.append_nil]
      refine itT rfl ?_
      have m100 : Num 6291468 (cr q85) q85 := Num.eqn e85 (Sm.bck h1.sm)
      refine call_step (n_rat_Cmp (m86.mono (by decide)) (m100.mono (by decide))) rfl ?_
      simp only [fa_agg, fa_one, fa_nil, List.cons_append, List.nil_append, List.append_nil]
      refine call_step (n_rat_Cmp (h0.mono (by decide)) (h1.mono (by decide))) rfl ?_
      simp only [fa_agg, fa_one, fa_nil, List.cons_append, List.nil_append, List.append_nil]
      by_cases c101 : q84 < q85
      · skip
        have c102 : (x0 < x1) := (WarpBack_al103 Y0 Y1 e84 e91 e94 e85 c1 c2 c87 c89 c92 c95 c101)
        refine primS (.bool true) (ii_eql (cmp_m c101) (cmp_m c102) rfl) ?_
        exact ret_step rfl
      · skip
        by_cases c104 : q84 = q85
        · skip
          have c105 : ¬(x0 < x1) := (WarpBack_al106 Y0 Y1 e84 e91 e94 e85 c1 c2 c87 c89 c92 c95 c101 c104)
          have c107 : (x0 = x1) := (WarpBack_al108 Y0 Y1 e84 e91 e94 e85 c1 c2 c87 c89 c92 c95 c101 c104 c105)
          refine primS (.bool true) (ii_eql (cmp_z c104) (cmp_z c107) rfl) ?_
          exact ret_step rfl
        · skip
          have c109 : ¬(x0 < x1) := (WarpBack_al110 Y0 Y1 e84 e91 e94 e85 c1 c2 c87 c89 c92 c95 c101 c104)
          have c111 : ¬(x0 = x1) := (WarpBack_al112 Y0 Y1 e84 e91 e94 e85 c1 c2 c87 c89 c92 c95 c101 c104 c109)
          refine primS (.bool true) (ii_eql (cmp_p c101 c104) (cmp_p c109 c111) rfl) ?_
          exact ret_step rfl
  · skip
    refine call_step (n_warp_Line_5 Y0 (h0.mono (by decide)) c1) rfl ?_
    simp only [fa_agg, fa_one, fa_nil, List.cons_append, List.nil_append, List.append_nil]
    refine call_step (n_rat_Sign (h0.mono (by decide))) rfl ?_
    simp only [fa_agg, fa_one, fa_nil, List.cons_append, List.nil_append, List.append_nil]
    refine primS (.bool false) (cs_gtr_f (fun z => c1 ((sg_gt Y0).1 z))) ?_
    refine itF rfl ?_
    refine call_step n_penumbralaw14_fixed rfl ?_
    simp only [fa_agg, fa_one, fa_nil, List.cons_append, List.nil_append, List.append_nil]
    refine primS (.bool false) rfl ?_
    refine itF rfl ?_
    refine primS (.bool false) rfl ?_
    refine itF rfl ?_
    refine itF rfl ?_
    obtain ⟨q113, e113⟩ := ex_eq (bck x0)
    refine call_step (n_warp_Back (k0 := q113) (h0.mono (by decide)) e113) rfl ?_
    simp only [fa_agg, fa_one, fa_nil, List.cons_append, List.nil_append, List.append_nil]
    obtain ⟨q114, e114⟩ := ex_eq (bck x1)
    refine call_step (n_warp_Back (k0 := q114) (h1.mono (by decide)) e114) rfl ?_
    simp only [fa_agg, fa_one, fa_nil, List.cons_append, List.nil_append, List.append_nil]
    have m115 : Num 6291468 (cr q113) q113 := Num.eqn e113 (Sm.bck h0.sm)
    have c116 : (Z0 < q113) := (WarpBack_al117 Y0 e113 c1)
    have c118 : (q113 < Z1) := (WarpBack_al119 Y0 Y1 e113 c1 c116)
    obtain ⟨q120, e120⟩ := ex_eq ((q113 + q113) - Z1)
    by_cases c121 : q120 < Z0
    · skip
      obtain ⟨q122, e122⟩ := ex_eq (Z1 - (-q120))
      have c123 : ¬(q122 = Z0) := (WarpBack_al124 Y0 Y1 e113 e120 e122 c1 c116 c118 c121)
      have u125 : x0 = (q120 / q122) := (WarpBack_al126 Y0 Y1 e113 e120 e122 c1 c116 c118 c121 c123)
      refine call_step (n_warp_Line_1 (k0 := q120) (k1 := q122) (k2 := x0) Y0 Y1 (m115.mono (by decide)) e120 e122 u125 c116 c118 c121 c123) rfl ?_
      simp only [fa_agg, fa_one, fa_nil, List.cons_append, List.nil_append, List.append_nil]
      refine itT rfl ?_
      refine call_step (n_rat_Read (h0.mono (by decide))) rfl ?_
      simp only [fa_agg, fa_one, fa_nil, List.cons_append, List.nil_append, List.append_nil]
      have m127 : Num 1048576 (cr x0) x0 := Num.of h0.sm
      refine call_step (n_penumbraref03_Is_t (m127.mono (by decide)) (m127.mono (by decide)) rfl) rfl ?_
      simp only [fa_agg, fa_one, fa_nil, List.cons_append, List.nil_append, List.append_nil]
      refine itT rfl ?_
      have m128 : Num 6291468 (cr q114) q114 := Num.eqn e114 (Sm.bck h1.sm)
      refine call_step (n_rat_Cmp (m115.mono (by decide)) (m128.mono (by decide))) rfl ?_
      simp only [fa_agg, fa_one, fa_nil, List.cons_append, List.nil_append, List.append_nil]
      refine call_step (n_rat_Cmp (h0.mono (by decide)) (h1.mono (by decide))) rfl ?_
      simp only [fa_agg, fa_one, fa_nil, List.cons_append, List.nil_append, List.append_nil]
      by_cases c129 : q113 < q114
      · skip
        have c130 : (x0 < x1) := (WarpBack_al131 Y0 Y1 e113 e120 e122 e114 c1 c116 c118 c121 c123 c129)
        refine primS (.bool true) (ii_eql (cmp_m c129) (cmp_m c130) rfl) ?_
        exact ret_step rfl
      · skip
        by_cases c132 : q113 = q114
        · skip
          have c133 : ¬(x0 < x1) := (WarpBack_al134 Y0 Y1 e113 e120 e122 e114 c1 c116 c118 c121 c123 c129 c132)
          have c135 : (x0 = x1) := (WarpBack_al136 Y0 Y1 e113 e120 e122 e114 c1 c116 c118 c121 c123 c129 c132 c133)
          refine primS (.bool true) (ii_eql (cmp_z c132) (cmp_z c135) rfl) ?_
          exact ret_step rfl
        · skip
          have c137 : ¬(x0 < x1) := (WarpBack_al138 Y0 Y1 e113 e120 e122 e114 c1 c116 c118 c121 c123 c129 c132)
          have c139 : ¬(x0 = x1) := (WarpBack_al140 Y0 Y1 e113 e120 e122 e114 c1 c116 c118 c121 c123 c129 c132 c137)
          refine primS (.bool true) (ii_eql (cmp_p c129 c132) (cmp_p c137 c139) rfl) ?_
          exact ret_step rfl
    · skip
      have u141 : Z1 = (Z1 - q120) := (WarpBack_al142 Y0 Y1 e113 e120 c1 c116 c118 c121)
      have u143 : Z0 = (q120 / Z1) := (WarpBack_al144 Y0 Y1 e113 e120 c1 c116 c118 c121)
      refine call_step (n_warp_Line_3 (k0 := q120) (k1 := Z1) (k2 := Z0) Y0 Y1 (m115.mono (by decide)) e120 u141 u143 c116 c118 c121 (show ¬(Z1 = Z0) by rw [Y1, Y0] <;> decide +kernel)) rfl ?_
      simp only [fa_agg, fa_one, fa_nil, List.cons_append, List.nil_append, List.append_nil]
      refine itT rfl ?_
      refine call_step (n_rat_Read (h0.mono (by decide))) rfl ?_
      simp only [fa_agg, fa_one, fa_nil, List.cons_append, List.nil_append, List.append_nil]
      have m145 : Num 1 (cr Z0) Z0 := Num.c Y0 (by decide +kernel) (by decide +kernel)
      have m146 : Num 1048576 (cr x0) x0 := Num.of h0.sm
      have c148 : Z0 = x0 := (WarpBack_al147 Y0 Y1 e113 e120 c1 c116 c118 c121)
      refine call_step (n_penumbraref03_Is_t (m145.mono (by decide)) (m146.mono (by decide)) c148) rfl ?_
      simp only [fa_agg, fa_one, fa_nil, List.cons_append, List.nil_append, List.append_nil]
      refine itT rfl ?_
      have m149 : Num 6291468 (cr q114) q114 := Num.eqn e114 (Sm.bck h1.sm)
      refine call_step (n_rat_Cmp (m115.mono (by decide)) (m149.mono (by decide))) rfl ?_
      simp only [fa_agg, fa_one, fa_nil, List.cons_append, List.nil_append, List.append_nil]
      refine call_step (n_rat_Cmp (h0.mono (by decide)) (h1.mono (by decide))) rfl ?_
      simp only [fa_agg, fa_one, fa_nil, List.cons_append, List.nil_append, List.append_nil]
      by_cases c150 : q113 < q114
      · skip
        have c151 : (x0 < x1) := (WarpBack_al152 Y0 Y1 e113 e120 e114 c1 c116 c118 c121 c148 c150)
        refine primS (.bool true) (ii_eql (cmp_m c150) (cmp_m c151) rfl) ?_
        exact ret_step rfl
      · skip
        by_cases c153 : q113 = q114
        · skip
          have c154 : ¬(x0 < x1) := (WarpBack_al155 Y0 Y1 e113 e120 e114 c1 c116 c118 c121 c148 c150 c153)
          have c156 : (x0 = x1) := (WarpBack_al157 Y0 Y1 e113 e120 e114 c1 c116 c118 c121 c148 c150 c153 c154)
          refine primS (.bool true) (ii_eql (cmp_z c153) (cmp_z c156) rfl) ?_
          exact ret_step rfl
        · skip
          have c158 : ¬(x0 < x1) := (WarpBack_al159 Y0 Y1 e113 e120 e114 c1 c116 c118 c121 c148 c150 c153)
          have c160 : ¬(x0 = x1) := (WarpBack_al161 Y0 Y1 e113 e120 e114 c1 c116 c118 c121 c148 c150 c153 c158)
          refine primS (.bool true) (ii_eql (cmp_p c150 c153) (cmp_p c158 c160) rfl) ?_
          exact ret_step rfl

end Go.Px.Na

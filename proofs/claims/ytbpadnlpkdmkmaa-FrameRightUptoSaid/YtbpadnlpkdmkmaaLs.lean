/- Ls: the signs of products, quotients and sums. -/
import Derived.Test.YtbpadnlpkdmkmaaLq
set_option linter.unusedVariables false
set_option linter.unusedSimpArgs false
namespace Go.Px.Na

/-- How dense slopes lie. -/
def dns (x : Rat) : Rat := (1 / 2) / ((1 + x.abs) * (1 + x.abs))
theorem abs_nn (x : Rat) : 0 ≤ x.abs := by
  rcases Rat.le_total (a := 0) (b := x) with h | h
  · rw [Rat.abs_of_nonneg h]; exact h
  · rw [Rat.abs_of_nonpos h]; grind
theorem dns_ne {Z0 Z1 x : Rat} (y : Z0 = 0) (z : Z1 = 1) : ¬(Z1 + x.abs) * (Z1 + x.abs) = Z0 := by
  subst y z
  intro h
  have := abs_nn x
  rcases Rat.mul_eq_zero.1 h with h | h <;> grind
theorem dns_ne2 {Z0 Z1 Z2 x : Rat} (w : Z2 = 2) (y : Z0 = 0) (z : Z1 = 1) : ¬Z2 * ((Z1 + x.abs) * (Z1 + x.abs)) = Z0 := by
  subst w
  intro h
  rcases Rat.mul_eq_zero.1 (y ▸ h) with h | h
  · exact absurd h (by decide)
  · exact dns_ne y z (h.trans y.symm)
theorem dns_eq {Z1 Z1_2 x : Rat} (z : Z1 = 1) (w : Z1_2 = 1 / 2) : dns x = Z1_2 / ((Z1 + x.abs) * (Z1 + x.abs)) := by subst z w; rfl
theorem dns_eq2 {Z1 Z2 x : Rat} (w : Z2 = 2) (z : Z1 = 1) : dns x = Z1 / (Z2 * ((Z1 + x.abs) * (Z1 + x.abs))) := by
  subst z w
  have h := dns_ne (x := x) (Z0 := 0) (Z1 := 1) rfl rfl
  unfold dns
  generalize (1 + x.abs) * (1 + x.abs) = t at h ⊢
  grind
theorem dns_pos {Z0 q x : Rat} (y : Z0 = 0) (e : q = dns x) : Z0 < q := by
  subst y e
  have h := abs_nn x
  have h1 : (0 : Rat) < (1 + x.abs) * (1 + x.abs) := Rat.mul_pos (by grind) (by grind)
  unfold dns
  rw [Rat.div_def]
  exact Rat.mul_pos (by decide +kernel) (Rat.inv_pos.2 h1)
theorem Sm.dns {L : Nat} {x : Rat} (h : Sm L x) : Sm (3 * (2 * L + 4)) (dns x) := by
  have s1 : Sm 1 (1 : Rat) := Sm1
  have s2 : Sm 1 (1 / 2 : Rat) := ⟨limbs_len (by decide +kernel), limbs_len (by decide +kernel)⟩
  exact (s2.div ((s1.add h.abs).mul (s1.add h.abs))).mono (by omega)

theorem s_mul_pp {Z0 q a b : Rat} (y : Z0 = 0) (e : q = a * b) (h : Z0 < a) (k : Z0 < b) : Z0 < q := by
  subst y e
  have t := Rat.mul_pos (a := a) (b := b) (by grind) (by grind)
  grind
theorem s_mul_np {Z0 q a b : Rat} (y : Z0 = 0) (e : q = a * b) (h : a < Z0) (k : Z0 < b) : q < Z0 := by
  subst y e
  have t := Rat.mul_pos (a := -a) (b := b) (by grind) (by grind)
  grind
theorem s_mul_pn {Z0 q a b : Rat} (y : Z0 = 0) (e : q = a * b) (h : Z0 < a) (k : b < Z0) : q < Z0 := by
  subst y e
  have t := Rat.mul_pos (a := a) (b := -b) (by grind) (by grind)
  grind
theorem s_mul_nn {Z0 q a b : Rat} (y : Z0 = 0) (e : q = a * b) (h : a < Z0) (k : b < Z0) : Z0 < q := by
  subst y e
  have t := Rat.mul_pos (a := -a) (b := -b) (by grind) (by grind)
  grind
theorem s_mul_0x {Z0 q a b : Rat} (y : Z0 = 0) (e : q = a * b) (h : a = Z0) : q = Z0 := by
  subst y e
  rw [h]; exact Rat.zero_mul _
theorem s_mul_x0 {Z0 q a b : Rat} (y : Z0 = 0) (e : q = a * b) (h : b = Z0) : q = Z0 := by
  subst y e
  rw [h]; exact Rat.mul_zero _
theorem s_mul_ww {Z0 q a b : Rat} (y : Z0 = 0) (e : q = a * b) (h : ¬a < Z0) (k : ¬b < Z0) : ¬q < Z0 := by
  subst y e
  have t := Rat.mul_nonneg (a := a) (b := b) (by grind) (by grind)
  grind
theorem s_div_pp {Z0 q a b : Rat} (y : Z0 = 0) (e : q = a / b) (h : Z0 < a) (k : Z0 < b) : Z0 < q := by
  subst y e
  rw [Rat.div_def]
  have u : 0 < b⁻¹ := Rat.inv_pos.2 k
  have t := Rat.mul_pos (a := a) (b := b⁻¹) (by grind) (by grind)
  grind
theorem s_div_np {Z0 q a b : Rat} (y : Z0 = 0) (e : q = a / b) (h : a < Z0) (k : Z0 < b) : q < Z0 := by
  subst y e
  rw [Rat.div_def]
  have u : 0 < b⁻¹ := Rat.inv_pos.2 k
  have t := Rat.mul_pos (a := -a) (b := b⁻¹) (by grind) (by grind)
  grind
theorem s_div_pn {Z0 q a b : Rat} (y : Z0 = 0) (e : q = a / b) (h : Z0 < a) (k : b < Z0) : q < Z0 := by
  subst y e
  rw [Rat.div_def]
  have u : b⁻¹ < 0 := by
    have w := Rat.mul_inv_cancel b (by grind)
    exact Classical.byContradiction fun z => by
      have t := Rat.mul_nonneg (a := -b) (b := b⁻¹) (by grind) (by grind)
      grind
  have t := Rat.mul_pos (a := a) (b := -b⁻¹) (by grind) (by grind)
  grind
theorem s_div_nn {Z0 q a b : Rat} (y : Z0 = 0) (e : q = a / b) (h : a < Z0) (k : b < Z0) : Z0 < q := by
  subst y e
  rw [Rat.div_def]
  have u : b⁻¹ < 0 := by
    have w := Rat.mul_inv_cancel b (by grind)
    exact Classical.byContradiction fun z => by
      have t := Rat.mul_nonneg (a := -b) (b := b⁻¹) (by grind) (by grind)
      grind
  have t := Rat.mul_pos (a := -a) (b := -b⁻¹) (by grind) (by grind)
  grind
theorem s_div_0x {Z0 q a b : Rat} (y : Z0 = 0) (e : q = a / b) (h : a = Z0) : q = Z0 := by
  subst y e
  rw [h]; rw [Rat.div_def]; exact Rat.zero_mul _
theorem s_div_x0 {Z0 q a b : Rat} (y : Z0 = 0) (e : q = a / b) (h : b = Z0) : q = Z0 := by
  subst y e
  rw [h]; rw [Rat.div_def, Rat.inv_zero]; exact Rat.mul_zero _
theorem s_div_ww {Z0 q a b : Rat} (y : Z0 = 0) (e : q = a / b) (h : ¬a < Z0) (k : ¬b < Z0) : ¬q < Z0 := by
  subst y e
  rw [Rat.div_def]
  have u : 0 ≤ b⁻¹ := by
    by_cases z : b = 0
    · rw [z, Rat.inv_zero]; exact Rat.le_refl
    · exact Rat.le_of_lt (Rat.inv_pos.2 (by grind))
  have t := Rat.mul_nonneg (a := a) (b := b⁻¹) (by grind) (by grind)
  grind
theorem s_mul_f {Z0 q a b : Rat} (y : Z0 = 0) (e : q = a * b) (h : ¬a = Z0) (k : ¬b = Z0) : ¬q = Z0 := by
  subst y e
  intro z
  rcases Rat.mul_eq_zero.1 z with z | z
  · exact h z
  · exact k z
theorem s_add_pp {Z0 q a b : Rat} (y : Z0 = 0) (e : q = a + b) (h : Z0 < a) (k : Z0 < b) : Z0 < q := by
  subst y e
  grind
theorem s_add_pw {Z0 q a b : Rat} (y : Z0 = 0) (e : q = a + b) (h : Z0 < a) (k : ¬b < Z0) : Z0 < q := by
  subst y e
  grind
theorem s_add_wp {Z0 q a b : Rat} (y : Z0 = 0) (e : q = a + b) (h : ¬a < Z0) (k : Z0 < b) : Z0 < q := by
  subst y e
  grind
theorem s_add_ww {Z0 q a b : Rat} (y : Z0 = 0) (e : q = a + b) (h : ¬a < Z0) (k : ¬b < Z0) : ¬q < Z0 := by
  subst y e
  grind
theorem s_add_nn {Z0 q a b : Rat} (y : Z0 = 0) (e : q = a + b) (h : a < Z0) (k : b < Z0) : q < Z0 := by
  subst y e
  grind
theorem s_add_00 {Z0 q a b : Rat} (y : Z0 = 0) (e : q = a + b) (h : a = Z0) (k : b = Z0) : q = Z0 := by
  subst y e
  grind
theorem s_neg_p {Z0 q a b : Rat} (y : Z0 = 0) (e : q = -a) (h : Z0 < a) : q < Z0 := by
  subst y e
  grind
theorem s_neg_n {Z0 q a b : Rat} (y : Z0 = 0) (e : q = -a) (h : a < Z0) : Z0 < q := by
  subst y e
  grind
theorem s_neg_0 {Z0 q a b : Rat} (y : Z0 = 0) (e : q = -a) (h : a = Z0) : q = Z0 := by
  subst y e
  grind
theorem s_sq_w {Z0 q a b : Rat} (y : Z0 = 0) (e : q = a * a)  : ¬q < Z0 := by
  subst y e
  have := sq_nn a
  grind
theorem s_sq_p {Z0 q a b : Rat} (y : Z0 = 0) (e : q = a * a) (h : ¬a = Z0) : Z0 < q := by
  subst y e
  have t := sq_nn a
  rcases Rat.le_iff_lt_or_eq.1 t with u | u
  · exact u
  · exact absurd (sq_z u.symm) h
theorem s_abs_w {Z0 q a b : Rat} (y : Z0 = 0) (e : q = a.abs)  : ¬q < Z0 := by
  subst y e
  have := abs_nn a
  grind
theorem s_abs_p {Z0 q a b : Rat} (y : Z0 = 0) (e : q = a.abs) (h : ¬a = Z0) : Z0 < q := by
  subst y e
  by_cases t : a < 0
  · rw [Rat.abs_of_nonpos (Rat.le_of_lt t)]; grind
  · rw [Rat.abs_of_nonneg (by grind)]; grind
theorem s_abs_0 {Z0 q a b : Rat} (y : Z0 = 0) (e : q = a.abs) (h : a = Z0) : q = Z0 := by
  subst y e
  rw [h]; rfl
theorem s_dns {Z0 q a b : Rat} (y : Z0 = 0) (e : q = dns a)  : Z0 < q := by
  subst y e
  exact dns_pos rfl rfl
theorem t_wk {Z0 a : Rat} (h : Z0 < a) : ¬a < Z0 := fun k => by grind
theorem t_wz {Z0 a : Rat} (h : a = Z0) : ¬a < Z0 := fun k => by grind
end Go.Px.Na

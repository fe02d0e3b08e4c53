/- Lb: the line of slopes and the draws: how the draws rise, and how dense slopes lie. -/
import Derived.Test.YtgnhhdgepnfnmaaLs
set_option linter.unusedVariables false
set_option linter.unusedSimpArgs false
namespace Go.Px.Na

/-- The draw of a slope. -/
def bck (x : Rat) : Rat := (1 / 2) * (1 + x / (1 + x.abs))
theorem dns_ne1 {Z0 Z1 x : Rat} (y : Z0 = 0) (z : Z1 = 1) : ¬(Z1 + x.abs) = Z0 := by
  subst y z
  have := abs_nn x
  grind
theorem bck_eq {Z1 Z1_2 x : Rat} (z : Z1 = 1) (w : Z1_2 = 1 / 2) : bck x = Z1_2 * (Z1 + x / (Z1 + x.abs)) := by subst z w; rfl
theorem Sm.bck {L : Nat} {x : Rat} (h : Sm L x) : Sm (3 * (2 * L + 4)) (bck x) := by
  have s1 : Sm 1 (1 : Rat) := Sm1
  have s2 : Sm 1 (1 / 2 : Rat) := ⟨limbs_len (by decide +kernel), limbs_len (by decide +kernel)⟩
  exact (s2.mul (s1.add (h.div (s1.add h.abs)))).mono (by omega)
theorem dns_zero : dns 0 = 1 / 2 := by decide +kernel
/-- Of a number not below 0. -/
theorem wd_p {x : Rat} (h : 0 ≤ x) : ∃ u, (1 + x) * u = 1 ∧ 0 < u ∧ dns x = (1 / 2) * (u * u) ∧ bck x = (1 / 2) * (2 - u) := by
  have hp : (0 : Rat) < 1 + x := by grind
  have hu := Rat.mul_inv_cancel (1 + x) (by grind)
  refine ⟨(1 + x)⁻¹, hu, Rat.inv_pos.2 hp, ?_, ?_⟩
  · unfold dns; rw [Rat.abs_of_nonneg h]
    generalize (1 + x)⁻¹ = u at hu
    grind
  · unfold bck; rw [Rat.abs_of_nonneg h, Rat.div_def]
    generalize (1 + x)⁻¹ = u at hu
    grind
theorem wd_n {x : Rat} (h : x ≤ 0) : ∃ u, (1 - x) * u = 1 ∧ 0 < u ∧ dns x = (1 / 2) * (u * u) ∧ bck x = (1 / 2) * u := by
  have hp : (0 : Rat) < 1 - x := by grind
  have hu := Rat.mul_inv_cancel (1 - x) (by grind)
  refine ⟨(1 - x)⁻¹, hu, Rat.inv_pos.2 hp, ?_, ?_⟩
  · unfold dns; rw [Rat.abs_of_nonpos h, ← Rat.sub_eq_add_neg]
    generalize (1 - x)⁻¹ = u at hu
    grind
  · unfold bck; rw [Rat.abs_of_nonpos h, ← Rat.sub_eq_add_neg, Rat.div_def]
    generalize (1 - x)⁻¹ = u at hu
    grind
theorem wd_le {A B u v : Rat} (hA : A * u = 1) (hB : B * v = 1) (hu : 0 < u) (hv : 0 < v) (h : B ≤ A) : u ≤ v := by
  have e : v - u = (A - B) * (u * v) := by grind
  have := Rat.mul_nonneg (a := A - B) (b := u * v) (by grind) (Rat.le_of_lt (Rat.mul_pos hu hv))
  grind
theorem wd_key {A B u v : Rat} (hA : A * u = 1) (hB : B * v = 1) (hu : 0 < u) (hv : 0 < v) (h : B ≤ A) : (A - B) * (u * u) ≤ v - u ∧ v - u ≤ (A - B) * (v * v) := by
  have huv := wd_le hA hB hu hv h
  have e : v - u = (A - B) * (u * v) := by grind
  have p := Rat.mul_nonneg (a := A - B) (b := u * (v - u)) (by grind) (Rat.mul_nonneg (Rat.le_of_lt hu) (by grind))
  have q := Rat.mul_nonneg (a := A - B) (b := v * (v - u)) (by grind) (Rat.mul_nonneg (Rat.le_of_lt hv) (by grind))
  constructor <;> grind
/-- Two below 0. -/
theorem wd_nn {a b : Rat} (h : a < b) (k : b ≤ 0) : dns a ≤ dns b ∧ (b - a) * dns a ≤ bck b - bck a ∧ bck b - bck a ≤ (b - a) * dns b := by
  obtain ⟨u, hu, pu, du, bu⟩ := wd_n (x := a) (by grind)
  obtain ⟨v, hv, pv, dv, bv⟩ := wd_n k
  have huv := wd_le hu hv pu pv (by grind)
  have hk := wd_key hu hv pu pv (by grind)
  have m1 := Rat.mul_nonneg (a := v - u) (b := v + u) (by grind) (by grind)
  rw [du, dv, bu, bv]
  refine ⟨by grind, by grind, by grind⟩
theorem wd_pp {a b : Rat} (h : a < b) (k : 0 ≤ a) : dns b ≤ dns a ∧ (b - a) * dns b ≤ bck b - bck a ∧ bck b - bck a ≤ (b - a) * dns a := by
  obtain ⟨u, hu, pu, du, bu⟩ := wd_p k
  obtain ⟨v, hv, pv, dv, bv⟩ := wd_p (x := b) (by grind)
  have huv := wd_le hv hu pv pu (by grind)
  have hk := wd_key hv hu pv pu (by grind)
  have m1 := Rat.mul_nonneg (a := u - v) (b := v + u) (by grind) (by grind)
  rw [du, dv, bu, bv]
  refine ⟨by grind, by grind, by grind⟩
theorem wd_np {a b : Rat} (h : a < b) (k : a ≤ 0) (l : 0 ≤ b) : bck b - bck a ≤ (b - a) * (1 / 2) ∧ (dns a ≤ dns b → (b - a) * dns a ≤ bck b - bck a) ∧ (dns b ≤ dns a → (b - a) * dns b ≤ bck b - bck a) := by
  have e0 : bck 0 = 1 / 2 := by decide +kernel
  have z := dns_zero
  rcases Rat.le_iff_lt_or_eq.1 k with k1 | k1
  · obtain ⟨p1, p2, p3⟩ := wd_nn (a := a) (b := 0) k1 (Rat.le_refl)
    rw [z] at p1 p3; rw [e0] at p2 p3
    rcases Rat.le_iff_lt_or_eq.1 l with l1 | l1
    · obtain ⟨q1, q2, q3⟩ := wd_pp (a := 0) (b := b) l1 (Rat.le_refl)
      rw [z] at q1 q3; rw [e0] at q2 q3
      refine ⟨by grind, fun w => ?_, fun w => ?_⟩
      · have := Rat.mul_nonneg (a := b) (b := dns b - dns a) l (by grind)
        grind
      · have := Rat.mul_nonneg (a := -a) (b := dns a - dns b) (by grind) (by grind)
        grind
    · subst l1
      rw [z, e0]
      refine ⟨by grind, fun w => by grind, fun w => by grind⟩
  · subst k1
    obtain ⟨q1, q2, q3⟩ := wd_pp (a := 0) (b := b) h (Rat.le_refl)
    rw [z] at q1 q3; rw [e0] at q2 q3; rw [z, e0]
    refine ⟨by grind, fun w => by grind, fun w => by grind⟩
end Go.Px.Na

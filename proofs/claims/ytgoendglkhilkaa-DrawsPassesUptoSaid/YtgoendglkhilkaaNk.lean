/- Nk: the guess of a quotient's digit (Knuth): plain facts on naturals. -/
import Derived.Test.YtgoendglkhilkaaNa1
set_option linter.unusedSimpArgs false
set_option linter.unusedVariables false
namespace Go.Px.Na

/-- The first guess is not too low. -/
theorem knuth_first {U V v1 top P low vl : Nat} (hU : U = top * P + low) (hlow : low < P) (hV : V = v1 * P + vl) (hv1 : 0 < v1) (hP : 0 < P) : U / V ≤ top / v1 := by
  have hV0 : 0 < V := by rw [hV]; have := Nat.mul_pos hv1 hP; omega
  rw [Nat.le_div_iff_mul_le hv1]
  have h1 : U / V * V ≤ U := Nat.div_mul_le_self U V
  have h2 : U / V * (v1 * P) ≤ U / V * V := Nat.mul_le_mul_left _ (by omega)
  have h3 : (U / V * v1) * P < (top + 1) * P := by
    rw [Nat.mul_assoc, Nat.add_mul, Nat.one_mul]; omega
  exact Nat.lt_succ_iff.1 (Nat.lt_of_mul_lt_mul_right h3)

/-- A guess that the test finds too high is too high. -/
theorem knuth_down {U V g t2 w2 P low vl : Nat} (hU : U = t2 * P + low) (hlow : low < P) (hV : V = w2 * P + vl) (h : t2 < g * w2) : U < g * V := by
  have h1 : (t2 + 1) * P ≤ g * w2 * P := Nat.mul_le_mul_right _ h
  have h2 : g * (w2 * P) ≤ g * V := Nat.mul_le_mul_left _ (by omega)
  rw [Nat.add_mul, Nat.one_mul] at h1
  rw [Nat.mul_assoc] at h1
  omega

/-- A guess that the test lets go is too high by one at most. -/
theorem knuth_up {U V g t2 w2 P low vl : Nat} (hU : U = t2 * P + low) (hV : V = w2 * P + vl) (hvl : vl < P) (hg : g < 4294967296) (hVB : 4294967296 * P ≤ V) (h : g * w2 ≤ t2) : g * V < U + V := by
  have h1 : g * w2 * P ≤ t2 * P := Nat.mul_le_mul_right _ h
  have h2 : g * V = g * w2 * P + g * vl := by rw [hV, Nat.mul_add, Nat.mul_assoc]
  have h3 : g * vl < 4294967296 * P := Nat.mul_lt_mul'' hg hvl
  omega

theorem lt_of_div_lt {U V g : Nat} (hV : 0 < V) (h : U < g * V) : U / V < g := (Nat.div_lt_iff_lt_mul hV).2 h
theorem le_succ_div {U V g : Nat} (hV : 0 < V) (h : g * V < U + V) : g ≤ U / V + 1 := by
  have h1 : U < (U / V + 1) * V := by rw [Nat.mul_comm]; exact Nat.lt_mul_div_succ U hV
  have h2 : g * V < (U / V + 2) * V := by
    rw [Nat.add_mul] at h1 ⊢; omega
  exact Nat.lt_succ_iff.1 (Nat.lt_of_mul_lt_mul_right h2)

/-- The greatest whole number whose square is not above. -/
def isq (n : Nat) : Nat := if h : n = 0 then 0 else
  let r := isq (n / 4)
  if (2 * r + 1) * (2 * r + 1) ≤ n then 2 * r + 1 else 2 * r
termination_by n
decreasing_by omega

theorem isq_spec (n : Nat) : isq n * isq n ≤ n ∧ n < (isq n + 1) * (isq n + 1) := by
  induction n using Nat.strongRecOn with
  | _ n ih =>
    rw [isq]
    split
    · rename_i h; subst h; simp
    · rename_i h
      obtain ⟨h1, h2⟩ := ih (n / 4) (by omega)
      generalize isq (n / 4) = r at h1 h2 ⊢
      simp only
      have e : (r + 1) * (r + 1) = r * r + 2 * r + 1 := by grind
      rw [e] at h2
      split
      · rename_i hle
        refine ⟨hle, ?_⟩
        have e3 : (2 * r + 1 + 1) * (2 * r + 1 + 1) = 4 * (r * r) + 8 * r + 4 := by grind
        rw [e3]; omega
      · rename_i hle
        have e3 : 2 * r * (2 * r) = 4 * (r * r) := by grind
        rw [e3]; exact ⟨by omega, by omega⟩
theorem isq_unique {n x : Nat} (h1 : x * x ≤ n) (h2 : n < (x + 1) * (x + 1)) : x = isq n := by
  obtain ⟨h3, h4⟩ := isq_spec n
  generalize isq n = y at h3 h4 ⊢
  rcases Nat.lt_trichotomy x y with h | h | h
  · exfalso
    have := Nat.mul_le_mul (show x + 1 ≤ y from h) (show x + 1 ≤ y from h)
    omega
  · exact h
  · exfalso
    have := Nat.mul_le_mul (show y + 1 ≤ x from h) (show y + 1 ≤ x from h)
    omega
/-- Newton's step does not fall below the root. -/
theorem newton_ge {n x : Nat} (hx : 0 < x) : isq n ≤ (x + n / x) / 2 := by
  obtain ⟨h1, _⟩ := isq_spec n
  generalize isq n = s at h1 ⊢
  rw [Nat.le_div_iff_mul_le (by omega)]
  -- s*s ≤ n, so n / x ≥ s*s / x, and (2s - x) x ≤ s*s
  rcases Nat.lt_or_ge (2 * s) x with h | h
  · exact Nat.le_trans (by omega : s * 2 ≤ x) (Nat.le_add_right _ _)
  · have : 2 * s - x ≤ n / x := by
      rw [Nat.le_div_iff_mul_le hx]
      refine Nat.le_trans ?_ h1
      obtain ⟨d, hd⟩ : ∃ d, 2 * s = x + d := ⟨2 * s - x, by omega⟩
      have e : 2 * s - x = d := by omega
      rw [e]
      -- d * x ≤ s * s where 2 s = x + d
      have h4 : 4 * (d * x) ≤ 4 * (s * s) := by
        have e1 : 4 * (s * s) = (x + d) * (x + d) := by rw [← hd]; grind
        rw [e1]
        rcases Nat.le_total d x with hle | hle
        · obtain ⟨c, rfl⟩ := Nat.exists_eq_add_of_le hle
          have : (d + c + d) * (d + c + d) = 4 * (d * (d + c)) + c * c := by grind
          omega
        · obtain ⟨c, rfl⟩ := Nat.exists_eq_add_of_le hle
          have : (x + (x + c)) * (x + (x + c)) = 4 * ((x + c) * x) + c * c := by grind
          omega
      omega
    omega
/-- Where Newton's step falls no more it is the root. -/
theorem newton_end {n x : Nat} (hx : 0 < x) (hge : isq n ≤ x) (h : x ≤ (x + n / x) / 2) : x = isq n := by
  have h1 : x ≤ n / x := by omega
  have h2 : x * x ≤ n := (Nat.le_div_iff_mul_le hx).1 h1
  obtain ⟨h3, h4⟩ := isq_spec n
  generalize isq n = s at h3 h4 hge ⊢
  rcases Nat.lt_or_ge s x with h | h
  · exfalso
    have := Nat.mul_le_mul (show s + 1 ≤ x from h) (show s + 1 ≤ x from h)
    omega
  · omega

end Go.Px.Na

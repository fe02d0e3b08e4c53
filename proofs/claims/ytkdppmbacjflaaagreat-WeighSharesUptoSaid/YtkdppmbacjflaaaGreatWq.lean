/- Wq: the densities of a path have one denominator; none is below 0. -/
import Derived.Test.YtkdppmbacjflaaaGreatWo
set_option maxRecDepth 20000
set_option maxHeartbeats 4000000
set_option linter.unusedVariables false
set_option linter.unusedSimpArgs false
namespace Go.Px.Na
open Go.RowKit
section
variable {l : List Rat} {D L1 L2 L : Nat}
theorem pt_all (hc : ∀ x ∈ l, Cl D x) (hs : ∀ x ∈ l, Sm L1 x) (hD2 : D ≤ 4294967296 ^ L2) : ∀ x ∈ l, Pt D (4294967296 ^ (L1 + (L2 + 1))) x := fun x hx =>
  (hc x hx).pt (hs x hx) (Nat.lt_of_le_of_lt hD2 (Nat.pow_lt_pow_right (by decide) (Nat.lt_succ_self _)))
theorem pow34 (hL : L1 + L2 + 2 + 1 ≤ L) : 34 * 4294967296 ^ (L1 + (L2 + 1)) < 4294967296 ^ L := by
  refine Nat.lt_of_lt_of_le ?_ (Nat.pow_le_pow_right (by decide) (show L1 + (L2 + 1) + 1 ≤ L by omega))
  rw [Nat.pow_succ, Nat.mul_comm]
  exact Nat.mul_lt_mul_of_pos_left (by decide) (Nat.pow_pos (by decide))
theorem powD (hD2 : D ≤ 4294967296 ^ L2) (hL : L1 + L2 + 2 + 1 ≤ L) : D < 4294967296 ^ L :=
  Nat.lt_of_le_of_lt hD2 (Nat.pow_lt_pow_right (by decide) (by omega))
theorem sums_sm (hl : l.length ≤ 34) (hc : ∀ x ∈ l, Cl D x) (hs : ∀ x ∈ l, Sm L1 x) (hD : 0 < D) (hD2 : D ≤ 4294967296 ^ L2) (hL : L1 + L2 + 2 + 1 ≤ L) (k : Nat) : Sm L (sumR (l.take k)) :=
  (sum_pt' (pt_all hc hs hD2) hl k).sm hD (pow34 hL) (powD hD2 hL) (by omega)
end
/-! ### One denominator -/
def Pa.ff (p : Pa) (i : Nat) : Rat := ahd (p.s i) (p.s (i + 1)) (p.e i).map
def Pa.bb (p : Pa) (k : Nat) : Rat := ahd (p.s (p.n - 2 - k + 1)) (p.s (p.n - 2 - k)) (inv (p.e (p.n - 2 - k)).map)
def dens (f : Nat → Rat) : Nat → Nat
  | 0 => 1
  | i + 1 => dens f i * (f i).den
theorem dens_pos (f : Nat → Rat) : ∀ i, 0 < dens f i
  | 0 => Nat.one_pos
  | i + 1 => Nat.mul_pos (dens_pos f i) (f i).den_pos
theorem dens_dvd (f : Nat → Rat) {i j : Nat} (h : i ≤ j) : dens f i ∣ dens f j := by
  induction h with
  | refl => exact Nat.dvd_refl _
  | step h ih => exact Nat.dvd_trans ih (Nat.dvd_mul_right _ _)
theorem dens_le {f : Nat → Rat} {c : Nat} (h : ∀ i, Sm c (f i)) : ∀ i, dens f i ≤ 4294967296 ^ (i * c)
  | 0 => by rw [Nat.zero_mul, Nat.pow_zero]; exact Nat.le_refl _
  | i + 1 => by rw [Nat.succ_mul, Nat.pow_add]; exact Nat.mul_le_mul (dens_le h i) (Nat.le_of_lt (h i).den)
section
variable {p : Pa}
theorem cl_a : ∀ i, Cl (p.start.den * dens p.ff i) (p.a (i + 1))
  | 0 => (Cl.den _).up 1
  | i + 1 => by
    have h := (cl_a i).mul (Cl.den (p.ff i))
    rw [Nat.mul_assoc] at h
    exact h
theorem cl_z : ∀ i, Cl (p.film.den * dens p.bb i) (p.z (i + 1))
  | 0 => (Cl.den _).up 1
  | i + 1 => by
    rw [Pa.z]
    split
    · exact Cl.zero _
    · have h := (cl_z i).mul (Cl.den (p.bb i))
      rw [Nat.mul_assoc] at h
      exact h
def Pa.dA (p : Pa) : Nat := p.start.den * dens p.ff 15
def Pa.dZ (p : Pa) : Nat := p.film.den * dens p.bb 15
def Pa.dD (p : Pa) : Nat := p.dA * p.dZ * p.merge.den
theorem cl_a' {i : Nat} (hi : i ≤ 16) : Cl p.dA (p.a i) := by
  cases i with
  | zero => exact (Cl.den (1 : Rat)).dvd (by rw [show (1 : Rat).den = 1 from rfl]; exact Nat.one_dvd _)
  | succ i => exact (cl_a i).dvd (Nat.mul_dvd_mul_left _ (dens_dvd _ (by omega)))
theorem cl_z' {i : Nat} (hi : i ≤ 16) : Cl p.dZ (p.z i) := by
  cases i with
  | zero => exact (Cl.den (1 : Rat)).dvd (by rw [show (1 : Rat).den = 1 from rfl]; exact Nat.one_dvd _)
  | succ i => exact (cl_z i).dvd (Nat.mul_dvd_mul_left _ (dens_dvd _ (by omega)))
theorem dD_pos : 0 < p.dD := Nat.mul_pos (Nat.mul_pos (Nat.mul_pos p.start.den_pos (dens_pos _ _)) (Nat.mul_pos p.film.den_pos (dens_pos _ _))) p.merge.den_pos
theorem cl_q (hn : p.n ≤ 16) (i : Nat) : Cl p.dD (p.q i) := by
  unfold Pa.q
  split
  · exact ((cl_z' (p := p) (i := p.n - 0) (by omega)).dvd (Nat.dvd_mul_left _ _)).up _
  · split
    · rename_i h; exact ((cl_a' (p := p) (i := i) (by omega)).mul (cl_z' (i := p.n - i) (by omega))).up _
    · split
      · have h : Cl 1 ((p.cam.w * p.cam.h : Int) : Rat) := ⟨p.cam.w * p.cam.h, by rw [show ((1 : Nat) : Rat) = 1 from rfl, Rat.mul_one]⟩
        have g := (cl_a' (p := p) (i := p.n) hn).mul h
        rw [Nat.mul_one] at g
        exact (g.up _).up _
      · exact Cl.zero _
theorem cl_m (hn : p.n ≤ 16) {i : Nat} (hi : i < p.n) : Cl p.dD (p.m i) := by
  have h := ((Cl.den p.merge).mul (cl_a' (p := p) (i := i + 1) (by omega))).mul (cl_z' (p := p) (i := p.n - i) (by omega))
  rw [Nat.mul_assoc, Nat.mul_comm] at h
  exact h
theorem pow3 {a b c x y z B : Nat} (h : x ≤ B ^ a) (g : y ≤ B ^ b) (k : z ≤ B ^ c) : x * y * z ≤ B ^ (a + b + c) := by
  rw [Nat.pow_add, Nat.pow_add]; exact Nat.mul_le_mul (Nat.mul_le_mul h g) k
theorem pow2 {a b x y B : Nat} (h : x ≤ B ^ a) (g : y ≤ B ^ b) : x * y ≤ B ^ (a + b) := by
  rw [Nat.pow_add]; exact Nat.mul_le_mul h g
theorem dD_le {a c f b m : Nat} (h1 : Sm a p.start) (h2 : ∀ i, Sm c (p.ff i)) (h3 : Sm f p.film) (h4 : ∀ i, Sm b (p.bb i)) (h5 : Sm m p.merge) : p.dD ≤ 4294967296 ^ (a + 15 * c + (f + 15 * b) + m) :=
  pow3 (pow2 (Nat.le_of_lt h1.den) (dens_le h2 15)) (pow2 (Nat.le_of_lt h3.den) (dens_le h4 15)) (Nat.le_of_lt h5.den)
theorem dD_le' {a c f b m L : Nat} (e : a + 15 * c + (f + 15 * b) + m = L) (h1 : Sm a p.start) (h2 : ∀ i, Sm c (p.ff i)) (h3 : Sm f p.film) (h4 : ∀ i, Sm b (p.bb i)) (h5 : Sm m p.merge) : p.dD ≤ 4294967296 ^ L := by
  subst e; exact dD_le h1 h2 h3 h4 h5
/-! ### None is below 0 -/
end
end Go.Px.Na

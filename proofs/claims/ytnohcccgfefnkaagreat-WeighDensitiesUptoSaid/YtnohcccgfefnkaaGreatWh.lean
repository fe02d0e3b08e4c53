/- Wh: how long the densities can be; rows of long numbers that are the same. -/
import Derived.Test.YtnohcccgfefnkaaGreatFy
set_option maxRecDepth 20000
set_option maxHeartbeats 40000000
set_option linter.unusedVariables false
set_option linter.unusedSimpArgs false
namespace Go.Px.Na
open Go.RowKit
open Go.Proofs.Tryz (prog)
section
variable {r : RP} {p : Pa}
theorem SPa.q (h : SPa 1048576 p) (hn : p.n ≤ 16) (hw : (1 ≤ p.cam.w ∧ p.cam.w ≤ 16) ∧ (1 ≤ p.cam.h ∧ p.cam.h ≤ 16)) (i : Nat) : Sm 402000000000 (p.q i) := by
  unfold Pa.q
  split
  · exact (h.b hn 0).mono (by decide)
  · split
    · rename_i c; exact ((h.a' (i := i) (by omega)).mul (h.b hn i)).mono (by decide)
    · split
      · have b1 : p.cam.w * p.cam.h ≤ 16 * 16 := Int.le_trans (Int.mul_le_mul_of_nonneg_right hw.1.2 (by omega)) (Int.mul_le_mul_of_nonneg_left hw.2.2 (by decide))
        have b2 : 0 ≤ p.cam.w * p.cam.h := Int.mul_nonneg (by omega) (by omega)
        exact ((h.a' (i := p.n) hn).mul (Sm_int (n := p.cam.w * p.cam.h) (L := 1) (by omega) (by decide))).mono (by decide)
      · exact Sm0.mono (by decide)
theorem SPa.J (h : SPa 1048576 p) : ∀ x ∈ p.J, Sm 402000000000 x := fun x hx => by
  unfold Pa.J at hx
  split at hx
  · rename_i c
    obtain ⟨i, _, rfl⟩ := List.mem_map.1 hx
    exact h.q c.1.2 c.2.2 i
  · cases hx
theorem SPa.M (h : SPa 1048576 p) : ∀ x ∈ p.M, Sm 403000000000 x := fun x hx => by
  unfold Pa.M at hx
  split at hx
  · rename_i c
    obtain ⟨i, hi, rfl⟩ := List.mem_map.1 hx
    rw [List.mem_range] at hi
    exact ((h.merge.mul (h.a' (i := i + 1 + 1) (by have := c.1.2; omega))).mul (h.b c.1.2 (i + 1))).mono (by decide)
  · cases hx
end
end Go.Px.Na

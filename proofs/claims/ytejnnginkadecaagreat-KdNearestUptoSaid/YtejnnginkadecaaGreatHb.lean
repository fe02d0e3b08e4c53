/- Hb: chains of grids that are built; the points near to a place: plain. -/
import Derived.Test.YtejnnginkadecaaGreatGb
import Derived.Lib.SlicesCompact
set_option maxRecDepth 20000
set_option linter.unusedVariables false
set_option linter.unusedSimpArgs false
namespace Go.Px.Na
open Go.RowKit

/-! ### Chains -/
/-- From 'a' on the points of a chain, to its end. -/
def Cn (next : List Int) : Int → List Nat → Prop
  | a, [] => a = -1
  | a, p :: l => a = (p : Int) ∧ p < next.length ∧ Cn next (next.getD p 0) l
theorem Cn.app {next ys : List Int} : ∀ {l : List Nat} {a : Int}, Cn next a l → Cn (next ++ ys) a l
  | [], a, h => h
  | p :: l, a, h => by
    refine ⟨h.1, by rw [List.length_append]; have := h.2.1; omega, ?_⟩
    have e : (next ++ ys).getD p 0 = next.getD p 0 := by simp [List.getD_eq_getElem?_getD, List.getElem?_append_left h.2.1]
    rw [e]; exact Cn.app h.2.2
/-! ### Rows in order -/
/-! ### Who is near -/
/-- The square of the way between two points. -/
def far (a b : V3) : Rat := (b.sub a).dot (b.sub a)
theorem sq_nonneg (x : Rat) : 0 ≤ x * x := by
  rcases (show x ≤ 0 ∨ 0 ≤ x by grind) with h | h
  · have := Rat.mul_nonneg (a := -x) (b := -x) (by grind) (by grind); grind
  · exact Rat.mul_nonneg h h
end Go.Px.Na

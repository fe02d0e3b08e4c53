/- Rr: the document's numbers. -/
import Derived.Test.YtdkifeiejkikdaaRt3
set_option maxRecDepth 10000
set_option linter.unusedSimpArgs false
set_option linter.unusedVariables false
namespace Go.Px.Na
open Go.RowKit
variable {P : Program}

theorem RR.ok.wl {r : RR} (h : r.ok KL) : (r.num.length ≤ 2600000000000 ∧ r.den.length ≤ 2600000000000) := ⟨Nat.le_trans h.2.2.1 (by decide), Nat.le_trans h.2.2.2 (by decide)⟩

/-- Twice as many limbs as a number has. -/
abbrev KL2 : Nat := 2600000000001
theorem RR.ok.two {r : RR} (h : r.ok KL) : r.ok KL2 := h.mono (by decide)
end Go.Px.Na

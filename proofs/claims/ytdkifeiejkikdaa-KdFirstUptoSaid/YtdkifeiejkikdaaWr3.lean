/- Wr1: the document's naturals: Norm, Same, Of, limb, Cmp, Zero, Bits, Add, Sub. -/
import Derived.Test.YtdkifeiejkikdaaWn7
set_option maxRecDepth 10000
set_option linter.unusedSimpArgs false
set_option linter.unusedVariables false
namespace Go.Px.Na
open Go.RowKit
variable {P : Program}

end Go.Px.Na
/- Wr2: the document's naturals: Mul, Double, Half, at. -/
set_option maxRecDepth 10000
set_option linter.unusedSimpArgs false
set_option linter.unusedVariables false
namespace Go.Px.Na
open Go.RowKit
variable {P : Program}

/-! ### Double, Half -/
end Go.Px.Na
/- Wr3: the document's naturals: DivMod. -/
set_option maxRecDepth 10000
set_option linter.unusedSimpArgs false
set_option linter.unusedVariables false
namespace Go.Px.Na
open Go.RowKit
variable {P : Program}

def dval (d : DV) : Nat := match d with | .list _ cells => val (cells.map fun | .int _ n => n.toNat | _ => 0) | _ => 0
theorem dval_nl (l : List Nat) : dval (nl l) = val l := by
  simp only [dval, nl, ul, List.map_map]
  congr 1
  rw [show ((fun (x : DV) => match x with | .int _ n => n.toNat | _ => 0) ∘ fun (x : Nat) => DV.int .u32 (x : Int)) = id from by funext x; rfl]
  simp
def lval (i : Nat) (ds : List DV) : Nat := match ds[i]? with | some d => dval d | none => 0

end Go.Px.Na

/- Gs: the slots of points in grids: the program's answer and the document's. -/
import Derived.Test.YtejnnginkadecaaGreatFr0
import Derived.Test.YtejnnginkadecaaGreatPx24
import Derived.Test.YtejnnginkadecaaGreatProg
import Derived.Tactics
set_option maxRecDepth 20000
set_option maxHeartbeats 4000000
set_option linter.unusedVariables false
set_option linter.unusedSimpArgs false
namespace Go.Px
open Go.RowKit
end Go.Px
namespace Go.Px.Na
open Go.RowKit
open Go.Proofs.Tryz (prog)

def gmay (s : Rat) (n : Int) : Prop := 0 < s ∧ 1 ≤ n ∧ n ≤ 256
instance (s : Rat) (n : Int) : Decidable (gmay s n) := inferInstanceAs (Decidable (_ ∧ _ ∧ _))
/-- The greatest whole number not above a quotient. -/
def cz (a s : Rat) : Int := (a / s).floor
def slot (p : V3) (s : Rat) (n : Int) : Int := (cz p.x s + 31 * cz p.y s + 961 * cz p.z s) % n
section
variable {s x : Rat} {n : Int} {p : V3}
variable {L M : Nat} {r rs : RR} {rp : RV}
end
end Go.Px.Na

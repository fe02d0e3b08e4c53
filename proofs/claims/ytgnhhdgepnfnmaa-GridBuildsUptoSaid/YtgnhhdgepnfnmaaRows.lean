/-
  No cell of these rows narrows 'for every input' (looked for: loops, veiled, ifaces, maps, wideKeys, modest, calm, conditions, laid).
  DERIVED. THE GIVEN ROWS OF THIS SEAT. 10 by the template 'for every input the law returns true; each argument reads behind the call as it read before'; 0 by the template 'total and deterministic' (their statements: YtgnhhdgepnfnmaaTotals.lean).
  GIVEN WITH THE SEED: the statements are not yours to turn. If you find one false, say at which input.
  Laid BY PROGRAM, IN A SANDBOX (cutbox-rows.mjs): the forced cells as the released guide's own fill.sh prints them over the translation e881d93614e85aba… (all of the seat's roots in one cut). By AI agents, Wed Nov 11 2026. No macro, syntax, notation, axiom, sorry.
-/
import Derived.Test.YtgnhhdgepnfnmaaChecked
import GoSem.Claim
import GoSem.ClaimJoined
import GoSem.ClaimMapViews
import Derived.JoinedTies
import Derived.KernelRfl
namespace Go.Proofs.Ytgnhhdgepnfnmaa
/- THE CELL 'sum', in the pinned program and in every row, IS THE sha256 OF THE DUMP (.gsa) THAT YtgnhhdgepnfnmaaProg.lean LOADS. Nothing in Lean hashes anything: it is a label: what it is worth is what the hold of that sum in a sandbox is worth. -/
noncomputable def Try.pinned : Pinned := { name := "ytgnhhdgepnfnmaa", sum := "e881d93614e85aba401d902de2df79b168136c80dbb2553b3326777e8e540959", checked := Try.checked }
namespace Rows
def none {H : Type} : Left H := { results := [], args := [] }

/-- 'penumbralaw13.DrawsUnits': WHATEVER THE INPUT: true; the input reads as it did. -/
def drawsUnitsSpec : ChangeSpec := { name := "drawsUnits", fn := fun _ => fun
  | [d1, d2, d3] => { results := [.lit (.bool true)], args := [d1, d2, d3] }
  | _ => none }
def drawsUnitsRow : OpenClaim := { program := "ytgnhhdgepnfnmaa", sum := "e881d93614e85aba401d902de2df79b168136c80dbb2553b3326777e8e540959", func := "penumbra/penumbralaw13.DrawsUnits", spec := "drawsUnits", named := ["math/bits.overflowError"], apart := false }
def DrawsUnitsSaid : Prop := drawsUnitsRow.holds Try.pinned (OpenSpec.ofChange drawsUnitsSpec)

/-- ITS FALSE NEIGHBOUR: 'it returns false'. Refute it at one input. -/
def drawsUnitsWrong : ChangeSpec := { name := "drawsUnits", fn := fun _ => fun
  | [d1, d2, d3] => { results := [.lit (.bool false)], args := [d1, d2, d3] }
  | _ => none }
def DrawsUnitsWrongFalsely : Prop := drawsUnitsRow.holds Try.pinned (OpenSpec.ofChange drawsUnitsWrong)

/-- 'penumbralaw13.DrawsOnce': WHATEVER THE INPUT: true; the input reads as it did. -/
def drawsOnceSpec : ChangeSpec := { name := "drawsOnce", fn := fun _ => fun
  | [d] => { results := [.lit (.bool true)], args := [d] }
  | _ => none }
def drawsOnceRow : OpenClaim := { program := "ytgnhhdgepnfnmaa", sum := "e881d93614e85aba401d902de2df79b168136c80dbb2553b3326777e8e540959", func := "penumbra/penumbralaw13.DrawsOnce", spec := "drawsOnce", named := ["math/bits.overflowError"], apart := false }
def DrawsOnceSaid : Prop := drawsOnceRow.holds Try.pinned (OpenSpec.ofChange drawsOnceSpec)

/-- ITS FALSE NEIGHBOUR: 'it returns false'. Refute it at one input. -/
def drawsOnceWrong : ChangeSpec := { name := "drawsOnce", fn := fun _ => fun
  | [d] => { results := [.lit (.bool false)], args := [d] }
  | _ => none }
def DrawsOnceWrongFalsely : Prop := drawsOnceRow.holds Try.pinned (OpenSpec.ofChange drawsOnceWrong)

/-- 'penumbralaw13.DrawsPlaces': WHATEVER THE INPUT: true; the input reads as it did. -/
def drawsPlacesSpec : ChangeSpec := { name := "drawsPlaces", fn := fun _ => fun
  | [d] => { results := [.lit (.bool true)], args := [d] }
  | _ => none }
def drawsPlacesRow : OpenClaim := { program := "ytgnhhdgepnfnmaa", sum := "e881d93614e85aba401d902de2df79b168136c80dbb2553b3326777e8e540959", func := "penumbra/penumbralaw13.DrawsPlaces", spec := "drawsPlaces", named := ["math/bits.overflowError"], apart := false }
def DrawsPlacesSaid : Prop := drawsPlacesRow.holds Try.pinned (OpenSpec.ofChange drawsPlacesSpec)

/-- ITS FALSE NEIGHBOUR: 'it returns false'. Refute it at one input. -/
def drawsPlacesWrong : ChangeSpec := { name := "drawsPlaces", fn := fun _ => fun
  | [d] => { results := [.lit (.bool false)], args := [d] }
  | _ => none }
def DrawsPlacesWrongFalsely : Prop := drawsPlacesRow.holds Try.pinned (OpenSpec.ofChange drawsPlacesWrong)

/-- 'penumbralaw14.WarpPicks': WHATEVER THE INPUT: true; the input reads as it did. -/
def warpPicksSpec : ChangeSpec := { name := "warpPicks", fn := fun _ => fun
  | [d1, d2] => { results := [.lit (.bool true)], args := [d1, d2] }
  | _ => none }
def warpPicksRow : OpenClaim := { program := "ytgnhhdgepnfnmaa", sum := "e881d93614e85aba401d902de2df79b168136c80dbb2553b3326777e8e540959", func := "penumbra/penumbralaw14.WarpPicks", spec := "warpPicks", named := ["math/bits.overflowError"], apart := false }
def WarpPicksSaid : Prop := warpPicksRow.holds Try.pinned (OpenSpec.ofChange warpPicksSpec)

/-- ITS FALSE NEIGHBOUR: 'it returns false'. Refute it at one input. -/
def warpPicksWrong : ChangeSpec := { name := "warpPicks", fn := fun _ => fun
  | [d1, d2] => { results := [.lit (.bool false)], args := [d1, d2] }
  | _ => none }
def WarpPicksWrongFalsely : Prop := warpPicksRow.holds Try.pinned (OpenSpec.ofChange warpPicksWrong)

/-- 'penumbralaw03.RatCanon': WHATEVER THE INPUT: true; the input reads as it did. -/
def ratCanonSpec : ChangeSpec := { name := "ratCanon", fn := fun _ => fun
  | [d1, d2] => { results := [.lit (.bool true)], args := [d1, d2] }
  | _ => none }
def ratCanonRow : OpenClaim := { program := "ytgnhhdgepnfnmaa", sum := "e881d93614e85aba401d902de2df79b168136c80dbb2553b3326777e8e540959", func := "penumbra/penumbralaw03.RatCanon", spec := "ratCanon", named := ["math/bits.overflowError"], apart := false }
def RatCanonSaid : Prop := ratCanonRow.holds Try.pinned (OpenSpec.ofChange ratCanonSpec)

/-- ITS FALSE NEIGHBOUR: 'it returns false'. Refute it at one input. -/
def ratCanonWrong : ChangeSpec := { name := "ratCanon", fn := fun _ => fun
  | [d1, d2] => { results := [.lit (.bool false)], args := [d1, d2] }
  | _ => none }
def RatCanonWrongFalsely : Prop := ratCanonRow.holds Try.pinned (OpenSpec.ofChange ratCanonWrong)

/-- 'penumbralaw16.DensTurned': WHATEVER THE INPUT: true; the input reads as it did. -/
def densTurnedSpec : ChangeSpec := { name := "densTurned", fn := fun _ => fun
  | [d1, d2, d3] => { results := [.lit (.bool true)], args := [d1, d2, d3] }
  | _ => none }
def densTurnedRow : OpenClaim := { program := "ytgnhhdgepnfnmaa", sum := "e881d93614e85aba401d902de2df79b168136c80dbb2553b3326777e8e540959", func := "penumbra/penumbralaw16.DensTurned", spec := "densTurned", unfollowed := true, recurses := true, named := ["math/bits.overflowError"], apart := false }
def DensTurnedSaid : Prop := densTurnedRow.holds Try.pinned (OpenSpec.ofChange densTurnedSpec)

/-- ITS FALSE NEIGHBOUR: 'it returns false'. Refute it at one input. -/
def densTurnedWrong : ChangeSpec := { name := "densTurned", fn := fun _ => fun
  | [d1, d2, d3] => { results := [.lit (.bool false)], args := [d1, d2, d3] }
  | _ => none }
def DensTurnedWrongFalsely : Prop := densTurnedRow.holds Try.pinned (OpenSpec.ofChange densTurnedWrong)

/-- 'penumbralaw16.DensSlopes': WHATEVER THE INPUT: true; the input reads as it did. -/
def densSlopesSpec : ChangeSpec := { name := "densSlopes", fn := fun _ => fun
  | [d1, d2, d3] => { results := [.lit (.bool true)], args := [d1, d2, d3] }
  | _ => none }
def densSlopesRow : OpenClaim := { program := "ytgnhhdgepnfnmaa", sum := "e881d93614e85aba401d902de2df79b168136c80dbb2553b3326777e8e540959", func := "penumbra/penumbralaw16.DensSlopes", spec := "densSlopes", named := ["math/bits.overflowError"], apart := false }
def DensSlopesSaid : Prop := densSlopesRow.holds Try.pinned (OpenSpec.ofChange densSlopesSpec)

/-- ITS FALSE NEIGHBOUR: 'it returns false'. Refute it at one input. -/
def densSlopesWrong : ChangeSpec := { name := "densSlopes", fn := fun _ => fun
  | [d1, d2, d3] => { results := [.lit (.bool false)], args := [d1, d2, d3] }
  | _ => none }
def DensSlopesWrongFalsely : Prop := densSlopesRow.holds Try.pinned (OpenSpec.ofChange densSlopesWrong)

/-- 'penumbralaw16.DensFar': WHATEVER THE INPUT: true; the input reads as it did. -/
def densFarSpec : ChangeSpec := { name := "densFar", fn := fun _ => fun
  | [d1, d2, d3] => { results := [.lit (.bool true)], args := [d1, d2, d3] }
  | _ => none }
def densFarRow : OpenClaim := { program := "ytgnhhdgepnfnmaa", sum := "e881d93614e85aba401d902de2df79b168136c80dbb2553b3326777e8e540959", func := "penumbra/penumbralaw16.DensFar", spec := "densFar", named := ["math/bits.overflowError"], apart := false }
def DensFarSaid : Prop := densFarRow.holds Try.pinned (OpenSpec.ofChange densFarSpec)

/-- ITS FALSE NEIGHBOUR: 'it returns false'. Refute it at one input. -/
def densFarWrong : ChangeSpec := { name := "densFar", fn := fun _ => fun
  | [d1, d2, d3] => { results := [.lit (.bool false)], args := [d1, d2, d3] }
  | _ => none }
def DensFarWrongFalsely : Prop := densFarRow.holds Try.pinned (OpenSpec.ofChange densFarWrong)

/-- 'penumbralaw21.GridSlots': WHATEVER THE INPUT: true; the input reads as it did. -/
def gridSlotsSpec : ChangeSpec := { name := "gridSlots", fn := fun _ => fun
  | [d1, d2] => { results := [.lit (.bool true)], args := [d1, d2] }
  | _ => none }
def gridSlotsRow : OpenClaim := { program := "ytgnhhdgepnfnmaa", sum := "e881d93614e85aba401d902de2df79b168136c80dbb2553b3326777e8e540959", func := "penumbra/penumbralaw21.GridSlots", spec := "gridSlots", named := ["math/bits.overflowError"], apart := false }
def GridSlotsSaid : Prop := gridSlotsRow.holds Try.pinned (OpenSpec.ofChange gridSlotsSpec)

/-- ITS FALSE NEIGHBOUR: 'it returns false'. Refute it at one input. -/
def gridSlotsWrong : ChangeSpec := { name := "gridSlots", fn := fun _ => fun
  | [d1, d2] => { results := [.lit (.bool false)], args := [d1, d2] }
  | _ => none }
def GridSlotsWrongFalsely : Prop := gridSlotsRow.holds Try.pinned (OpenSpec.ofChange gridSlotsWrong)

/-- 'penumbralaw21.GridBuilds': WHATEVER THE INPUT: true; the input reads as it did. -/
def gridBuildsSpec : ChangeSpec := { name := "gridBuilds", fn := fun _ => fun
  | [d1, d2, d3] => { results := [.lit (.bool true)], args := [d1, d2, d3] }
  | _ => none }
def gridBuildsRow : OpenClaim := { program := "ytgnhhdgepnfnmaa", sum := "e881d93614e85aba401d902de2df79b168136c80dbb2553b3326777e8e540959", func := "penumbra/penumbralaw21.GridBuilds", spec := "gridBuilds", named := ["math/bits.overflowError"], apart := false }
def GridBuildsSaid : Prop := gridBuildsRow.holds Try.pinned (OpenSpec.ofChange gridBuildsSpec)

/-- ITS FALSE NEIGHBOUR: 'it returns false'. Refute it at one input. -/
def gridBuildsWrong : ChangeSpec := { name := "gridBuilds", fn := fun _ => fun
  | [d1, d2, d3] => { results := [.lit (.bool false)], args := [d1, d2, d3] }
  | _ => none }
def GridBuildsWrongFalsely : Prop := gridBuildsRow.holds Try.pinned (OpenSpec.ofChange gridBuildsWrong)

/- THE SECOND FORM. 'bulk': how many values and letters a reading holds, each counted each time it is reached (what is shared counts as often as it is met; a slice's spare places count too). A statement '..UptoSaid' is the law's where the arguments, and the package variables that the reading takes, are together of bulk at most 1048576: NARROWER than '..Said'. Prove '..Said' where nothing that the law and all that it calls make is longer than what came in: it says more and counts as full. Else prove '..UptoSaid'. A law counts once. -/
mutual
def uptoBulk {H : Type} : DataW H → Nat
  | .lit (.string bytes) => bytes.length + 1
  | .lit _ => 1
  | .nil => 1
  | .ptr d => uptoBulk d + 1
  | .slice elems spare => uptoBulkAll elems + uptoBulkAll spare + 1
  | .agg parts => uptoBulkAll parts + 1
  | .iface _ d => uptoBulk d + 1
  | .map entries => uptoBulkEntries entries + 1
  | .held _ => 1
def uptoBulkAll {H : Type} : List (DataW H) → Nat
  | [] => 0
  | d :: r => uptoBulk d + uptoBulkAll r
def uptoBulkEntries {H : Type} : List (Lit × DataW H) → Nat
  | [] => 0
  | x :: r => uptoBulkEntry x + uptoBulkEntries r
def uptoBulkEntry {H : Type} : Lit × DataW H → Nat
  | (.string bytes, d) => bytes.length + uptoBulk d + 1
  | (_, d) => uptoBulk d + 1
 end
def uptoSmall : (H : Type) → List (DataW H) → Bool := fun _ ds => decide (uptoBulkAll ds ≤ 1048576)
def OpenSpec.upto (s : _root_.Go.ChangeSpec) : _root_.Go.OpenSpec := { _root_.Go.OpenSpec.ofChange s with cond := some uptoSmall }

/-- 'penumbralaw13.DrawsUnits', WHERE WHAT IT READS IS OF BULK AT MOST 1048576: true; the input reads as it did. -/
def drawsUnitsUptoRow : OpenClaim := { program := "ytgnhhdgepnfnmaa", sum := "e881d93614e85aba401d902de2df79b168136c80dbb2553b3326777e8e540959", func := "penumbra/penumbralaw13.DrawsUnits", spec := "drawsUnits", named := ["math/bits.overflowError"], apart := false, narrowed := true }
def DrawsUnitsUptoSaid : Prop := drawsUnitsUptoRow.holds Try.pinned (OpenSpec.upto drawsUnitsSpec)

/-- 'penumbralaw13.DrawsOnce', WHERE WHAT IT READS IS OF BULK AT MOST 1048576: true; the input reads as it did. -/
def drawsOnceUptoRow : OpenClaim := { program := "ytgnhhdgepnfnmaa", sum := "e881d93614e85aba401d902de2df79b168136c80dbb2553b3326777e8e540959", func := "penumbra/penumbralaw13.DrawsOnce", spec := "drawsOnce", named := ["math/bits.overflowError"], apart := false, narrowed := true }
def DrawsOnceUptoSaid : Prop := drawsOnceUptoRow.holds Try.pinned (OpenSpec.upto drawsOnceSpec)

/-- 'penumbralaw13.DrawsPlaces', WHERE WHAT IT READS IS OF BULK AT MOST 1048576: true; the input reads as it did. -/
def drawsPlacesUptoRow : OpenClaim := { program := "ytgnhhdgepnfnmaa", sum := "e881d93614e85aba401d902de2df79b168136c80dbb2553b3326777e8e540959", func := "penumbra/penumbralaw13.DrawsPlaces", spec := "drawsPlaces", named := ["math/bits.overflowError"], apart := false, narrowed := true }
def DrawsPlacesUptoSaid : Prop := drawsPlacesUptoRow.holds Try.pinned (OpenSpec.upto drawsPlacesSpec)

/-- 'penumbralaw14.WarpPicks', WHERE WHAT IT READS IS OF BULK AT MOST 1048576: true; the input reads as it did. -/
def warpPicksUptoRow : OpenClaim := { program := "ytgnhhdgepnfnmaa", sum := "e881d93614e85aba401d902de2df79b168136c80dbb2553b3326777e8e540959", func := "penumbra/penumbralaw14.WarpPicks", spec := "warpPicks", named := ["math/bits.overflowError"], apart := false, narrowed := true }
def WarpPicksUptoSaid : Prop := warpPicksUptoRow.holds Try.pinned (OpenSpec.upto warpPicksSpec)

/-- 'penumbralaw03.RatCanon', WHERE WHAT IT READS IS OF BULK AT MOST 1048576: true; the input reads as it did. -/
def ratCanonUptoRow : OpenClaim := { program := "ytgnhhdgepnfnmaa", sum := "e881d93614e85aba401d902de2df79b168136c80dbb2553b3326777e8e540959", func := "penumbra/penumbralaw03.RatCanon", spec := "ratCanon", named := ["math/bits.overflowError"], apart := false, narrowed := true }
def RatCanonUptoSaid : Prop := ratCanonUptoRow.holds Try.pinned (OpenSpec.upto ratCanonSpec)

/-- 'penumbralaw16.DensTurned', WHERE WHAT IT READS IS OF BULK AT MOST 1048576: true; the input reads as it did. -/
def densTurnedUptoRow : OpenClaim := { program := "ytgnhhdgepnfnmaa", sum := "e881d93614e85aba401d902de2df79b168136c80dbb2553b3326777e8e540959", func := "penumbra/penumbralaw16.DensTurned", spec := "densTurned", unfollowed := true, recurses := true, named := ["math/bits.overflowError"], apart := false, narrowed := true }
def DensTurnedUptoSaid : Prop := densTurnedUptoRow.holds Try.pinned (OpenSpec.upto densTurnedSpec)

/-- 'penumbralaw16.DensSlopes', WHERE WHAT IT READS IS OF BULK AT MOST 1048576: true; the input reads as it did. -/
def densSlopesUptoRow : OpenClaim := { program := "ytgnhhdgepnfnmaa", sum := "e881d93614e85aba401d902de2df79b168136c80dbb2553b3326777e8e540959", func := "penumbra/penumbralaw16.DensSlopes", spec := "densSlopes", named := ["math/bits.overflowError"], apart := false, narrowed := true }
def DensSlopesUptoSaid : Prop := densSlopesUptoRow.holds Try.pinned (OpenSpec.upto densSlopesSpec)

/-- 'penumbralaw16.DensFar', WHERE WHAT IT READS IS OF BULK AT MOST 1048576: true; the input reads as it did. -/
def densFarUptoRow : OpenClaim := { program := "ytgnhhdgepnfnmaa", sum := "e881d93614e85aba401d902de2df79b168136c80dbb2553b3326777e8e540959", func := "penumbra/penumbralaw16.DensFar", spec := "densFar", named := ["math/bits.overflowError"], apart := false, narrowed := true }
def DensFarUptoSaid : Prop := densFarUptoRow.holds Try.pinned (OpenSpec.upto densFarSpec)

/-- 'penumbralaw21.GridSlots', WHERE WHAT IT READS IS OF BULK AT MOST 1048576: true; the input reads as it did. -/
def gridSlotsUptoRow : OpenClaim := { program := "ytgnhhdgepnfnmaa", sum := "e881d93614e85aba401d902de2df79b168136c80dbb2553b3326777e8e540959", func := "penumbra/penumbralaw21.GridSlots", spec := "gridSlots", named := ["math/bits.overflowError"], apart := false, narrowed := true }
def GridSlotsUptoSaid : Prop := gridSlotsUptoRow.holds Try.pinned (OpenSpec.upto gridSlotsSpec)

/-- 'penumbralaw21.GridBuilds', WHERE WHAT IT READS IS OF BULK AT MOST 1048576: true; the input reads as it did. -/
def gridBuildsUptoRow : OpenClaim := { program := "ytgnhhdgepnfnmaa", sum := "e881d93614e85aba401d902de2df79b168136c80dbb2553b3326777e8e540959", func := "penumbra/penumbralaw21.GridBuilds", spec := "gridBuilds", named := ["math/bits.overflowError"], apart := false, narrowed := true }
def GridBuildsUptoSaid : Prop := gridBuildsUptoRow.holds Try.pinned (OpenSpec.upto gridBuildsSpec)

end Rows
end Go.Proofs.Ytgnhhdgepnfnmaa

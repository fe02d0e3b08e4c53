/-
  No cell of these rows narrows 'for every input' (looked for: loops, veiled, ifaces, maps, wideKeys, modest, calm, conditions, laid).
  DERIVED. THE GIVEN ROWS OF THIS SEAT. 12 by the template 'for every input the law returns true; each argument reads behind the call as it read before'; 0 by the template 'total and deterministic' (their statements: YtgoendglkhilkaaTotals.lean).
  GIVEN WITH THE SEED: the statements are not yours to turn. If you find one false, say at which input.
  Laid BY PROGRAM, IN A SANDBOX (cutbox-rows.mjs): the forced cells as the released guide's own fill.sh prints them over the translation 034556a04f70c1ba… (all of the seat's roots in one cut). By AI agents, Wed Nov 11 2026. No macro, syntax, notation, axiom, sorry.
-/
import Derived.Test.YtgoendglkhilkaaChecked
import GoSem.Claim
import GoSem.ClaimJoined
import GoSem.ClaimMapViews
import Derived.JoinedTies
import Derived.KernelRfl
namespace Go.Proofs.Ytgoendglkhilkaa
/- THE CELL 'sum', in the pinned program and in every row, IS THE sha256 OF THE DUMP (.gsa) THAT YtgoendglkhilkaaProg.lean LOADS. Nothing in Lean hashes anything: it is a label: what it is worth is what the hold of that sum in a sandbox is worth. -/
noncomputable def Try.pinned : Pinned := { name := "ytgoendglkhilkaa", sum := "034556a04f70c1baf7f980601cd617c23a5e3de1b90e11a58bb00ec87f4b23ee", checked := Try.checked }
namespace Rows
def none {H : Type} : Left H := { results := [], args := [] }

/-- 'penumbralaw13.DrawsChecks': WHATEVER THE INPUT: true; the input reads as it did. -/
def drawsChecksSpec : ChangeSpec := { name := "drawsChecks", fn := fun _ => fun
  | [d1, d2, d3] => { results := [.lit (.bool true)], args := [d1, d2, d3] }
  | _ => none }
def drawsChecksRow : OpenClaim := { program := "ytgoendglkhilkaa", sum := "034556a04f70c1baf7f980601cd617c23a5e3de1b90e11a58bb00ec87f4b23ee", func := "penumbra/penumbralaw13.DrawsChecks", spec := "drawsChecks", named := ["math/bits.overflowError"], apart := false }
def DrawsChecksSaid : Prop := drawsChecksRow.holds Try.pinned (OpenSpec.ofChange drawsChecksSpec)

/-- ITS FALSE NEIGHBOUR: 'it returns false'. Refute it at one input. -/
def drawsChecksWrong : ChangeSpec := { name := "drawsChecks", fn := fun _ => fun
  | [d1, d2, d3] => { results := [.lit (.bool false)], args := [d1, d2, d3] }
  | _ => none }
def DrawsChecksWrongFalsely : Prop := drawsChecksRow.holds Try.pinned (OpenSpec.ofChange drawsChecksWrong)

/-- 'penumbralaw13.DrawsPasses': WHATEVER THE INPUT: true; the input reads as it did. -/
def drawsPassesSpec : ChangeSpec := { name := "drawsPasses", fn := fun _ => fun
  | [d] => { results := [.lit (.bool true)], args := [d] }
  | _ => none }
def drawsPassesRow : OpenClaim := { program := "ytgoendglkhilkaa", sum := "034556a04f70c1baf7f980601cd617c23a5e3de1b90e11a58bb00ec87f4b23ee", func := "penumbra/penumbralaw13.DrawsPasses", spec := "drawsPasses", named := ["math/bits.overflowError"], apart := false }
def DrawsPassesSaid : Prop := drawsPassesRow.holds Try.pinned (OpenSpec.ofChange drawsPassesSpec)

/-- ITS FALSE NEIGHBOUR: 'it returns false'. Refute it at one input. -/
def drawsPassesWrong : ChangeSpec := { name := "drawsPasses", fn := fun _ => fun
  | [d] => { results := [.lit (.bool false)], args := [d] }
  | _ => none }
def DrawsPassesWrongFalsely : Prop := drawsPassesRow.holds Try.pinned (OpenSpec.ofChange drawsPassesWrong)

/-- 'penumbralaw13.DrawsPlaces': WHATEVER THE INPUT: true; the input reads as it did. -/
def drawsPlacesSpec : ChangeSpec := { name := "drawsPlaces", fn := fun _ => fun
  | [d] => { results := [.lit (.bool true)], args := [d] }
  | _ => none }
def drawsPlacesRow : OpenClaim := { program := "ytgoendglkhilkaa", sum := "034556a04f70c1baf7f980601cd617c23a5e3de1b90e11a58bb00ec87f4b23ee", func := "penumbra/penumbralaw13.DrawsPlaces", spec := "drawsPlaces", named := ["math/bits.overflowError"], apart := false }
def DrawsPlacesSaid : Prop := drawsPlacesRow.holds Try.pinned (OpenSpec.ofChange drawsPlacesSpec)

/-- ITS FALSE NEIGHBOUR: 'it returns false'. Refute it at one input. -/
def drawsPlacesWrong : ChangeSpec := { name := "drawsPlaces", fn := fun _ => fun
  | [d] => { results := [.lit (.bool false)], args := [d] }
  | _ => none }
def DrawsPlacesWrongFalsely : Prop := drawsPlacesRow.holds Try.pinned (OpenSpec.ofChange drawsPlacesWrong)

/-- 'penumbralaw13.DrawsOnce': WHATEVER THE INPUT: true; the input reads as it did. -/
def drawsOnceSpec : ChangeSpec := { name := "drawsOnce", fn := fun _ => fun
  | [d] => { results := [.lit (.bool true)], args := [d] }
  | _ => none }
def drawsOnceRow : OpenClaim := { program := "ytgoendglkhilkaa", sum := "034556a04f70c1baf7f980601cd617c23a5e3de1b90e11a58bb00ec87f4b23ee", func := "penumbra/penumbralaw13.DrawsOnce", spec := "drawsOnce", named := ["math/bits.overflowError"], apart := false }
def DrawsOnceSaid : Prop := drawsOnceRow.holds Try.pinned (OpenSpec.ofChange drawsOnceSpec)

/-- ITS FALSE NEIGHBOUR: 'it returns false'. Refute it at one input. -/
def drawsOnceWrong : ChangeSpec := { name := "drawsOnce", fn := fun _ => fun
  | [d] => { results := [.lit (.bool false)], args := [d] }
  | _ => none }
def DrawsOnceWrongFalsely : Prop := drawsOnceRow.holds Try.pinned (OpenSpec.ofChange drawsOnceWrong)

/-- 'penumbralaw03.RatRoots': WHATEVER THE INPUT: true; the input reads as it did. -/
def ratRootsSpec : ChangeSpec := { name := "ratRoots", fn := fun _ => fun
  | [d] => { results := [.lit (.bool true)], args := [d] }
  | _ => none }
def ratRootsRow : OpenClaim := { program := "ytgoendglkhilkaa", sum := "034556a04f70c1baf7f980601cd617c23a5e3de1b90e11a58bb00ec87f4b23ee", func := "penumbra/penumbralaw03.RatRoots", spec := "ratRoots", named := ["math/bits.overflowError"], apart := false }
def RatRootsSaid : Prop := ratRootsRow.holds Try.pinned (OpenSpec.ofChange ratRootsSpec)

/-- ITS FALSE NEIGHBOUR: 'it returns false'. Refute it at one input. -/
def ratRootsWrong : ChangeSpec := { name := "ratRoots", fn := fun _ => fun
  | [d] => { results := [.lit (.bool false)], args := [d] }
  | _ => none }
def RatRootsWrongFalsely : Prop := ratRootsRow.holds Try.pinned (OpenSpec.ofChange ratRootsWrong)

/-- 'penumbralaw03.RatField': WHATEVER THE INPUT: true; the input reads as it did. -/
def ratFieldSpec : ChangeSpec := { name := "ratField", fn := fun _ => fun
  | [d1, d2, d3] => { results := [.lit (.bool true)], args := [d1, d2, d3] }
  | _ => none }
def ratFieldRow : OpenClaim := { program := "ytgoendglkhilkaa", sum := "034556a04f70c1baf7f980601cd617c23a5e3de1b90e11a58bb00ec87f4b23ee", func := "penumbra/penumbralaw03.RatField", spec := "ratField", named := ["math/bits.overflowError"], apart := false }
def RatFieldSaid : Prop := ratFieldRow.holds Try.pinned (OpenSpec.ofChange ratFieldSpec)

/-- ITS FALSE NEIGHBOUR: 'it returns false'. Refute it at one input. -/
def ratFieldWrong : ChangeSpec := { name := "ratField", fn := fun _ => fun
  | [d1, d2, d3] => { results := [.lit (.bool false)], args := [d1, d2, d3] }
  | _ => none }
def RatFieldWrongFalsely : Prop := ratFieldRow.holds Try.pinned (OpenSpec.ofChange ratFieldWrong)

/-- 'penumbralaw03.RatOrders': WHATEVER THE INPUT: true; the input reads as it did. -/
def ratOrdersSpec : ChangeSpec := { name := "ratOrders", fn := fun _ => fun
  | [d1, d2, d3] => { results := [.lit (.bool true)], args := [d1, d2, d3] }
  | _ => none }
def ratOrdersRow : OpenClaim := { program := "ytgoendglkhilkaa", sum := "034556a04f70c1baf7f980601cd617c23a5e3de1b90e11a58bb00ec87f4b23ee", func := "penumbra/penumbralaw03.RatOrders", spec := "ratOrders", named := ["math/bits.overflowError"], apart := false }
def RatOrdersSaid : Prop := ratOrdersRow.holds Try.pinned (OpenSpec.ofChange ratOrdersSpec)

/-- ITS FALSE NEIGHBOUR: 'it returns false'. Refute it at one input. -/
def ratOrdersWrong : ChangeSpec := { name := "ratOrders", fn := fun _ => fun
  | [d1, d2, d3] => { results := [.lit (.bool false)], args := [d1, d2, d3] }
  | _ => none }
def RatOrdersWrongFalsely : Prop := ratOrdersRow.holds Try.pinned (OpenSpec.ofChange ratOrdersWrong)

/-- 'penumbralaw03.RatReckons': WHATEVER THE INPUT: true; the input reads as it did. -/
def ratReckonsSpec : ChangeSpec := { name := "ratReckons", fn := fun _ => fun
  | [d1, d2] => { results := [.lit (.bool true)], args := [d1, d2] }
  | _ => none }
def ratReckonsRow : OpenClaim := { program := "ytgoendglkhilkaa", sum := "034556a04f70c1baf7f980601cd617c23a5e3de1b90e11a58bb00ec87f4b23ee", func := "penumbra/penumbralaw03.RatReckons", spec := "ratReckons", named := ["math/bits.overflowError"], apart := false }
def RatReckonsSaid : Prop := ratReckonsRow.holds Try.pinned (OpenSpec.ofChange ratReckonsSpec)

/-- ITS FALSE NEIGHBOUR: 'it returns false'. Refute it at one input. -/
def ratReckonsWrong : ChangeSpec := { name := "ratReckons", fn := fun _ => fun
  | [d1, d2] => { results := [.lit (.bool false)], args := [d1, d2] }
  | _ => none }
def RatReckonsWrongFalsely : Prop := ratReckonsRow.holds Try.pinned (OpenSpec.ofChange ratReckonsWrong)

/-- 'penumbralaw03.RatReads': WHATEVER THE INPUT: true; the input reads as it did. -/
def ratReadsSpec : ChangeSpec := { name := "ratReads", fn := fun _ => fun
  | [d1, d2, d3] => { results := [.lit (.bool true)], args := [d1, d2, d3] }
  | _ => none }
def ratReadsRow : OpenClaim := { program := "ytgoendglkhilkaa", sum := "034556a04f70c1baf7f980601cd617c23a5e3de1b90e11a58bb00ec87f4b23ee", func := "penumbra/penumbralaw03.RatReads", spec := "ratReads", named := ["math/bits.overflowError"], apart := false }
def RatReadsSaid : Prop := ratReadsRow.holds Try.pinned (OpenSpec.ofChange ratReadsSpec)

/-- ITS FALSE NEIGHBOUR: 'it returns false'. Refute it at one input. -/
def ratReadsWrong : ChangeSpec := { name := "ratReads", fn := fun _ => fun
  | [d1, d2, d3] => { results := [.lit (.bool false)], args := [d1, d2, d3] }
  | _ => none }
def RatReadsWrongFalsely : Prop := ratReadsRow.holds Try.pinned (OpenSpec.ofChange ratReadsWrong)

/-- 'penumbralaw03.RatCanon': WHATEVER THE INPUT: true; the input reads as it did. -/
def ratCanonSpec : ChangeSpec := { name := "ratCanon", fn := fun _ => fun
  | [d1, d2] => { results := [.lit (.bool true)], args := [d1, d2] }
  | _ => none }
def ratCanonRow : OpenClaim := { program := "ytgoendglkhilkaa", sum := "034556a04f70c1baf7f980601cd617c23a5e3de1b90e11a58bb00ec87f4b23ee", func := "penumbra/penumbralaw03.RatCanon", spec := "ratCanon", named := ["math/bits.overflowError"], apart := false }
def RatCanonSaid : Prop := ratCanonRow.holds Try.pinned (OpenSpec.ofChange ratCanonSpec)

/-- ITS FALSE NEIGHBOUR: 'it returns false'. Refute it at one input. -/
def ratCanonWrong : ChangeSpec := { name := "ratCanon", fn := fun _ => fun
  | [d1, d2] => { results := [.lit (.bool false)], args := [d1, d2] }
  | _ => none }
def RatCanonWrongFalsely : Prop := ratCanonRow.holds Try.pinned (OpenSpec.ofChange ratCanonWrong)

/-- 'penumbralaw06.FrameLays': WHATEVER THE INPUT: true; the input reads as it did. -/
def frameLaysSpec : ChangeSpec := { name := "frameLays", fn := fun _ => fun
  | [d] => { results := [.lit (.bool true)], args := [d] }
  | _ => none }
def frameLaysRow : OpenClaim := { program := "ytgoendglkhilkaa", sum := "034556a04f70c1baf7f980601cd617c23a5e3de1b90e11a58bb00ec87f4b23ee", func := "penumbra/penumbralaw06.FrameLays", spec := "frameLays", named := ["math/bits.overflowError"], apart := false }
def FrameLaysSaid : Prop := frameLaysRow.holds Try.pinned (OpenSpec.ofChange frameLaysSpec)

/-- ITS FALSE NEIGHBOUR: 'it returns false'. Refute it at one input. -/
def frameLaysWrong : ChangeSpec := { name := "frameLays", fn := fun _ => fun
  | [d] => { results := [.lit (.bool false)], args := [d] }
  | _ => none }
def FrameLaysWrongFalsely : Prop := frameLaysRow.holds Try.pinned (OpenSpec.ofChange frameLaysWrong)

/-- 'penumbralaw05.VecUnits': WHATEVER THE INPUT: true; the input reads as it did. -/
def vecUnitsSpec : ChangeSpec := { name := "vecUnits", fn := fun _ => fun
  | [d] => { results := [.lit (.bool true)], args := [d] }
  | _ => none }
def vecUnitsRow : OpenClaim := { program := "ytgoendglkhilkaa", sum := "034556a04f70c1baf7f980601cd617c23a5e3de1b90e11a58bb00ec87f4b23ee", func := "penumbra/penumbralaw05.VecUnits", spec := "vecUnits", named := ["math/bits.overflowError"], apart := false }
def VecUnitsSaid : Prop := vecUnitsRow.holds Try.pinned (OpenSpec.ofChange vecUnitsSpec)

/-- ITS FALSE NEIGHBOUR: 'it returns false'. Refute it at one input. -/
def vecUnitsWrong : ChangeSpec := { name := "vecUnits", fn := fun _ => fun
  | [d] => { results := [.lit (.bool false)], args := [d] }
  | _ => none }
def VecUnitsWrongFalsely : Prop := vecUnitsRow.holds Try.pinned (OpenSpec.ofChange vecUnitsWrong)

/- THE SECOND FORM. 'bulk': how many values and letters a reading holds, each counted each time it is reached (what is shared counts as often as it is met; a slice's spare places count too). A statement '..UptoSaid' is the law's where the arguments, and the package variables that the reading takes, are together of bulk at most 1048576: NARROWER than '..Said'. Prove '..Said' where nothing that the law and all that it calls make is longer than what came in: it says more and counts as full. Else prove '..UptoSaid'. A law counts once. -/
mutual
def uptoBulk {H : Type} : DataW H → Nat
  | .lit (.string bytes) => bytes.length + 1
  | .lit _ => 1
  | .nil => 1
  | .ptr d => uptoBulk d + 1
  | .slice elems spare => uptoBulkAll elems + uptoBulkAll spare + 1
  | .agg parts => uptoBulkAll parts + 1
  | .iface _ d => uptoBulk d + 1
  | .map entries => uptoBulkEntries entries + 1
  | .held _ => 1
def uptoBulkAll {H : Type} : List (DataW H) → Nat
  | [] => 0
  | d :: r => uptoBulk d + uptoBulkAll r
def uptoBulkEntries {H : Type} : List (Lit × DataW H) → Nat
  | [] => 0
  | x :: r => uptoBulkEntry x + uptoBulkEntries r
def uptoBulkEntry {H : Type} : Lit × DataW H → Nat
  | (.string bytes, d) => bytes.length + uptoBulk d + 1
  | (_, d) => uptoBulk d + 1
 end
def uptoSmall : (H : Type) → List (DataW H) → Bool := fun _ ds => decide (uptoBulkAll ds ≤ 1048576)
def OpenSpec.upto (s : _root_.Go.ChangeSpec) : _root_.Go.OpenSpec := { _root_.Go.OpenSpec.ofChange s with cond := some uptoSmall }

/-- 'penumbralaw13.DrawsChecks', WHERE WHAT IT READS IS OF BULK AT MOST 1048576: true; the input reads as it did. -/
def drawsChecksUptoRow : OpenClaim := { program := "ytgoendglkhilkaa", sum := "034556a04f70c1baf7f980601cd617c23a5e3de1b90e11a58bb00ec87f4b23ee", func := "penumbra/penumbralaw13.DrawsChecks", spec := "drawsChecks", named := ["math/bits.overflowError"], apart := false, narrowed := true }
def DrawsChecksUptoSaid : Prop := drawsChecksUptoRow.holds Try.pinned (OpenSpec.upto drawsChecksSpec)

/-- 'penumbralaw13.DrawsPasses', WHERE WHAT IT READS IS OF BULK AT MOST 1048576: true; the input reads as it did. -/
def drawsPassesUptoRow : OpenClaim := { program := "ytgoendglkhilkaa", sum := "034556a04f70c1baf7f980601cd617c23a5e3de1b90e11a58bb00ec87f4b23ee", func := "penumbra/penumbralaw13.DrawsPasses", spec := "drawsPasses", named := ["math/bits.overflowError"], apart := false, narrowed := true }
def DrawsPassesUptoSaid : Prop := drawsPassesUptoRow.holds Try.pinned (OpenSpec.upto drawsPassesSpec)

/-- 'penumbralaw13.DrawsPlaces', WHERE WHAT IT READS IS OF BULK AT MOST 1048576: true; the input reads as it did. -/
def drawsPlacesUptoRow : OpenClaim := { program := "ytgoendglkhilkaa", sum := "034556a04f70c1baf7f980601cd617c23a5e3de1b90e11a58bb00ec87f4b23ee", func := "penumbra/penumbralaw13.DrawsPlaces", spec := "drawsPlaces", named := ["math/bits.overflowError"], apart := false, narrowed := true }
def DrawsPlacesUptoSaid : Prop := drawsPlacesUptoRow.holds Try.pinned (OpenSpec.upto drawsPlacesSpec)

/-- 'penumbralaw13.DrawsOnce', WHERE WHAT IT READS IS OF BULK AT MOST 1048576: true; the input reads as it did. -/
def drawsOnceUptoRow : OpenClaim := { program := "ytgoendglkhilkaa", sum := "034556a04f70c1baf7f980601cd617c23a5e3de1b90e11a58bb00ec87f4b23ee", func := "penumbra/penumbralaw13.DrawsOnce", spec := "drawsOnce", named := ["math/bits.overflowError"], apart := false, narrowed := true }
def DrawsOnceUptoSaid : Prop := drawsOnceUptoRow.holds Try.pinned (OpenSpec.upto drawsOnceSpec)

/-- 'penumbralaw03.RatRoots', WHERE WHAT IT READS IS OF BULK AT MOST 1048576: true; the input reads as it did. -/
def ratRootsUptoRow : OpenClaim := { program := "ytgoendglkhilkaa", sum := "034556a04f70c1baf7f980601cd617c23a5e3de1b90e11a58bb00ec87f4b23ee", func := "penumbra/penumbralaw03.RatRoots", spec := "ratRoots", named := ["math/bits.overflowError"], apart := false, narrowed := true }
def RatRootsUptoSaid : Prop := ratRootsUptoRow.holds Try.pinned (OpenSpec.upto ratRootsSpec)

/-- 'penumbralaw03.RatField', WHERE WHAT IT READS IS OF BULK AT MOST 1048576: true; the input reads as it did. -/
def ratFieldUptoRow : OpenClaim := { program := "ytgoendglkhilkaa", sum := "034556a04f70c1baf7f980601cd617c23a5e3de1b90e11a58bb00ec87f4b23ee", func := "penumbra/penumbralaw03.RatField", spec := "ratField", named := ["math/bits.overflowError"], apart := false, narrowed := true }
def RatFieldUptoSaid : Prop := ratFieldUptoRow.holds Try.pinned (OpenSpec.upto ratFieldSpec)

/-- 'penumbralaw03.RatOrders', WHERE WHAT IT READS IS OF BULK AT MOST 1048576: true; the input reads as it did. -/
def ratOrdersUptoRow : OpenClaim := { program := "ytgoendglkhilkaa", sum := "034556a04f70c1baf7f980601cd617c23a5e3de1b90e11a58bb00ec87f4b23ee", func := "penumbra/penumbralaw03.RatOrders", spec := "ratOrders", named := ["math/bits.overflowError"], apart := false, narrowed := true }
def RatOrdersUptoSaid : Prop := ratOrdersUptoRow.holds Try.pinned (OpenSpec.upto ratOrdersSpec)

/-- 'penumbralaw03.RatReckons', WHERE WHAT IT READS IS OF BULK AT MOST 1048576: true; the input reads as it did. -/
def ratReckonsUptoRow : OpenClaim := { program := "ytgoendglkhilkaa", sum := "034556a04f70c1baf7f980601cd617c23a5e3de1b90e11a58bb00ec87f4b23ee", func := "penumbra/penumbralaw03.RatReckons", spec := "ratReckons", named := ["math/bits.overflowError"], apart := false, narrowed := true }
def RatReckonsUptoSaid : Prop := ratReckonsUptoRow.holds Try.pinned (OpenSpec.upto ratReckonsSpec)

/-- 'penumbralaw03.RatReads', WHERE WHAT IT READS IS OF BULK AT MOST 1048576: true; the input reads as it did. -/
def ratReadsUptoRow : OpenClaim := { program := "ytgoendglkhilkaa", sum := "034556a04f70c1baf7f980601cd617c23a5e3de1b90e11a58bb00ec87f4b23ee", func := "penumbra/penumbralaw03.RatReads", spec := "ratReads", named := ["math/bits.overflowError"], apart := false, narrowed := true }
def RatReadsUptoSaid : Prop := ratReadsUptoRow.holds Try.pinned (OpenSpec.upto ratReadsSpec)

/-- 'penumbralaw03.RatCanon', WHERE WHAT IT READS IS OF BULK AT MOST 1048576: true; the input reads as it did. -/
def ratCanonUptoRow : OpenClaim := { program := "ytgoendglkhilkaa", sum := "034556a04f70c1baf7f980601cd617c23a5e3de1b90e11a58bb00ec87f4b23ee", func := "penumbra/penumbralaw03.RatCanon", spec := "ratCanon", named := ["math/bits.overflowError"], apart := false, narrowed := true }
def RatCanonUptoSaid : Prop := ratCanonUptoRow.holds Try.pinned (OpenSpec.upto ratCanonSpec)

/-- 'penumbralaw06.FrameLays', WHERE WHAT IT READS IS OF BULK AT MOST 1048576: true; the input reads as it did. -/
def frameLaysUptoRow : OpenClaim := { program := "ytgoendglkhilkaa", sum := "034556a04f70c1baf7f980601cd617c23a5e3de1b90e11a58bb00ec87f4b23ee", func := "penumbra/penumbralaw06.FrameLays", spec := "frameLays", named := ["math/bits.overflowError"], apart := false, narrowed := true }
def FrameLaysUptoSaid : Prop := frameLaysUptoRow.holds Try.pinned (OpenSpec.upto frameLaysSpec)

/-- 'penumbralaw05.VecUnits', WHERE WHAT IT READS IS OF BULK AT MOST 1048576: true; the input reads as it did. -/
def vecUnitsUptoRow : OpenClaim := { program := "ytgoendglkhilkaa", sum := "034556a04f70c1baf7f980601cd617c23a5e3de1b90e11a58bb00ec87f4b23ee", func := "penumbra/penumbralaw05.VecUnits", spec := "vecUnits", named := ["math/bits.overflowError"], apart := false, narrowed := true }
def VecUnitsUptoSaid : Prop := vecUnitsUptoRow.holds Try.pinned (OpenSpec.upto vecUnitsSpec)

end Rows
end Go.Proofs.Ytgoendglkhilkaa

/-
  No cell of these rows narrows 'for every input' (looked for: loops, veiled, ifaces, maps, wideKeys, modest, calm, conditions, laid).
  DERIVED. THE GIVEN ROWS OF THIS SEAT. 5 by the template 'for every input the law returns true; each argument reads behind the call as it read before'; 0 by the template 'total and deterministic' (their statements: YtdkifeiejkikdaaTotals.lean).
  GIVEN WITH THE SEED: the statements are not yours to turn. If you find one false, say at which input.
  Laid BY PROGRAM, IN A SANDBOX (cutbox-rows.mjs): the forced cells as the released guide's own fill.sh prints them over the translation b48d3d9970d66398… (all of the seat's roots in one cut). By AI agents, Wed Nov 11 2026. No macro, syntax, notation, axiom, sorry.
-/
import Derived.Test.YtdkifeiejkikdaaChecked
import GoSem.Claim
import GoSem.ClaimJoined
import GoSem.ClaimMapViews
import Derived.JoinedTies
import Derived.KernelRfl
namespace Go.Proofs.Ytdkifeiejkikdaa
/- THE CELL 'sum', in the pinned program and in every row, IS THE sha256 OF THE DUMP (.gsa) THAT YtdkifeiejkikdaaProg.lean LOADS. Nothing in Lean hashes anything: it is a label: what it is worth is what the hold of that sum in a sandbox is worth. -/
noncomputable def Try.pinned : Pinned := { name := "ytdkifeiejkikdaa", sum := "b48d3d9970d6639817d754e0377e1c4a12873d5a53acda626a926391f8cf8747", checked := Try.checked }
namespace Rows
def none {H : Type} : Left H := { results := [], args := [] }

/-- 'penumbralaw22.BallCells': WHATEVER THE INPUT: true; the input reads as it did. -/
def ballCellsSpec : ChangeSpec := { name := "ballCells", fn := fun _ => fun
  | [d1, d2, d3] => { results := [.lit (.bool true)], args := [d1, d2, d3] }
  | _ => none }
def ballCellsRow : OpenClaim := { program := "ytdkifeiejkikdaa", sum := "b48d3d9970d6639817d754e0377e1c4a12873d5a53acda626a926391f8cf8747", func := "penumbra/penumbralaw22.BallCells", spec := "ballCells", recurses := true, named := ["math/bits.overflowError"], apart := false }
def BallCellsSaid : Prop := ballCellsRow.holds Try.pinned (OpenSpec.ofChange ballCellsSpec)

/-- ITS FALSE NEIGHBOUR: 'it returns false'. Refute it at one input. -/
def ballCellsWrong : ChangeSpec := { name := "ballCells", fn := fun _ => fun
  | [d1, d2, d3] => { results := [.lit (.bool false)], args := [d1, d2, d3] }
  | _ => none }
def BallCellsWrongFalsely : Prop := ballCellsRow.holds Try.pinned (OpenSpec.ofChange ballCellsWrong)

/-- 'penumbralaw22.BallGrows': WHATEVER THE INPUT: true; the input reads as it did. -/
def ballGrowsSpec : ChangeSpec := { name := "ballGrows", fn := fun _ => fun
  | [d1, d2] => { results := [.lit (.bool true)], args := [d1, d2] }
  | _ => none }
def ballGrowsRow : OpenClaim := { program := "ytdkifeiejkikdaa", sum := "b48d3d9970d6639817d754e0377e1c4a12873d5a53acda626a926391f8cf8747", func := "penumbra/penumbralaw22.BallGrows", spec := "ballGrows", recurses := true, named := ["math/bits.overflowError"], apart := false }
def BallGrowsSaid : Prop := ballGrowsRow.holds Try.pinned (OpenSpec.ofChange ballGrowsSpec)

/-- ITS FALSE NEIGHBOUR: 'it returns false'. Refute it at one input. -/
def ballGrowsWrong : ChangeSpec := { name := "ballGrows", fn := fun _ => fun
  | [d1, d2] => { results := [.lit (.bool false)], args := [d1, d2] }
  | _ => none }
def BallGrowsWrongFalsely : Prop := ballGrowsRow.holds Try.pinned (OpenSpec.ofChange ballGrowsWrong)

/-- 'penumbralaw22.BallBoth': WHATEVER THE INPUT: true; the input reads as it did. -/
def ballBothSpec : ChangeSpec := { name := "ballBoth", fn := fun _ => fun
  | [d] => { results := [.lit (.bool true)], args := [d] }
  | _ => none }
def ballBothRow : OpenClaim := { program := "ytdkifeiejkikdaa", sum := "b48d3d9970d6639817d754e0377e1c4a12873d5a53acda626a926391f8cf8747", func := "penumbra/penumbralaw22.BallBoth", spec := "ballBoth", recurses := true, named := ["math/bits.overflowError"], apart := false }
def BallBothSaid : Prop := ballBothRow.holds Try.pinned (OpenSpec.ofChange ballBothSpec)

/-- ITS FALSE NEIGHBOUR: 'it returns false'. Refute it at one input. -/
def ballBothWrong : ChangeSpec := { name := "ballBoth", fn := fun _ => fun
  | [d] => { results := [.lit (.bool false)], args := [d] }
  | _ => none }
def BallBothWrongFalsely : Prop := ballBothRow.holds Try.pinned (OpenSpec.ofChange ballBothWrong)

/-- 'penumbralaw23.KdFirst': WHATEVER THE INPUT: true; the input reads as it did. -/
def kdFirstSpec : ChangeSpec := { name := "kdFirst", fn := fun _ => fun
  | [d1, d2, d3] => { results := [.lit (.bool true)], args := [d1, d2, d3] }
  | _ => none }
def kdFirstRow : OpenClaim := { program := "ytdkifeiejkikdaa", sum := "b48d3d9970d6639817d754e0377e1c4a12873d5a53acda626a926391f8cf8747", func := "penumbra/penumbralaw23.KdFirst", spec := "kdFirst", unfollowed := true, recurses := true, named := ["math/bits.overflowError"], apart := false }
def KdFirstSaid : Prop := kdFirstRow.holds Try.pinned (OpenSpec.ofChange kdFirstSpec)

/-- ITS FALSE NEIGHBOUR: 'it returns false'. Refute it at one input. -/
def kdFirstWrong : ChangeSpec := { name := "kdFirst", fn := fun _ => fun
  | [d1, d2, d3] => { results := [.lit (.bool false)], args := [d1, d2, d3] }
  | _ => none }
def KdFirstWrongFalsely : Prop := kdFirstRow.holds Try.pinned (OpenSpec.ofChange kdFirstWrong)

/-- 'penumbralaw23.KdWild': WHATEVER THE INPUT: true; the input reads as it did. -/
def kdWildSpec : ChangeSpec := { name := "kdWild", fn := fun _ => fun
  | [d1, d2] => { results := [.lit (.bool true)], args := [d1, d2] }
  | _ => none }
def kdWildRow : OpenClaim := { program := "ytdkifeiejkikdaa", sum := "b48d3d9970d6639817d754e0377e1c4a12873d5a53acda626a926391f8cf8747", func := "penumbra/penumbralaw23.KdWild", spec := "kdWild", unfollowed := true, recurses := true, named := ["math/bits.overflowError"], apart := false }
def KdWildSaid : Prop := kdWildRow.holds Try.pinned (OpenSpec.ofChange kdWildSpec)

/-- ITS FALSE NEIGHBOUR: 'it returns false'. Refute it at one input. -/
def kdWildWrong : ChangeSpec := { name := "kdWild", fn := fun _ => fun
  | [d1, d2] => { results := [.lit (.bool false)], args := [d1, d2] }
  | _ => none }
def KdWildWrongFalsely : Prop := kdWildRow.holds Try.pinned (OpenSpec.ofChange kdWildWrong)

/- THE SECOND FORM. 'bulk': how many values and letters a reading holds, each counted each time it is reached (what is shared counts as often as it is met; a slice's spare places count too). A statement '..UptoSaid' is the law's where the arguments, and the package variables that the reading takes, are together of bulk at most 1048576: NARROWER than '..Said'. Prove '..Said' where nothing that the law and all that it calls make is longer than what came in: it says more and counts as full. Else prove '..UptoSaid'. A law counts once. -/
mutual
def uptoBulk {H : Type} : DataW H → Nat
  | .lit (.string bytes) => bytes.length + 1
  | .lit _ => 1
  | .nil => 1
  | .ptr d => uptoBulk d + 1
  | .slice elems spare => uptoBulkAll elems + uptoBulkAll spare + 1
  | .agg parts => uptoBulkAll parts + 1
  | .iface _ d => uptoBulk d + 1
  | .map entries => uptoBulkEntries entries + 1
  | .held _ => 1
def uptoBulkAll {H : Type} : List (DataW H) → Nat
  | [] => 0
  | d :: r => uptoBulk d + uptoBulkAll r
def uptoBulkEntries {H : Type} : List (Lit × DataW H) → Nat
  | [] => 0
  | x :: r => uptoBulkEntry x + uptoBulkEntries r
def uptoBulkEntry {H : Type} : Lit × DataW H → Nat
  | (.string bytes, d) => bytes.length + uptoBulk d + 1
  | (_, d) => uptoBulk d + 1
 end
def uptoSmall : (H : Type) → List (DataW H) → Bool := fun _ ds => decide (uptoBulkAll ds ≤ 1048576)
def OpenSpec.upto (s : _root_.Go.ChangeSpec) : _root_.Go.OpenSpec := { _root_.Go.OpenSpec.ofChange s with cond := some uptoSmall }

/-- 'penumbralaw22.BallCells', WHERE WHAT IT READS IS OF BULK AT MOST 1048576: true; the input reads as it did. -/
def ballCellsUptoRow : OpenClaim := { program := "ytdkifeiejkikdaa", sum := "b48d3d9970d6639817d754e0377e1c4a12873d5a53acda626a926391f8cf8747", func := "penumbra/penumbralaw22.BallCells", spec := "ballCells", recurses := true, named := ["math/bits.overflowError"], apart := false, narrowed := true }
def BallCellsUptoSaid : Prop := ballCellsUptoRow.holds Try.pinned (OpenSpec.upto ballCellsSpec)

/-- 'penumbralaw22.BallGrows', WHERE WHAT IT READS IS OF BULK AT MOST 1048576: true; the input reads as it did. -/
def ballGrowsUptoRow : OpenClaim := { program := "ytdkifeiejkikdaa", sum := "b48d3d9970d6639817d754e0377e1c4a12873d5a53acda626a926391f8cf8747", func := "penumbra/penumbralaw22.BallGrows", spec := "ballGrows", recurses := true, named := ["math/bits.overflowError"], apart := false, narrowed := true }
def BallGrowsUptoSaid : Prop := ballGrowsUptoRow.holds Try.pinned (OpenSpec.upto ballGrowsSpec)

/-- 'penumbralaw22.BallBoth', WHERE WHAT IT READS IS OF BULK AT MOST 1048576: true; the input reads as it did. -/
def ballBothUptoRow : OpenClaim := { program := "ytdkifeiejkikdaa", sum := "b48d3d9970d6639817d754e0377e1c4a12873d5a53acda626a926391f8cf8747", func := "penumbra/penumbralaw22.BallBoth", spec := "ballBoth", recurses := true, named := ["math/bits.overflowError"], apart := false, narrowed := true }
def BallBothUptoSaid : Prop := ballBothUptoRow.holds Try.pinned (OpenSpec.upto ballBothSpec)

/-- 'penumbralaw23.KdFirst', WHERE WHAT IT READS IS OF BULK AT MOST 1048576: true; the input reads as it did. -/
def kdFirstUptoRow : OpenClaim := { program := "ytdkifeiejkikdaa", sum := "b48d3d9970d6639817d754e0377e1c4a12873d5a53acda626a926391f8cf8747", func := "penumbra/penumbralaw23.KdFirst", spec := "kdFirst", unfollowed := true, recurses := true, named := ["math/bits.overflowError"], apart := false, narrowed := true }
def KdFirstUptoSaid : Prop := kdFirstUptoRow.holds Try.pinned (OpenSpec.upto kdFirstSpec)

/-- 'penumbralaw23.KdWild', WHERE WHAT IT READS IS OF BULK AT MOST 1048576: true; the input reads as it did. -/
def kdWildUptoRow : OpenClaim := { program := "ytdkifeiejkikdaa", sum := "b48d3d9970d6639817d754e0377e1c4a12873d5a53acda626a926391f8cf8747", func := "penumbra/penumbralaw23.KdWild", spec := "kdWild", unfollowed := true, recurses := true, named := ["math/bits.overflowError"], apart := false, narrowed := true }
def KdWildUptoSaid : Prop := kdWildUptoRow.holds Try.pinned (OpenSpec.upto kdWildSpec)

end Rows
end Go.Proofs.Ytdkifeiejkikdaa

/-
  No cell of these rows narrows 'for every input' (looked for: loops, veiled, ifaces, maps, wideKeys, modest, calm, conditions, laid).
  DERIVED. THE GIVEN ROWS OF THIS SEAT. 6 by the template 'for every input the law returns true; each argument reads behind the call as it read before'; 0 by the template 'total and deterministic' (their statements: YtlhkacaiiplhhaaTotals.lean).
  GIVEN WITH THE SEED: the statements are not yours to turn. If you find one false, say at which input.
  Laid BY PROGRAM, IN A SANDBOX (cutbox-rows.mjs): the forced cells as the released guide's own fill.sh prints them over the translation 9a43b63e0ef55f7b… (all of the seat's roots in one cut). By AI agents, Wed Nov 11 2026. No macro, syntax, notation, axiom, sorry.
-/
import Derived.Test.YtlhkacaiiplhhaaChecked
import GoSem.Claim
import GoSem.ClaimJoined
import GoSem.ClaimMapViews
import Derived.JoinedTies
import Derived.KernelRfl
namespace Go.Proofs.Ytlhkacaiiplhhaa
/- THE CELL 'sum', in the pinned program and in every row, IS THE sha256 OF THE DUMP (.gsa) THAT YtlhkacaiiplhhaaProg.lean LOADS. Nothing in Lean hashes anything: it is a label: what it is worth is what the hold of that sum in a sandbox is worth. -/
noncomputable def Try.pinned : Pinned := { name := "ytlhkacaiiplhhaa", sum := "9a43b63e0ef55f7b195288817822d3008c344dc08a81afcefca10d50657ebbc2", checked := Try.checked }
namespace Rows
def none {H : Type} : Left H := { results := [], args := [] }

/-- 'penumbralaw18.WeighOne': WHATEVER THE INPUT: true; the input reads as it did. -/
def weighOneSpec : ChangeSpec := { name := "weighOne", fn := fun _ => fun
  | [d] => { results := [.lit (.bool true)], args := [d] }
  | _ => none }
def weighOneRow : OpenClaim := { program := "ytlhkacaiiplhhaa", sum := "9a43b63e0ef55f7b195288817822d3008c344dc08a81afcefca10d50657ebbc2", func := "penumbra/penumbralaw18.WeighOne", spec := "weighOne", unfollowed := true, recurses := true, named := ["math/bits.overflowError"], apart := false }
def WeighOneSaid : Prop := weighOneRow.holds Try.pinned (OpenSpec.ofChange weighOneSpec)

/-- ITS FALSE NEIGHBOUR: 'it returns false'. Refute it at one input. -/
def weighOneWrong : ChangeSpec := { name := "weighOne", fn := fun _ => fun
  | [d] => { results := [.lit (.bool false)], args := [d] }
  | _ => none }
def WeighOneWrongFalsely : Prop := weighOneRow.holds Try.pinned (OpenSpec.ofChange weighOneWrong)

/-- 'penumbralaw18.WeighSteps': WHATEVER THE INPUT: true; the input reads as it did. -/
def weighStepsSpec : ChangeSpec := { name := "weighSteps", fn := fun _ => fun
  | [d] => { results := [.lit (.bool true)], args := [d] }
  | _ => none }
def weighStepsRow : OpenClaim := { program := "ytlhkacaiiplhhaa", sum := "9a43b63e0ef55f7b195288817822d3008c344dc08a81afcefca10d50657ebbc2", func := "penumbra/penumbralaw18.WeighSteps", spec := "weighSteps", unfollowed := true, recurses := true, named := ["math/bits.overflowError"], apart := false }
def WeighStepsSaid : Prop := weighStepsRow.holds Try.pinned (OpenSpec.ofChange weighStepsSpec)

/-- ITS FALSE NEIGHBOUR: 'it returns false'. Refute it at one input. -/
def weighStepsWrong : ChangeSpec := { name := "weighSteps", fn := fun _ => fun
  | [d] => { results := [.lit (.bool false)], args := [d] }
  | _ => none }
def WeighStepsWrongFalsely : Prop := weighStepsRow.holds Try.pinned (OpenSpec.ofChange weighStepsWrong)

/-- 'penumbralaw18.WeighMerges': WHATEVER THE INPUT: true; the input reads as it did. -/
def weighMergesSpec : ChangeSpec := { name := "weighMerges", fn := fun _ => fun
  | [d] => { results := [.lit (.bool true)], args := [d] }
  | _ => none }
def weighMergesRow : OpenClaim := { program := "ytlhkacaiiplhhaa", sum := "9a43b63e0ef55f7b195288817822d3008c344dc08a81afcefca10d50657ebbc2", func := "penumbra/penumbralaw18.WeighMerges", spec := "weighMerges", unfollowed := true, recurses := true, named := ["math/bits.overflowError"], apart := false }
def WeighMergesSaid : Prop := weighMergesRow.holds Try.pinned (OpenSpec.ofChange weighMergesSpec)

/-- ITS FALSE NEIGHBOUR: 'it returns false'. Refute it at one input. -/
def weighMergesWrong : ChangeSpec := { name := "weighMerges", fn := fun _ => fun
  | [d] => { results := [.lit (.bool false)], args := [d] }
  | _ => none }
def WeighMergesWrongFalsely : Prop := weighMergesRow.holds Try.pinned (OpenSpec.ofChange weighMergesWrong)

/-- 'penumbralaw21.GridPlays': WHATEVER THE INPUT: true; the input reads as it did. -/
def gridPlaysSpec : ChangeSpec := { name := "gridPlays", fn := fun _ => fun
  | [d] => { results := [.lit (.bool true)], args := [d] }
  | _ => none }
def gridPlaysRow : OpenClaim := { program := "ytlhkacaiiplhhaa", sum := "9a43b63e0ef55f7b195288817822d3008c344dc08a81afcefca10d50657ebbc2", func := "penumbra/penumbralaw21.GridPlays", spec := "gridPlays", named := ["math/bits.overflowError"], apart := false }
def GridPlaysSaid : Prop := gridPlaysRow.holds Try.pinned (OpenSpec.ofChange gridPlaysSpec)

/-- ITS FALSE NEIGHBOUR: 'it returns false'. Refute it at one input. -/
def gridPlaysWrong : ChangeSpec := { name := "gridPlays", fn := fun _ => fun
  | [d] => { results := [.lit (.bool false)], args := [d] }
  | _ => none }
def GridPlaysWrongFalsely : Prop := gridPlaysRow.holds Try.pinned (OpenSpec.ofChange gridPlaysWrong)

/-- 'penumbralaw21.GridFits': WHATEVER THE INPUT: true; the input reads as it did. -/
def gridFitsSpec : ChangeSpec := { name := "gridFits", fn := fun _ => fun
  | [d] => { results := [.lit (.bool true)], args := [d] }
  | _ => none }
def gridFitsRow : OpenClaim := { program := "ytlhkacaiiplhhaa", sum := "9a43b63e0ef55f7b195288817822d3008c344dc08a81afcefca10d50657ebbc2", func := "penumbra/penumbralaw21.GridFits", spec := "gridFits", named := ["math/bits.overflowError"], apart := false }
def GridFitsSaid : Prop := gridFitsRow.holds Try.pinned (OpenSpec.ofChange gridFitsSpec)

/-- ITS FALSE NEIGHBOUR: 'it returns false'. Refute it at one input. -/
def gridFitsWrong : ChangeSpec := { name := "gridFits", fn := fun _ => fun
  | [d] => { results := [.lit (.bool false)], args := [d] }
  | _ => none }
def GridFitsWrongFalsely : Prop := gridFitsRow.holds Try.pinned (OpenSpec.ofChange gridFitsWrong)

/-- 'penumbralaw21.GridAlone': WHATEVER THE INPUT: true; the input reads as it did. -/
def gridAloneSpec : ChangeSpec := { name := "gridAlone", fn := fun _ => fun
  | [d] => { results := [.lit (.bool true)], args := [d] }
  | _ => none }
def gridAloneRow : OpenClaim := { program := "ytlhkacaiiplhhaa", sum := "9a43b63e0ef55f7b195288817822d3008c344dc08a81afcefca10d50657ebbc2", func := "penumbra/penumbralaw21.GridAlone", spec := "gridAlone", named := ["math/bits.overflowError"], apart := false }
def GridAloneSaid : Prop := gridAloneRow.holds Try.pinned (OpenSpec.ofChange gridAloneSpec)

/-- ITS FALSE NEIGHBOUR: 'it returns false'. Refute it at one input. -/
def gridAloneWrong : ChangeSpec := { name := "gridAlone", fn := fun _ => fun
  | [d] => { results := [.lit (.bool false)], args := [d] }
  | _ => none }
def GridAloneWrongFalsely : Prop := gridAloneRow.holds Try.pinned (OpenSpec.ofChange gridAloneWrong)

/- THE SECOND FORM. 'bulk': how many values and letters a reading holds, each counted each time it is reached (what is shared counts as often as it is met; a slice's spare places count too). A statement '..UptoSaid' is the law's where the arguments, and the package variables that the reading takes, are together of bulk at most 1048576: NARROWER than '..Said'. Prove '..Said' where nothing that the law and all that it calls make is longer than what came in: it says more and counts as full. Else prove '..UptoSaid'. A law counts once. -/
mutual
def uptoBulk {H : Type} : DataW H → Nat
  | .lit (.string bytes) => bytes.length + 1
  | .lit _ => 1
  | .nil => 1
  | .ptr d => uptoBulk d + 1
  | .slice elems spare => uptoBulkAll elems + uptoBulkAll spare + 1
  | .agg parts => uptoBulkAll parts + 1
  | .iface _ d => uptoBulk d + 1
  | .map entries => uptoBulkEntries entries + 1
  | .held _ => 1
def uptoBulkAll {H : Type} : List (DataW H) → Nat
  | [] => 0
  | d :: r => uptoBulk d + uptoBulkAll r
def uptoBulkEntries {H : Type} : List (Lit × DataW H) → Nat
  | [] => 0
  | x :: r => uptoBulkEntry x + uptoBulkEntries r
def uptoBulkEntry {H : Type} : Lit × DataW H → Nat
  | (.string bytes, d) => bytes.length + uptoBulk d + 1
  | (_, d) => uptoBulk d + 1
 end
def uptoSmall : (H : Type) → List (DataW H) → Bool := fun _ ds => decide (uptoBulkAll ds ≤ 1048576)
def OpenSpec.upto (s : _root_.Go.ChangeSpec) : _root_.Go.OpenSpec := { _root_.Go.OpenSpec.ofChange s with cond := some uptoSmall }

/-- 'penumbralaw18.WeighOne', WHERE WHAT IT READS IS OF BULK AT MOST 1048576: true; the input reads as it did. -/
def weighOneUptoRow : OpenClaim := { program := "ytlhkacaiiplhhaa", sum := "9a43b63e0ef55f7b195288817822d3008c344dc08a81afcefca10d50657ebbc2", func := "penumbra/penumbralaw18.WeighOne", spec := "weighOne", unfollowed := true, recurses := true, named := ["math/bits.overflowError"], apart := false, narrowed := true }
def WeighOneUptoSaid : Prop := weighOneUptoRow.holds Try.pinned (OpenSpec.upto weighOneSpec)

/-- 'penumbralaw18.WeighSteps', WHERE WHAT IT READS IS OF BULK AT MOST 1048576: true; the input reads as it did. -/
def weighStepsUptoRow : OpenClaim := { program := "ytlhkacaiiplhhaa", sum := "9a43b63e0ef55f7b195288817822d3008c344dc08a81afcefca10d50657ebbc2", func := "penumbra/penumbralaw18.WeighSteps", spec := "weighSteps", unfollowed := true, recurses := true, named := ["math/bits.overflowError"], apart := false, narrowed := true }
def WeighStepsUptoSaid : Prop := weighStepsUptoRow.holds Try.pinned (OpenSpec.upto weighStepsSpec)

/-- 'penumbralaw18.WeighMerges', WHERE WHAT IT READS IS OF BULK AT MOST 1048576: true; the input reads as it did. -/
def weighMergesUptoRow : OpenClaim := { program := "ytlhkacaiiplhhaa", sum := "9a43b63e0ef55f7b195288817822d3008c344dc08a81afcefca10d50657ebbc2", func := "penumbra/penumbralaw18.WeighMerges", spec := "weighMerges", unfollowed := true, recurses := true, named := ["math/bits.overflowError"], apart := false, narrowed := true }
def WeighMergesUptoSaid : Prop := weighMergesUptoRow.holds Try.pinned (OpenSpec.upto weighMergesSpec)

/-- 'penumbralaw21.GridPlays', WHERE WHAT IT READS IS OF BULK AT MOST 1048576: true; the input reads as it did. -/
def gridPlaysUptoRow : OpenClaim := { program := "ytlhkacaiiplhhaa", sum := "9a43b63e0ef55f7b195288817822d3008c344dc08a81afcefca10d50657ebbc2", func := "penumbra/penumbralaw21.GridPlays", spec := "gridPlays", named := ["math/bits.overflowError"], apart := false, narrowed := true }
def GridPlaysUptoSaid : Prop := gridPlaysUptoRow.holds Try.pinned (OpenSpec.upto gridPlaysSpec)

/-- 'penumbralaw21.GridFits', WHERE WHAT IT READS IS OF BULK AT MOST 1048576: true; the input reads as it did. -/
def gridFitsUptoRow : OpenClaim := { program := "ytlhkacaiiplhhaa", sum := "9a43b63e0ef55f7b195288817822d3008c344dc08a81afcefca10d50657ebbc2", func := "penumbra/penumbralaw21.GridFits", spec := "gridFits", named := ["math/bits.overflowError"], apart := false, narrowed := true }
def GridFitsUptoSaid : Prop := gridFitsUptoRow.holds Try.pinned (OpenSpec.upto gridFitsSpec)

/-- 'penumbralaw21.GridAlone', WHERE WHAT IT READS IS OF BULK AT MOST 1048576: true; the input reads as it did. -/
def gridAloneUptoRow : OpenClaim := { program := "ytlhkacaiiplhhaa", sum := "9a43b63e0ef55f7b195288817822d3008c344dc08a81afcefca10d50657ebbc2", func := "penumbra/penumbralaw21.GridAlone", spec := "gridAlone", named := ["math/bits.overflowError"], apart := false, narrowed := true }
def GridAloneUptoSaid : Prop := gridAloneUptoRow.holds Try.pinned (OpenSpec.upto gridAloneSpec)

end Rows
end Go.Proofs.Ytlhkacaiiplhhaa

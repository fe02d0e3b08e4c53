/-
  No cell of these rows narrows 'for every input' (looked for: loops, veiled, ifaces, maps, wideKeys, modest, calm, conditions, laid).
  DERIVED. THE GIVEN ROWS OF THIS SEAT. 12 by the template 'for every input the law returns true; each argument reads behind the call as it read before'; 0 by the template 'total and deterministic' (their statements: YtbpadnlpkdmkmaaTotals.lean).
  GIVEN WITH THE SEED: the statements are not yours to turn. If you find one false, say at which input.
  Laid BY PROGRAM, IN A SANDBOX (cutbox-rows.mjs): the forced cells as the released guide's own fill.sh prints them over the translation 091280143dea0f33… (all of the seat's roots in one cut). By AI agents, Wed Nov 11 2026. No macro, syntax, notation, axiom, sorry.
-/
import Derived.Test.YtbpadnlpkdmkmaaChecked
import GoSem.Claim
import GoSem.ClaimJoined
import GoSem.ClaimMapViews
import Derived.JoinedTies
import Derived.KernelRfl
namespace Go.Proofs.Ytbpadnlpkdmkmaa
/- THE CELL 'sum', in the pinned program and in every row, IS THE sha256 OF THE DUMP (.gsa) THAT YtbpadnlpkdmkmaaProg.lean LOADS. Nothing in Lean hashes anything: it is a label: what it is worth is what the hold of that sum in a sandbox is worth. -/
noncomputable def Try.pinned : Pinned := { name := "ytbpadnlpkdmkmaa", sum := "091280143dea0f33b4affe0fa596af357615212783fca9da6d633e7475a4c535", checked := Try.checked }
namespace Rows
def none {H : Type} : Left H := { results := [], args := [] }

/-- 'penumbralaw06.FrameTurns': WHATEVER THE INPUT: true; the input reads as it did. -/
def frameTurnsSpec : ChangeSpec := { name := "frameTurns", fn := fun _ => fun
  | [d1, d2, d3] => { results := [.lit (.bool true)], args := [d1, d2, d3] }
  | _ => none }
def frameTurnsRow : OpenClaim := { program := "ytbpadnlpkdmkmaa", sum := "091280143dea0f33b4affe0fa596af357615212783fca9da6d633e7475a4c535", func := "penumbra/penumbralaw06.FrameTurns", spec := "frameTurns", named := ["math/bits.overflowError"], apart := false }
def FrameTurnsSaid : Prop := frameTurnsRow.holds Try.pinned (OpenSpec.ofChange frameTurnsSpec)

/-- ITS FALSE NEIGHBOUR: 'it returns false'. Refute it at one input. -/
def frameTurnsWrong : ChangeSpec := { name := "frameTurns", fn := fun _ => fun
  | [d1, d2, d3] => { results := [.lit (.bool false)], args := [d1, d2, d3] }
  | _ => none }
def FrameTurnsWrongFalsely : Prop := frameTurnsRow.holds Try.pinned (OpenSpec.ofChange frameTurnsWrong)

/-- 'penumbralaw05.VecAngles': WHATEVER THE INPUT: true; the input reads as it did. -/
def vecAnglesSpec : ChangeSpec := { name := "vecAngles", fn := fun _ => fun
  | [d1, d2, d3] => { results := [.lit (.bool true)], args := [d1, d2, d3] }
  | _ => none }
def vecAnglesRow : OpenClaim := { program := "ytbpadnlpkdmkmaa", sum := "091280143dea0f33b4affe0fa596af357615212783fca9da6d633e7475a4c535", func := "penumbra/penumbralaw05.VecAngles", spec := "vecAngles", named := ["math/bits.overflowError"], apart := false }
def VecAnglesSaid : Prop := vecAnglesRow.holds Try.pinned (OpenSpec.ofChange vecAnglesSpec)

/-- ITS FALSE NEIGHBOUR: 'it returns false'. Refute it at one input. -/
def vecAnglesWrong : ChangeSpec := { name := "vecAngles", fn := fun _ => fun
  | [d1, d2, d3] => { results := [.lit (.bool false)], args := [d1, d2, d3] }
  | _ => none }
def VecAnglesWrongFalsely : Prop := vecAnglesRow.holds Try.pinned (OpenSpec.ofChange vecAnglesWrong)

/-- 'penumbralaw06.FrameRight': WHATEVER THE INPUT: true; the input reads as it did. -/
def frameRightSpec : ChangeSpec := { name := "frameRight", fn := fun _ => fun
  | [d1, d2, d3] => { results := [.lit (.bool true)], args := [d1, d2, d3] }
  | _ => none }
def frameRightRow : OpenClaim := { program := "ytbpadnlpkdmkmaa", sum := "091280143dea0f33b4affe0fa596af357615212783fca9da6d633e7475a4c535", func := "penumbra/penumbralaw06.FrameRight", spec := "frameRight", named := ["math/bits.overflowError"], apart := false }
def FrameRightSaid : Prop := frameRightRow.holds Try.pinned (OpenSpec.ofChange frameRightSpec)

/-- ITS FALSE NEIGHBOUR: 'it returns false'. Refute it at one input. -/
def frameRightWrong : ChangeSpec := { name := "frameRight", fn := fun _ => fun
  | [d1, d2, d3] => { results := [.lit (.bool false)], args := [d1, d2, d3] }
  | _ => none }
def FrameRightWrongFalsely : Prop := frameRightRow.holds Try.pinned (OpenSpec.ofChange frameRightWrong)

/-- 'penumbralaw05.VecLinear': WHATEVER THE INPUT: true; the input reads as it did. -/
def vecLinearSpec : ChangeSpec := { name := "vecLinear", fn := fun _ => fun
  | [d] => { results := [.lit (.bool true)], args := [d] }
  | _ => none }
def vecLinearRow : OpenClaim := { program := "ytbpadnlpkdmkmaa", sum := "091280143dea0f33b4affe0fa596af357615212783fca9da6d633e7475a4c535", func := "penumbra/penumbralaw05.VecLinear", spec := "vecLinear", named := ["math/bits.overflowError"], apart := false }
def VecLinearSaid : Prop := vecLinearRow.holds Try.pinned (OpenSpec.ofChange vecLinearSpec)

/-- ITS FALSE NEIGHBOUR: 'it returns false'. Refute it at one input. -/
def vecLinearWrong : ChangeSpec := { name := "vecLinear", fn := fun _ => fun
  | [d] => { results := [.lit (.bool false)], args := [d] }
  | _ => none }
def VecLinearWrongFalsely : Prop := vecLinearRow.holds Try.pinned (OpenSpec.ofChange vecLinearWrong)

/-- 'penumbralaw05.VecReckons': WHATEVER THE INPUT: true; the input reads as it did. -/
def vecReckonsSpec : ChangeSpec := { name := "vecReckons", fn := fun _ => fun
  | [d1, d2, d3] => { results := [.lit (.bool true)], args := [d1, d2, d3] }
  | _ => none }
def vecReckonsRow : OpenClaim := { program := "ytbpadnlpkdmkmaa", sum := "091280143dea0f33b4affe0fa596af357615212783fca9da6d633e7475a4c535", func := "penumbra/penumbralaw05.VecReckons", spec := "vecReckons", named := ["math/bits.overflowError"], apart := false }
def VecReckonsSaid : Prop := vecReckonsRow.holds Try.pinned (OpenSpec.ofChange vecReckonsSpec)

/-- ITS FALSE NEIGHBOUR: 'it returns false'. Refute it at one input. -/
def vecReckonsWrong : ChangeSpec := { name := "vecReckons", fn := fun _ => fun
  | [d1, d2, d3] => { results := [.lit (.bool false)], args := [d1, d2, d3] }
  | _ => none }
def VecReckonsWrongFalsely : Prop := vecReckonsRow.holds Try.pinned (OpenSpec.ofChange vecReckonsWrong)

/-- 'penumbralaw06.FrameTells': WHATEVER THE INPUT: true; the input reads as it did. -/
def frameTellsSpec : ChangeSpec := { name := "frameTells", fn := fun _ => fun
  | [d1, d2] => { results := [.lit (.bool true)], args := [d1, d2] }
  | _ => none }
def frameTellsRow : OpenClaim := { program := "ytbpadnlpkdmkmaa", sum := "091280143dea0f33b4affe0fa596af357615212783fca9da6d633e7475a4c535", func := "penumbra/penumbralaw06.FrameTells", spec := "frameTells", named := ["math/bits.overflowError"], apart := false }
def FrameTellsSaid : Prop := frameTellsRow.holds Try.pinned (OpenSpec.ofChange frameTellsSpec)

/-- ITS FALSE NEIGHBOUR: 'it returns false'. Refute it at one input. -/
def frameTellsWrong : ChangeSpec := { name := "frameTells", fn := fun _ => fun
  | [d1, d2] => { results := [.lit (.bool false)], args := [d1, d2] }
  | _ => none }
def FrameTellsWrongFalsely : Prop := frameTellsRow.holds Try.pinned (OpenSpec.ofChange frameTellsWrong)

/-- 'penumbralaw06.FrameSlopes': WHATEVER THE INPUT: true; the input reads as it did. -/
def frameSlopesSpec : ChangeSpec := { name := "frameSlopes", fn := fun _ => fun
  | [d1, d2, d3] => { results := [.lit (.bool true)], args := [d1, d2, d3] }
  | _ => none }
def frameSlopesRow : OpenClaim := { program := "ytbpadnlpkdmkmaa", sum := "091280143dea0f33b4affe0fa596af357615212783fca9da6d633e7475a4c535", func := "penumbra/penumbralaw06.FrameSlopes", spec := "frameSlopes", named := ["math/bits.overflowError"], apart := false }
def FrameSlopesSaid : Prop := frameSlopesRow.holds Try.pinned (OpenSpec.ofChange frameSlopesSpec)

/-- ITS FALSE NEIGHBOUR: 'it returns false'. Refute it at one input. -/
def frameSlopesWrong : ChangeSpec := { name := "frameSlopes", fn := fun _ => fun
  | [d1, d2, d3] => { results := [.lit (.bool false)], args := [d1, d2, d3] }
  | _ => none }
def FrameSlopesWrongFalsely : Prop := frameSlopesRow.holds Try.pinned (OpenSpec.ofChange frameSlopesWrong)

/-- 'penumbralaw06.FrameLays': WHATEVER THE INPUT: true; the input reads as it did. -/
def frameLaysSpec : ChangeSpec := { name := "frameLays", fn := fun _ => fun
  | [d] => { results := [.lit (.bool true)], args := [d] }
  | _ => none }
def frameLaysRow : OpenClaim := { program := "ytbpadnlpkdmkmaa", sum := "091280143dea0f33b4affe0fa596af357615212783fca9da6d633e7475a4c535", func := "penumbra/penumbralaw06.FrameLays", spec := "frameLays", named := ["math/bits.overflowError"], apart := false }
def FrameLaysSaid : Prop := frameLaysRow.holds Try.pinned (OpenSpec.ofChange frameLaysSpec)

/-- ITS FALSE NEIGHBOUR: 'it returns false'. Refute it at one input. -/
def frameLaysWrong : ChangeSpec := { name := "frameLays", fn := fun _ => fun
  | [d] => { results := [.lit (.bool false)], args := [d] }
  | _ => none }
def FrameLaysWrongFalsely : Prop := frameLaysRow.holds Try.pinned (OpenSpec.ofChange frameLaysWrong)

/-- 'penumbralaw07.AffineTurns': WHATEVER THE INPUT: true; the input reads as it did. -/
def affineTurnsSpec : ChangeSpec := { name := "affineTurns", fn := fun _ => fun
  | [d1, d2] => { results := [.lit (.bool true)], args := [d1, d2] }
  | _ => none }
def affineTurnsRow : OpenClaim := { program := "ytbpadnlpkdmkmaa", sum := "091280143dea0f33b4affe0fa596af357615212783fca9da6d633e7475a4c535", func := "penumbra/penumbralaw07.AffineTurns", spec := "affineTurns", named := ["math/bits.overflowError"], apart := false }
def AffineTurnsSaid : Prop := affineTurnsRow.holds Try.pinned (OpenSpec.ofChange affineTurnsSpec)

/-- ITS FALSE NEIGHBOUR: 'it returns false'. Refute it at one input. -/
def affineTurnsWrong : ChangeSpec := { name := "affineTurns", fn := fun _ => fun
  | [d1, d2] => { results := [.lit (.bool false)], args := [d1, d2] }
  | _ => none }
def AffineTurnsWrongFalsely : Prop := affineTurnsRow.holds Try.pinned (OpenSpec.ofChange affineTurnsWrong)

/-- 'penumbralaw07.AffineTakes': WHATEVER THE INPUT: true; the input reads as it did. -/
def affineTakesSpec : ChangeSpec := { name := "affineTakes", fn := fun _ => fun
  | [d1, d2, d3] => { results := [.lit (.bool true)], args := [d1, d2, d3] }
  | _ => none }
def affineTakesRow : OpenClaim := { program := "ytbpadnlpkdmkmaa", sum := "091280143dea0f33b4affe0fa596af357615212783fca9da6d633e7475a4c535", func := "penumbra/penumbralaw07.AffineTakes", spec := "affineTakes", unfollowed := true, recurses := true, named := ["math/bits.overflowError"], apart := false }
def AffineTakesSaid : Prop := affineTakesRow.holds Try.pinned (OpenSpec.ofChange affineTakesSpec)

/-- ITS FALSE NEIGHBOUR: 'it returns false'. Refute it at one input. -/
def affineTakesWrong : ChangeSpec := { name := "affineTakes", fn := fun _ => fun
  | [d1, d2, d3] => { results := [.lit (.bool false)], args := [d1, d2, d3] }
  | _ => none }
def AffineTakesWrongFalsely : Prop := affineTakesRow.holds Try.pinned (OpenSpec.ofChange affineTakesWrong)

/-- 'penumbralaw07.AffineAreas': WHATEVER THE INPUT: true; the input reads as it did. -/
def affineAreasSpec : ChangeSpec := { name := "affineAreas", fn := fun _ => fun
  | [d1, d2, d3] => { results := [.lit (.bool true)], args := [d1, d2, d3] }
  | _ => none }
def affineAreasRow : OpenClaim := { program := "ytbpadnlpkdmkmaa", sum := "091280143dea0f33b4affe0fa596af357615212783fca9da6d633e7475a4c535", func := "penumbra/penumbralaw07.AffineAreas", spec := "affineAreas", unfollowed := true, recurses := true, named := ["math/bits.overflowError"], apart := false }
def AffineAreasSaid : Prop := affineAreasRow.holds Try.pinned (OpenSpec.ofChange affineAreasSpec)

/-- ITS FALSE NEIGHBOUR: 'it returns false'. Refute it at one input. -/
def affineAreasWrong : ChangeSpec := { name := "affineAreas", fn := fun _ => fun
  | [d1, d2, d3] => { results := [.lit (.bool false)], args := [d1, d2, d3] }
  | _ => none }
def AffineAreasWrongFalsely : Prop := affineAreasRow.holds Try.pinned (OpenSpec.ofChange affineAreasWrong)

/-- 'penumbralaw07.AffineBack': WHATEVER THE INPUT: true; the input reads as it did. -/
def affineBackSpec : ChangeSpec := { name := "affineBack", fn := fun _ => fun
  | [d1, d2, d3] => { results := [.lit (.bool true)], args := [d1, d2, d3] }
  | _ => none }
def affineBackRow : OpenClaim := { program := "ytbpadnlpkdmkmaa", sum := "091280143dea0f33b4affe0fa596af357615212783fca9da6d633e7475a4c535", func := "penumbra/penumbralaw07.AffineBack", spec := "affineBack", unfollowed := true, recurses := true, named := ["math/bits.overflowError"], apart := false }
def AffineBackSaid : Prop := affineBackRow.holds Try.pinned (OpenSpec.ofChange affineBackSpec)

/-- ITS FALSE NEIGHBOUR: 'it returns false'. Refute it at one input. -/
def affineBackWrong : ChangeSpec := { name := "affineBack", fn := fun _ => fun
  | [d1, d2, d3] => { results := [.lit (.bool false)], args := [d1, d2, d3] }
  | _ => none }
def AffineBackWrongFalsely : Prop := affineBackRow.holds Try.pinned (OpenSpec.ofChange affineBackWrong)

/- THE SECOND FORM. 'bulk': how many values and letters a reading holds, each counted each time it is reached (what is shared counts as often as it is met; a slice's spare places count too). A statement '..UptoSaid' is the law's where the arguments, and the package variables that the reading takes, are together of bulk at most 1048576: NARROWER than '..Said'. Prove '..Said' where nothing that the law and all that it calls make is longer than what came in: it says more and counts as full. Else prove '..UptoSaid'. A law counts once. -/
mutual
def uptoBulk {H : Type} : DataW H → Nat
  | .lit (.string bytes) => bytes.length + 1
  | .lit _ => 1
  | .nil => 1
  | .ptr d => uptoBulk d + 1
  | .slice elems spare => uptoBulkAll elems + uptoBulkAll spare + 1
  | .agg parts => uptoBulkAll parts + 1
  | .iface _ d => uptoBulk d + 1
  | .map entries => uptoBulkEntries entries + 1
  | .held _ => 1
def uptoBulkAll {H : Type} : List (DataW H) → Nat
  | [] => 0
  | d :: r => uptoBulk d + uptoBulkAll r
def uptoBulkEntries {H : Type} : List (Lit × DataW H) → Nat
  | [] => 0
  | x :: r => uptoBulkEntry x + uptoBulkEntries r
def uptoBulkEntry {H : Type} : Lit × DataW H → Nat
  | (.string bytes, d) => bytes.length + uptoBulk d + 1
  | (_, d) => uptoBulk d + 1
 end
def uptoSmall : (H : Type) → List (DataW H) → Bool := fun _ ds => decide (uptoBulkAll ds ≤ 1048576)
def OpenSpec.upto (s : _root_.Go.ChangeSpec) : _root_.Go.OpenSpec := { _root_.Go.OpenSpec.ofChange s with cond := some uptoSmall }

/-- 'penumbralaw06.FrameTurns', WHERE WHAT IT READS IS OF BULK AT MOST 1048576: true; the input reads as it did. -/
def frameTurnsUptoRow : OpenClaim := { program := "ytbpadnlpkdmkmaa", sum := "091280143dea0f33b4affe0fa596af357615212783fca9da6d633e7475a4c535", func := "penumbra/penumbralaw06.FrameTurns", spec := "frameTurns", named := ["math/bits.overflowError"], apart := false, narrowed := true }
def FrameTurnsUptoSaid : Prop := frameTurnsUptoRow.holds Try.pinned (OpenSpec.upto frameTurnsSpec)

/-- 'penumbralaw05.VecAngles', WHERE WHAT IT READS IS OF BULK AT MOST 1048576: true; the input reads as it did. -/
def vecAnglesUptoRow : OpenClaim := { program := "ytbpadnlpkdmkmaa", sum := "091280143dea0f33b4affe0fa596af357615212783fca9da6d633e7475a4c535", func := "penumbra/penumbralaw05.VecAngles", spec := "vecAngles", named := ["math/bits.overflowError"], apart := false, narrowed := true }
def VecAnglesUptoSaid : Prop := vecAnglesUptoRow.holds Try.pinned (OpenSpec.upto vecAnglesSpec)

/-- 'penumbralaw06.FrameRight', WHERE WHAT IT READS IS OF BULK AT MOST 1048576: true; the input reads as it did. -/
def frameRightUptoRow : OpenClaim := { program := "ytbpadnlpkdmkmaa", sum := "091280143dea0f33b4affe0fa596af357615212783fca9da6d633e7475a4c535", func := "penumbra/penumbralaw06.FrameRight", spec := "frameRight", named := ["math/bits.overflowError"], apart := false, narrowed := true }
def FrameRightUptoSaid : Prop := frameRightUptoRow.holds Try.pinned (OpenSpec.upto frameRightSpec)

/-- 'penumbralaw05.VecLinear', WHERE WHAT IT READS IS OF BULK AT MOST 1048576: true; the input reads as it did. -/
def vecLinearUptoRow : OpenClaim := { program := "ytbpadnlpkdmkmaa", sum := "091280143dea0f33b4affe0fa596af357615212783fca9da6d633e7475a4c535", func := "penumbra/penumbralaw05.VecLinear", spec := "vecLinear", named := ["math/bits.overflowError"], apart := false, narrowed := true }
def VecLinearUptoSaid : Prop := vecLinearUptoRow.holds Try.pinned (OpenSpec.upto vecLinearSpec)

/-- 'penumbralaw05.VecReckons', WHERE WHAT IT READS IS OF BULK AT MOST 1048576: true; the input reads as it did. -/
def vecReckonsUptoRow : OpenClaim := { program := "ytbpadnlpkdmkmaa", sum := "091280143dea0f33b4affe0fa596af357615212783fca9da6d633e7475a4c535", func := "penumbra/penumbralaw05.VecReckons", spec := "vecReckons", named := ["math/bits.overflowError"], apart := false, narrowed := true }
def VecReckonsUptoSaid : Prop := vecReckonsUptoRow.holds Try.pinned (OpenSpec.upto vecReckonsSpec)

/-- 'penumbralaw06.FrameTells', WHERE WHAT IT READS IS OF BULK AT MOST 1048576: true; the input reads as it did. -/
def frameTellsUptoRow : OpenClaim := { program := "ytbpadnlpkdmkmaa", sum := "091280143dea0f33b4affe0fa596af357615212783fca9da6d633e7475a4c535", func := "penumbra/penumbralaw06.FrameTells", spec := "frameTells", named := ["math/bits.overflowError"], apart := false, narrowed := true }
def FrameTellsUptoSaid : Prop := frameTellsUptoRow.holds Try.pinned (OpenSpec.upto frameTellsSpec)

/-- 'penumbralaw06.FrameSlopes', WHERE WHAT IT READS IS OF BULK AT MOST 1048576: true; the input reads as it did. -/
def frameSlopesUptoRow : OpenClaim := { program := "ytbpadnlpkdmkmaa", sum := "091280143dea0f33b4affe0fa596af357615212783fca9da6d633e7475a4c535", func := "penumbra/penumbralaw06.FrameSlopes", spec := "frameSlopes", named := ["math/bits.overflowError"], apart := false, narrowed := true }
def FrameSlopesUptoSaid : Prop := frameSlopesUptoRow.holds Try.pinned (OpenSpec.upto frameSlopesSpec)

/-- 'penumbralaw06.FrameLays', WHERE WHAT IT READS IS OF BULK AT MOST 1048576: true; the input reads as it did. -/
def frameLaysUptoRow : OpenClaim := { program := "ytbpadnlpkdmkmaa", sum := "091280143dea0f33b4affe0fa596af357615212783fca9da6d633e7475a4c535", func := "penumbra/penumbralaw06.FrameLays", spec := "frameLays", named := ["math/bits.overflowError"], apart := false, narrowed := true }
def FrameLaysUptoSaid : Prop := frameLaysUptoRow.holds Try.pinned (OpenSpec.upto frameLaysSpec)

/-- 'penumbralaw07.AffineTurns', WHERE WHAT IT READS IS OF BULK AT MOST 1048576: true; the input reads as it did. -/
def affineTurnsUptoRow : OpenClaim := { program := "ytbpadnlpkdmkmaa", sum := "091280143dea0f33b4affe0fa596af357615212783fca9da6d633e7475a4c535", func := "penumbra/penumbralaw07.AffineTurns", spec := "affineTurns", named := ["math/bits.overflowError"], apart := false, narrowed := true }
def AffineTurnsUptoSaid : Prop := affineTurnsUptoRow.holds Try.pinned (OpenSpec.upto affineTurnsSpec)

/-- 'penumbralaw07.AffineTakes', WHERE WHAT IT READS IS OF BULK AT MOST 1048576: true; the input reads as it did. -/
def affineTakesUptoRow : OpenClaim := { program := "ytbpadnlpkdmkmaa", sum := "091280143dea0f33b4affe0fa596af357615212783fca9da6d633e7475a4c535", func := "penumbra/penumbralaw07.AffineTakes", spec := "affineTakes", unfollowed := true, recurses := true, named := ["math/bits.overflowError"], apart := false, narrowed := true }
def AffineTakesUptoSaid : Prop := affineTakesUptoRow.holds Try.pinned (OpenSpec.upto affineTakesSpec)

/-- 'penumbralaw07.AffineAreas', WHERE WHAT IT READS IS OF BULK AT MOST 1048576: true; the input reads as it did. -/
def affineAreasUptoRow : OpenClaim := { program := "ytbpadnlpkdmkmaa", sum := "091280143dea0f33b4affe0fa596af357615212783fca9da6d633e7475a4c535", func := "penumbra/penumbralaw07.AffineAreas", spec := "affineAreas", unfollowed := true, recurses := true, named := ["math/bits.overflowError"], apart := false, narrowed := true }
def AffineAreasUptoSaid : Prop := affineAreasUptoRow.holds Try.pinned (OpenSpec.upto affineAreasSpec)

/-- 'penumbralaw07.AffineBack', WHERE WHAT IT READS IS OF BULK AT MOST 1048576: true; the input reads as it did. -/
def affineBackUptoRow : OpenClaim := { program := "ytbpadnlpkdmkmaa", sum := "091280143dea0f33b4affe0fa596af357615212783fca9da6d633e7475a4c535", func := "penumbra/penumbralaw07.AffineBack", spec := "affineBack", unfollowed := true, recurses := true, named := ["math/bits.overflowError"], apart := false, narrowed := true }
def AffineBackUptoSaid : Prop := affineBackUptoRow.holds Try.pinned (OpenSpec.upto affineBackSpec)

end Rows
end Go.Proofs.Ytbpadnlpkdmkmaa

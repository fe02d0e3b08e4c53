/-
  No cell of these rows narrows 'for every input' (looked for: loops, veiled, ifaces, maps, wideKeys, modest, calm, conditions, laid).
  DERIVED. THE GIVEN ROWS OF THIS SEAT. 11 by the template 'for every input the law returns true; each argument reads behind the call as it read before'; 0 by the template 'total and deterministic' (their statements: YtadaibgdeojlmaaTotals.lean).
  GIVEN WITH THE SEED: the statements are not yours to turn. If you find one false, say at which input.
  Laid BY PROGRAM, IN A SANDBOX (cutbox-rows.mjs): the forced cells as the released guide's own fill.sh prints them over the translation 96dbe29bb4437207… (all of the seat's roots in one cut). By AI agents, Wed Nov 11 2026. No macro, syntax, notation, axiom, sorry.
-/
import Derived.Test.YtadaibgdeojlmaaChecked
import GoSem.Claim
import GoSem.ClaimJoined
import GoSem.ClaimMapViews
import Derived.JoinedTies
import Derived.KernelRfl
namespace Go.Proofs.Ytadaibgdeojlmaa
/- THE CELL 'sum', in the pinned program and in every row, IS THE sha256 OF THE DUMP (.gsa) THAT YtadaibgdeojlmaaProg.lean LOADS. Nothing in Lean hashes anything: it is a label: what it is worth is what the hold of that sum in a sandbox is worth. -/
noncomputable def Try.pinned : Pinned := { name := "ytadaibgdeojlmaa", sum := "96dbe29bb443720776d0f05a18f066be94d743ced9bf1142604b9d1bd87ad078", checked := Try.checked }
namespace Rows
def none {H : Type} : Left H := { results := [], args := [] }

/-- 'penumbralaw07.AffineBends': WHATEVER THE INPUT: true; the input reads as it did. -/
def affineBendsSpec : ChangeSpec := { name := "affineBends", fn := fun _ => fun
  | [d] => { results := [.lit (.bool true)], args := [d] }
  | _ => none }
def affineBendsRow : OpenClaim := { program := "ytadaibgdeojlmaa", sum := "96dbe29bb443720776d0f05a18f066be94d743ced9bf1142604b9d1bd87ad078", func := "penumbra/penumbralaw07.AffineBends", spec := "affineBends", unfollowed := true, recurses := true, named := ["math/bits.overflowError"], apart := false }
def AffineBendsSaid : Prop := affineBendsRow.holds Try.pinned (OpenSpec.ofChange affineBendsSpec)

/-- ITS FALSE NEIGHBOUR: 'it returns false'. Refute it at one input. -/
def affineBendsWrong : ChangeSpec := { name := "affineBends", fn := fun _ => fun
  | [d] => { results := [.lit (.bool false)], args := [d] }
  | _ => none }
def AffineBendsWrongFalsely : Prop := affineBendsRow.holds Try.pinned (OpenSpec.ofChange affineBendsWrong)

/-- 'penumbralaw08.TriHits': WHATEVER THE INPUT: true; the input reads as it did. -/
def triHitsSpec : ChangeSpec := { name := "triHits", fn := fun _ => fun
  | [d1, d2, d3] => { results := [.lit (.bool true)], args := [d1, d2, d3] }
  | _ => none }
def triHitsRow : OpenClaim := { program := "ytadaibgdeojlmaa", sum := "96dbe29bb443720776d0f05a18f066be94d743ced9bf1142604b9d1bd87ad078", func := "penumbra/penumbralaw08.TriHits", spec := "triHits", named := ["math/bits.overflowError"], apart := false }
def TriHitsSaid : Prop := triHitsRow.holds Try.pinned (OpenSpec.ofChange triHitsSpec)

/-- ITS FALSE NEIGHBOUR: 'it returns false'. Refute it at one input. -/
def triHitsWrong : ChangeSpec := { name := "triHits", fn := fun _ => fun
  | [d1, d2, d3] => { results := [.lit (.bool false)], args := [d1, d2, d3] }
  | _ => none }
def TriHitsWrongFalsely : Prop := triHitsRow.holds Try.pinned (OpenSpec.ofChange triHitsWrong)

/-- 'penumbralaw08.TriTurned': WHATEVER THE INPUT: true; the input reads as it did. -/
def triTurnedSpec : ChangeSpec := { name := "triTurned", fn := fun _ => fun
  | [d1, d2, d3] => { results := [.lit (.bool true)], args := [d1, d2, d3] }
  | _ => none }
def triTurnedRow : OpenClaim := { program := "ytadaibgdeojlmaa", sum := "96dbe29bb443720776d0f05a18f066be94d743ced9bf1142604b9d1bd87ad078", func := "penumbra/penumbralaw08.TriTurned", spec := "triTurned", named := ["math/bits.overflowError"], apart := false }
def TriTurnedSaid : Prop := triTurnedRow.holds Try.pinned (OpenSpec.ofChange triTurnedSpec)

/-- ITS FALSE NEIGHBOUR: 'it returns false'. Refute it at one input. -/
def triTurnedWrong : ChangeSpec := { name := "triTurned", fn := fun _ => fun
  | [d1, d2, d3] => { results := [.lit (.bool false)], args := [d1, d2, d3] }
  | _ => none }
def TriTurnedWrongFalsely : Prop := triTurnedRow.holds Try.pinned (OpenSpec.ofChange triTurnedWrong)

/-- 'penumbralaw08.TriAims': WHATEVER THE INPUT: true; the input reads as it did. -/
def triAimsSpec : ChangeSpec := { name := "triAims", fn := fun _ => fun
  | [d1, d2, d3] => { results := [.lit (.bool true)], args := [d1, d2, d3] }
  | _ => none }
def triAimsRow : OpenClaim := { program := "ytadaibgdeojlmaa", sum := "96dbe29bb443720776d0f05a18f066be94d743ced9bf1142604b9d1bd87ad078", func := "penumbra/penumbralaw08.TriAims", spec := "triAims", named := ["math/bits.overflowError"], apart := false }
def TriAimsSaid : Prop := triAimsRow.holds Try.pinned (OpenSpec.ofChange triAimsSpec)

/-- ITS FALSE NEIGHBOUR: 'it returns false'. Refute it at one input. -/
def triAimsWrong : ChangeSpec := { name := "triAims", fn := fun _ => fun
  | [d1, d2, d3] => { results := [.lit (.bool false)], args := [d1, d2, d3] }
  | _ => none }
def TriAimsWrongFalsely : Prop := triAimsRow.holds Try.pinned (OpenSpec.ofChange triAimsWrong)

/-- 'penumbralaw08.TriTaken': WHATEVER THE INPUT: true; the input reads as it did. -/
def triTakenSpec : ChangeSpec := { name := "triTaken", fn := fun _ => fun
  | [d1, d2, d3] => { results := [.lit (.bool true)], args := [d1, d2, d3] }
  | _ => none }
def triTakenRow : OpenClaim := { program := "ytadaibgdeojlmaa", sum := "96dbe29bb443720776d0f05a18f066be94d743ced9bf1142604b9d1bd87ad078", func := "penumbra/penumbralaw08.TriTaken", spec := "triTaken", named := ["math/bits.overflowError"], apart := false }
def TriTakenSaid : Prop := triTakenRow.holds Try.pinned (OpenSpec.ofChange triTakenSpec)

/-- ITS FALSE NEIGHBOUR: 'it returns false'. Refute it at one input. -/
def triTakenWrong : ChangeSpec := { name := "triTaken", fn := fun _ => fun
  | [d1, d2, d3] => { results := [.lit (.bool false)], args := [d1, d2, d3] }
  | _ => none }
def TriTakenWrongFalsely : Prop := triTakenRow.holds Try.pinned (OpenSpec.ofChange triTakenWrong)

/-- 'penumbralaw14.WarpTells': WHATEVER THE INPUT: true; the input reads as it did. -/
def warpTellsSpec : ChangeSpec := { name := "warpTells", fn := fun _ => fun
  | [d1, d2] => { results := [.lit (.bool true)], args := [d1, d2] }
  | _ => none }
def warpTellsRow : OpenClaim := { program := "ytadaibgdeojlmaa", sum := "96dbe29bb443720776d0f05a18f066be94d743ced9bf1142604b9d1bd87ad078", func := "penumbra/penumbralaw14.WarpTells", spec := "warpTells", named := ["math/bits.overflowError"], apart := false }
def WarpTellsSaid : Prop := warpTellsRow.holds Try.pinned (OpenSpec.ofChange warpTellsSpec)

/-- ITS FALSE NEIGHBOUR: 'it returns false'. Refute it at one input. -/
def warpTellsWrong : ChangeSpec := { name := "warpTells", fn := fun _ => fun
  | [d1, d2] => { results := [.lit (.bool false)], args := [d1, d2] }
  | _ => none }
def WarpTellsWrongFalsely : Prop := warpTellsRow.holds Try.pinned (OpenSpec.ofChange warpTellsWrong)

/-- 'penumbralaw14.WarpBack': WHATEVER THE INPUT: true; the input reads as it did. -/
def warpBackSpec : ChangeSpec := { name := "warpBack", fn := fun _ => fun
  | [d1, d2] => { results := [.lit (.bool true)], args := [d1, d2] }
  | _ => none }
def warpBackRow : OpenClaim := { program := "ytadaibgdeojlmaa", sum := "96dbe29bb443720776d0f05a18f066be94d743ced9bf1142604b9d1bd87ad078", func := "penumbra/penumbralaw14.WarpBack", spec := "warpBack", named := ["math/bits.overflowError"], apart := false }
def WarpBackSaid : Prop := warpBackRow.holds Try.pinned (OpenSpec.ofChange warpBackSpec)

/-- ITS FALSE NEIGHBOUR: 'it returns false'. Refute it at one input. -/
def warpBackWrong : ChangeSpec := { name := "warpBack", fn := fun _ => fun
  | [d1, d2] => { results := [.lit (.bool false)], args := [d1, d2] }
  | _ => none }
def WarpBackWrongFalsely : Prop := warpBackRow.holds Try.pinned (OpenSpec.ofChange warpBackWrong)

/-- 'penumbralaw14.WarpDense': WHATEVER THE INPUT: true; the input reads as it did. -/
def warpDenseSpec : ChangeSpec := { name := "warpDense", fn := fun _ => fun
  | [d1, d2] => { results := [.lit (.bool true)], args := [d1, d2] }
  | _ => none }
def warpDenseRow : OpenClaim := { program := "ytadaibgdeojlmaa", sum := "96dbe29bb443720776d0f05a18f066be94d743ced9bf1142604b9d1bd87ad078", func := "penumbra/penumbralaw14.WarpDense", spec := "warpDense", named := ["math/bits.overflowError"], apart := false }
def WarpDenseSaid : Prop := warpDenseRow.holds Try.pinned (OpenSpec.ofChange warpDenseSpec)

/-- ITS FALSE NEIGHBOUR: 'it returns false'. Refute it at one input. -/
def warpDenseWrong : ChangeSpec := { name := "warpDense", fn := fun _ => fun
  | [d1, d2] => { results := [.lit (.bool false)], args := [d1, d2] }
  | _ => none }
def WarpDenseWrongFalsely : Prop := warpDenseRow.holds Try.pinned (OpenSpec.ofChange warpDenseWrong)

/-- 'penumbralaw14.WarpFolds': WHATEVER THE INPUT: true; the input reads as it did. -/
def warpFoldsSpec : ChangeSpec := { name := "warpFolds", fn := fun _ => fun
  | [d1, d2] => { results := [.lit (.bool true)], args := [d1, d2] }
  | _ => none }
def warpFoldsRow : OpenClaim := { program := "ytadaibgdeojlmaa", sum := "96dbe29bb443720776d0f05a18f066be94d743ced9bf1142604b9d1bd87ad078", func := "penumbra/penumbralaw14.WarpFolds", spec := "warpFolds", named := ["math/bits.overflowError"], apart := false }
def WarpFoldsSaid : Prop := warpFoldsRow.holds Try.pinned (OpenSpec.ofChange warpFoldsSpec)

/-- ITS FALSE NEIGHBOUR: 'it returns false'. Refute it at one input. -/
def warpFoldsWrong : ChangeSpec := { name := "warpFolds", fn := fun _ => fun
  | [d1, d2] => { results := [.lit (.bool false)], args := [d1, d2] }
  | _ => none }
def WarpFoldsWrongFalsely : Prop := warpFoldsRow.holds Try.pinned (OpenSpec.ofChange warpFoldsWrong)

/-- 'penumbralaw16.DensSlopes': WHATEVER THE INPUT: true; the input reads as it did. -/
def densSlopesSpec : ChangeSpec := { name := "densSlopes", fn := fun _ => fun
  | [d1, d2, d3] => { results := [.lit (.bool true)], args := [d1, d2, d3] }
  | _ => none }
def densSlopesRow : OpenClaim := { program := "ytadaibgdeojlmaa", sum := "96dbe29bb443720776d0f05a18f066be94d743ced9bf1142604b9d1bd87ad078", func := "penumbra/penumbralaw16.DensSlopes", spec := "densSlopes", named := ["math/bits.overflowError"], apart := false }
def DensSlopesSaid : Prop := densSlopesRow.holds Try.pinned (OpenSpec.ofChange densSlopesSpec)

/-- ITS FALSE NEIGHBOUR: 'it returns false'. Refute it at one input. -/
def densSlopesWrong : ChangeSpec := { name := "densSlopes", fn := fun _ => fun
  | [d1, d2, d3] => { results := [.lit (.bool false)], args := [d1, d2, d3] }
  | _ => none }
def DensSlopesWrongFalsely : Prop := densSlopesRow.holds Try.pinned (OpenSpec.ofChange densSlopesWrong)

/-- 'penumbralaw16.DensFar': WHATEVER THE INPUT: true; the input reads as it did. -/
def densFarSpec : ChangeSpec := { name := "densFar", fn := fun _ => fun
  | [d1, d2, d3] => { results := [.lit (.bool true)], args := [d1, d2, d3] }
  | _ => none }
def densFarRow : OpenClaim := { program := "ytadaibgdeojlmaa", sum := "96dbe29bb443720776d0f05a18f066be94d743ced9bf1142604b9d1bd87ad078", func := "penumbra/penumbralaw16.DensFar", spec := "densFar", named := ["math/bits.overflowError"], apart := false }
def DensFarSaid : Prop := densFarRow.holds Try.pinned (OpenSpec.ofChange densFarSpec)

/-- ITS FALSE NEIGHBOUR: 'it returns false'. Refute it at one input. -/
def densFarWrong : ChangeSpec := { name := "densFar", fn := fun _ => fun
  | [d1, d2, d3] => { results := [.lit (.bool false)], args := [d1, d2, d3] }
  | _ => none }
def DensFarWrongFalsely : Prop := densFarRow.holds Try.pinned (OpenSpec.ofChange densFarWrong)

/- THE SECOND FORM. 'bulk': how many values and letters a reading holds, each counted each time it is reached (what is shared counts as often as it is met; a slice's spare places count too). A statement '..UptoSaid' is the law's where the arguments, and the package variables that the reading takes, are together of bulk at most 1048576: NARROWER than '..Said'. Prove '..Said' where nothing that the law and all that it calls make is longer than what came in: it says more and counts as full. Else prove '..UptoSaid'. A law counts once. -/
mutual
def uptoBulk {H : Type} : DataW H → Nat
  | .lit (.string bytes) => bytes.length + 1
  | .lit _ => 1
  | .nil => 1
  | .ptr d => uptoBulk d + 1
  | .slice elems spare => uptoBulkAll elems + uptoBulkAll spare + 1
  | .agg parts => uptoBulkAll parts + 1
  | .iface _ d => uptoBulk d + 1
  | .map entries => uptoBulkEntries entries + 1
  | .held _ => 1
def uptoBulkAll {H : Type} : List (DataW H) → Nat
  | [] => 0
  | d :: r => uptoBulk d + uptoBulkAll r
def uptoBulkEntries {H : Type} : List (Lit × DataW H) → Nat
  | [] => 0
  | x :: r => uptoBulkEntry x + uptoBulkEntries r
def uptoBulkEntry {H : Type} : Lit × DataW H → Nat
  | (.string bytes, d) => bytes.length + uptoBulk d + 1
  | (_, d) => uptoBulk d + 1
 end
def uptoSmall : (H : Type) → List (DataW H) → Bool := fun _ ds => decide (uptoBulkAll ds ≤ 1048576)
def OpenSpec.upto (s : _root_.Go.ChangeSpec) : _root_.Go.OpenSpec := { _root_.Go.OpenSpec.ofChange s with cond := some uptoSmall }

/-- 'penumbralaw07.AffineBends', WHERE WHAT IT READS IS OF BULK AT MOST 1048576: true; the input reads as it did. -/
def affineBendsUptoRow : OpenClaim := { program := "ytadaibgdeojlmaa", sum := "96dbe29bb443720776d0f05a18f066be94d743ced9bf1142604b9d1bd87ad078", func := "penumbra/penumbralaw07.AffineBends", spec := "affineBends", unfollowed := true, recurses := true, named := ["math/bits.overflowError"], apart := false, narrowed := true }
def AffineBendsUptoSaid : Prop := affineBendsUptoRow.holds Try.pinned (OpenSpec.upto affineBendsSpec)

/-- 'penumbralaw08.TriHits', WHERE WHAT IT READS IS OF BULK AT MOST 1048576: true; the input reads as it did. -/
def triHitsUptoRow : OpenClaim := { program := "ytadaibgdeojlmaa", sum := "96dbe29bb443720776d0f05a18f066be94d743ced9bf1142604b9d1bd87ad078", func := "penumbra/penumbralaw08.TriHits", spec := "triHits", named := ["math/bits.overflowError"], apart := false, narrowed := true }
def TriHitsUptoSaid : Prop := triHitsUptoRow.holds Try.pinned (OpenSpec.upto triHitsSpec)

/-- 'penumbralaw08.TriTurned', WHERE WHAT IT READS IS OF BULK AT MOST 1048576: true; the input reads as it did. -/
def triTurnedUptoRow : OpenClaim := { program := "ytadaibgdeojlmaa", sum := "96dbe29bb443720776d0f05a18f066be94d743ced9bf1142604b9d1bd87ad078", func := "penumbra/penumbralaw08.TriTurned", spec := "triTurned", named := ["math/bits.overflowError"], apart := false, narrowed := true }
def TriTurnedUptoSaid : Prop := triTurnedUptoRow.holds Try.pinned (OpenSpec.upto triTurnedSpec)

/-- 'penumbralaw08.TriAims', WHERE WHAT IT READS IS OF BULK AT MOST 1048576: true; the input reads as it did. -/
def triAimsUptoRow : OpenClaim := { program := "ytadaibgdeojlmaa", sum := "96dbe29bb443720776d0f05a18f066be94d743ced9bf1142604b9d1bd87ad078", func := "penumbra/penumbralaw08.TriAims", spec := "triAims", named := ["math/bits.overflowError"], apart := false, narrowed := true }
def TriAimsUptoSaid : Prop := triAimsUptoRow.holds Try.pinned (OpenSpec.upto triAimsSpec)

/-- 'penumbralaw08.TriTaken', WHERE WHAT IT READS IS OF BULK AT MOST 1048576: true; the input reads as it did. -/
def triTakenUptoRow : OpenClaim := { program := "ytadaibgdeojlmaa", sum := "96dbe29bb443720776d0f05a18f066be94d743ced9bf1142604b9d1bd87ad078", func := "penumbra/penumbralaw08.TriTaken", spec := "triTaken", named := ["math/bits.overflowError"], apart := false, narrowed := true }
def TriTakenUptoSaid : Prop := triTakenUptoRow.holds Try.pinned (OpenSpec.upto triTakenSpec)

/-- 'penumbralaw14.WarpTells', WHERE WHAT IT READS IS OF BULK AT MOST 1048576: true; the input reads as it did. -/
def warpTellsUptoRow : OpenClaim := { program := "ytadaibgdeojlmaa", sum := "96dbe29bb443720776d0f05a18f066be94d743ced9bf1142604b9d1bd87ad078", func := "penumbra/penumbralaw14.WarpTells", spec := "warpTells", named := ["math/bits.overflowError"], apart := false, narrowed := true }
def WarpTellsUptoSaid : Prop := warpTellsUptoRow.holds Try.pinned (OpenSpec.upto warpTellsSpec)

/-- 'penumbralaw14.WarpBack', WHERE WHAT IT READS IS OF BULK AT MOST 1048576: true; the input reads as it did. -/
def warpBackUptoRow : OpenClaim := { program := "ytadaibgdeojlmaa", sum := "96dbe29bb443720776d0f05a18f066be94d743ced9bf1142604b9d1bd87ad078", func := "penumbra/penumbralaw14.WarpBack", spec := "warpBack", named := ["math/bits.overflowError"], apart := false, narrowed := true }
def WarpBackUptoSaid : Prop := warpBackUptoRow.holds Try.pinned (OpenSpec.upto warpBackSpec)

/-- 'penumbralaw14.WarpDense', WHERE WHAT IT READS IS OF BULK AT MOST 1048576: true; the input reads as it did. -/
def warpDenseUptoRow : OpenClaim := { program := "ytadaibgdeojlmaa", sum := "96dbe29bb443720776d0f05a18f066be94d743ced9bf1142604b9d1bd87ad078", func := "penumbra/penumbralaw14.WarpDense", spec := "warpDense", named := ["math/bits.overflowError"], apart := false, narrowed := true }
def WarpDenseUptoSaid : Prop := warpDenseUptoRow.holds Try.pinned (OpenSpec.upto warpDenseSpec)

/-- 'penumbralaw14.WarpFolds', WHERE WHAT IT READS IS OF BULK AT MOST 1048576: true; the input reads as it did. -/
def warpFoldsUptoRow : OpenClaim := { program := "ytadaibgdeojlmaa", sum := "96dbe29bb443720776d0f05a18f066be94d743ced9bf1142604b9d1bd87ad078", func := "penumbra/penumbralaw14.WarpFolds", spec := "warpFolds", named := ["math/bits.overflowError"], apart := false, narrowed := true }
def WarpFoldsUptoSaid : Prop := warpFoldsUptoRow.holds Try.pinned (OpenSpec.upto warpFoldsSpec)

/-- 'penumbralaw16.DensSlopes', WHERE WHAT IT READS IS OF BULK AT MOST 1048576: true; the input reads as it did. -/
def densSlopesUptoRow : OpenClaim := { program := "ytadaibgdeojlmaa", sum := "96dbe29bb443720776d0f05a18f066be94d743ced9bf1142604b9d1bd87ad078", func := "penumbra/penumbralaw16.DensSlopes", spec := "densSlopes", named := ["math/bits.overflowError"], apart := false, narrowed := true }
def DensSlopesUptoSaid : Prop := densSlopesUptoRow.holds Try.pinned (OpenSpec.upto densSlopesSpec)

/-- 'penumbralaw16.DensFar', WHERE WHAT IT READS IS OF BULK AT MOST 1048576: true; the input reads as it did. -/
def densFarUptoRow : OpenClaim := { program := "ytadaibgdeojlmaa", sum := "96dbe29bb443720776d0f05a18f066be94d743ced9bf1142604b9d1bd87ad078", func := "penumbra/penumbralaw16.DensFar", spec := "densFar", named := ["math/bits.overflowError"], apart := false, narrowed := true }
def DensFarUptoSaid : Prop := densFarUptoRow.holds Try.pinned (OpenSpec.upto densFarSpec)

end Rows
end Go.Proofs.Ytadaibgdeojlmaa

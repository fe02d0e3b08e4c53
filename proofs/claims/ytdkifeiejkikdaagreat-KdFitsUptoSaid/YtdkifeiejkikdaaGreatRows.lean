/-
  No cell of these rows narrows 'for every input' (looked for: loops, veiled, ifaces, maps, wideKeys, modest, calm, conditions, laid).
  DERIVED. THE GIVEN ROWS OF THIS SEAT. 4 by the template 'for every input the law returns true; each argument reads behind the call as it read before'; 0 by the template 'total and deterministic' (their statements: YtdkifeiejkikdaaGreatTotals.lean).
  GIVEN WITH THE SEED: the statements are not yours to turn. If you find one false, say at which input.
  Laid BY PROGRAM, IN A SANDBOX (cutbox-rows.mjs): the forced cells as the released guide's own fill.sh prints them over the translation 94ca85b5696bf0e2… (all of the seat's roots in one cut). By AI agents, Wed Nov 11 2026. No macro, syntax, notation, axiom, sorry.
-/
import Derived.Test.YtdkifeiejkikdaaGreatChecked
import GoSem.Claim
import GoSem.ClaimJoined
import GoSem.ClaimMapViews
import Derived.JoinedTies
import Derived.KernelRfl
namespace Go.Proofs.YtdkifeiejkikdaaGreat
/- THE CELL 'sum', in the pinned program and in every row, IS THE sha256 OF THE DUMP (.gsa) THAT YtdkifeiejkikdaaGreatProg.lean LOADS. Nothing in Lean hashes anything: it is a label: what it is worth is what the hold of that sum in a sandbox is worth. -/
noncomputable def Tryz.pinned : Pinned := { name := "ytdkifeiejkikdaagreat", sum := "94ca85b5696bf0e2fe1ce9f04273f6fc0325e8b2e1d5573a21f6b8dc5f8c770c", checked := Tryz.checked }
namespace Rows
def none {H : Type} : Left H := { results := [], args := [] }

/-- 'penumbralaw22.BallNear': WHATEVER THE INPUT: true; the input reads as it did. -/
def ballNearSpec : ChangeSpec := { name := "ballNear", fn := fun _ => fun
  | [d] => { results := [.lit (.bool true)], args := [d] }
  | _ => none }
def ballNearRow : OpenClaim := { program := "ytdkifeiejkikdaagreat", sum := "94ca85b5696bf0e2fe1ce9f04273f6fc0325e8b2e1d5573a21f6b8dc5f8c770c", func := "penumbra/penumbralaw22.BallNear", spec := "ballNear", recurses := true, named := ["math/bits.overflowError"], apart := false }
def BallNearSaid : Prop := ballNearRow.holds Tryz.pinned (OpenSpec.ofChange ballNearSpec)

/-- ITS FALSE NEIGHBOUR: 'it returns false'. Refute it at one input. -/
def ballNearWrong : ChangeSpec := { name := "ballNear", fn := fun _ => fun
  | [d] => { results := [.lit (.bool false)], args := [d] }
  | _ => none }
def BallNearWrongFalsely : Prop := ballNearRow.holds Tryz.pinned (OpenSpec.ofChange ballNearWrong)

/-- 'penumbralaw22.BallPairs': WHATEVER THE INPUT: true; the input reads as it did. -/
def ballPairsSpec : ChangeSpec := { name := "ballPairs", fn := fun _ => fun
  | [d] => { results := [.lit (.bool true)], args := [d] }
  | _ => none }
def ballPairsRow : OpenClaim := { program := "ytdkifeiejkikdaagreat", sum := "94ca85b5696bf0e2fe1ce9f04273f6fc0325e8b2e1d5573a21f6b8dc5f8c770c", func := "penumbra/penumbralaw22.BallPairs", spec := "ballPairs", recurses := true, named := ["math/bits.overflowError"], apart := false }
def BallPairsSaid : Prop := ballPairsRow.holds Tryz.pinned (OpenSpec.ofChange ballPairsSpec)

/-- ITS FALSE NEIGHBOUR: 'it returns false'. Refute it at one input. -/
def ballPairsWrong : ChangeSpec := { name := "ballPairs", fn := fun _ => fun
  | [d] => { results := [.lit (.bool false)], args := [d] }
  | _ => none }
def BallPairsWrongFalsely : Prop := ballPairsRow.holds Tryz.pinned (OpenSpec.ofChange ballPairsWrong)

/-- 'penumbralaw23.KdChecks': WHATEVER THE INPUT: true; the input reads as it did. -/
def kdChecksSpec : ChangeSpec := { name := "kdChecks", fn := fun _ => fun
  | [d1, d2] => { results := [.lit (.bool true)], args := [d1, d2] }
  | _ => none }
def kdChecksRow : OpenClaim := { program := "ytdkifeiejkikdaagreat", sum := "94ca85b5696bf0e2fe1ce9f04273f6fc0325e8b2e1d5573a21f6b8dc5f8c770c", func := "penumbra/penumbralaw23.KdChecks", spec := "kdChecks", unfollowed := true, recurses := true, named := ["math/bits.overflowError"], apart := false }
def KdChecksSaid : Prop := kdChecksRow.holds Tryz.pinned (OpenSpec.ofChange kdChecksSpec)

/-- ITS FALSE NEIGHBOUR: 'it returns false'. Refute it at one input. -/
def kdChecksWrong : ChangeSpec := { name := "kdChecks", fn := fun _ => fun
  | [d1, d2] => { results := [.lit (.bool false)], args := [d1, d2] }
  | _ => none }
def KdChecksWrongFalsely : Prop := kdChecksRow.holds Tryz.pinned (OpenSpec.ofChange kdChecksWrong)

/-- 'penumbralaw23.KdFits': WHATEVER THE INPUT: true; the input reads as it did. -/
def kdFitsSpec : ChangeSpec := { name := "kdFits", fn := fun _ => fun
  | [d] => { results := [.lit (.bool true)], args := [d] }
  | _ => none }
def kdFitsRow : OpenClaim := { program := "ytdkifeiejkikdaagreat", sum := "94ca85b5696bf0e2fe1ce9f04273f6fc0325e8b2e1d5573a21f6b8dc5f8c770c", func := "penumbra/penumbralaw23.KdFits", spec := "kdFits", unfollowed := true, recurses := true, named := ["math/bits.overflowError"], apart := false }
def KdFitsSaid : Prop := kdFitsRow.holds Tryz.pinned (OpenSpec.ofChange kdFitsSpec)

/-- ITS FALSE NEIGHBOUR: 'it returns false'. Refute it at one input. -/
def kdFitsWrong : ChangeSpec := { name := "kdFits", fn := fun _ => fun
  | [d] => { results := [.lit (.bool false)], args := [d] }
  | _ => none }
def KdFitsWrongFalsely : Prop := kdFitsRow.holds Tryz.pinned (OpenSpec.ofChange kdFitsWrong)

/- THE SECOND FORM. 'bulk': how many values and letters a reading holds, each counted each time it is reached (what is shared counts as often as it is met; a slice's spare places count too). A statement '..UptoSaid' is the law's where the arguments, and the package variables that the reading takes, are together of bulk at most 1048576: NARROWER than '..Said'. Prove '..Said' where nothing that the law and all that it calls make is longer than what came in: it says more and counts as full. Else prove '..UptoSaid'. A law counts once. -/
mutual
def uptoBulk {H : Type} : DataW H → Nat
  | .lit (.string bytes) => bytes.length + 1
  | .lit _ => 1
  | .nil => 1
  | .ptr d => uptoBulk d + 1
  | .slice elems spare => uptoBulkAll elems + uptoBulkAll spare + 1
  | .agg parts => uptoBulkAll parts + 1
  | .iface _ d => uptoBulk d + 1
  | .map entries => uptoBulkEntries entries + 1
  | .held _ => 1
def uptoBulkAll {H : Type} : List (DataW H) → Nat
  | [] => 0
  | d :: r => uptoBulk d + uptoBulkAll r
def uptoBulkEntries {H : Type} : List (Lit × DataW H) → Nat
  | [] => 0
  | x :: r => uptoBulkEntry x + uptoBulkEntries r
def uptoBulkEntry {H : Type} : Lit × DataW H → Nat
  | (.string bytes, d) => bytes.length + uptoBulk d + 1
  | (_, d) => uptoBulk d + 1
 end
def uptoSmall : (H : Type) → List (DataW H) → Bool := fun _ ds => decide (uptoBulkAll ds ≤ 1048576)
def OpenSpec.upto (s : _root_.Go.ChangeSpec) : _root_.Go.OpenSpec := { _root_.Go.OpenSpec.ofChange s with cond := some uptoSmall }

/-- 'penumbralaw22.BallNear', WHERE WHAT IT READS IS OF BULK AT MOST 1048576: true; the input reads as it did. -/
def ballNearUptoRow : OpenClaim := { program := "ytdkifeiejkikdaagreat", sum := "94ca85b5696bf0e2fe1ce9f04273f6fc0325e8b2e1d5573a21f6b8dc5f8c770c", func := "penumbra/penumbralaw22.BallNear", spec := "ballNear", recurses := true, named := ["math/bits.overflowError"], apart := false, narrowed := true }
def BallNearUptoSaid : Prop := ballNearUptoRow.holds Tryz.pinned (OpenSpec.upto ballNearSpec)

/-- 'penumbralaw22.BallPairs', WHERE WHAT IT READS IS OF BULK AT MOST 1048576: true; the input reads as it did. -/
def ballPairsUptoRow : OpenClaim := { program := "ytdkifeiejkikdaagreat", sum := "94ca85b5696bf0e2fe1ce9f04273f6fc0325e8b2e1d5573a21f6b8dc5f8c770c", func := "penumbra/penumbralaw22.BallPairs", spec := "ballPairs", recurses := true, named := ["math/bits.overflowError"], apart := false, narrowed := true }
def BallPairsUptoSaid : Prop := ballPairsUptoRow.holds Tryz.pinned (OpenSpec.upto ballPairsSpec)

/-- 'penumbralaw23.KdChecks', WHERE WHAT IT READS IS OF BULK AT MOST 1048576: true; the input reads as it did. -/
def kdChecksUptoRow : OpenClaim := { program := "ytdkifeiejkikdaagreat", sum := "94ca85b5696bf0e2fe1ce9f04273f6fc0325e8b2e1d5573a21f6b8dc5f8c770c", func := "penumbra/penumbralaw23.KdChecks", spec := "kdChecks", unfollowed := true, recurses := true, named := ["math/bits.overflowError"], apart := false, narrowed := true }
def KdChecksUptoSaid : Prop := kdChecksUptoRow.holds Tryz.pinned (OpenSpec.upto kdChecksSpec)

/-- 'penumbralaw23.KdFits', WHERE WHAT IT READS IS OF BULK AT MOST 1048576: true; the input reads as it did. -/
def kdFitsUptoRow : OpenClaim := { program := "ytdkifeiejkikdaagreat", sum := "94ca85b5696bf0e2fe1ce9f04273f6fc0325e8b2e1d5573a21f6b8dc5f8c770c", func := "penumbra/penumbralaw23.KdFits", spec := "kdFits", unfollowed := true, recurses := true, named := ["math/bits.overflowError"], apart := false, narrowed := true }
def KdFitsUptoSaid : Prop := kdFitsUptoRow.holds Tryz.pinned (OpenSpec.upto kdFitsSpec)

end Rows
end Go.Proofs.YtdkifeiejkikdaaGreat

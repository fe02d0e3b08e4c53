/- The trees are what the symbolic compiler makes of the functions. -/
import Derived.Test.YtgoendglkhilkaaPx24
import Derived.Test.YtgoendglkhilkaaIr3
import Derived.Test.YtgoendglkhilkaaProg
import Derived.Tactics
set_option maxRecDepth 20000
set_option maxHeartbeats 4000000
set_option linter.unusedVariables false
namespace Go.Px
open Go.RowKit
theorem tree_penumbralaw03_fixed : symFunc Go.Proofs.Try.prog H0 400 F.penumbralaw03_fixed [] = some ir_penumbralaw03_fixed := by kernel_rfl
theorem tree_penumbralaw13_DrawsChecks : symFunc Go.Proofs.Try.prog H0 400 F.penumbralaw13_DrawsChecks [.agg 12, .one, .one] = some ir_penumbralaw13_DrawsChecks := by kernel_rfl
theorem tree_penumbralaw13_DrawsPasses : symFunc Go.Proofs.Try.prog H0 400 F.penumbralaw13_DrawsPasses [.agg 19] = some ir_penumbralaw13_DrawsPasses := by kernel_rfl
theorem tree_penumbralaw03_RatField : symFunc Go.Proofs.Try.prog H0 400 F.penumbralaw03_RatField [.agg 3, .agg 3, .agg 3] = some ir_penumbralaw03_RatField := by kernel_rfl
theorem tree_penumbralaw03_RatOrders : symFunc Go.Proofs.Try.prog H0 400 F.penumbralaw03_RatOrders [.agg 3, .agg 3, .agg 3] = some ir_penumbralaw03_RatOrders := by kernel_rfl
theorem tree_penumbralaw03_RatReckons : symFunc Go.Proofs.Try.prog H0 400 F.penumbralaw03_RatReckons [.agg 3, .agg 3] = some ir_penumbralaw03_RatReckons := by kernel_rfl
theorem tree_penumbralaw03_RatReads : symFunc Go.Proofs.Try.prog H0 400 F.penumbralaw03_RatReads [.agg 3, .one, .one] = some ir_penumbralaw03_RatReads := by kernel_rfl
theorem tree_penumbralaw06_FrameLays : symFunc Go.Proofs.Try.prog H0 400 F.penumbralaw06_FrameLays [.agg 9] = some ir_penumbralaw06_FrameLays := by kernel_rfl
end Go.Px

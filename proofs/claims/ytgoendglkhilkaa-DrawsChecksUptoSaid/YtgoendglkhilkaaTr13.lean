/- The trees are what the symbolic compiler makes of the functions. -/
import Derived.Test.YtgoendglkhilkaaPx24
import Derived.Test.YtgoendglkhilkaaIr13
import Derived.Test.YtgoendglkhilkaaProg
import Derived.Tactics
set_option maxRecDepth 20000
set_option maxHeartbeats 4000000
set_option linter.unusedVariables false
namespace Go.Px
open Go.RowKit
theorem tree_draws_Need : symFunc Go.Proofs.Try.prog H0 400 F.draws_Need [.agg 12, .one, .one] = some ir_draws_Need := by kernel_rfl
theorem tree_penumbraref13_Need : symFunc Go.Proofs.Try.prog H0 400 F.penumbraref13_Need [.agg 12, .one, .one] = some ir_penumbraref13_Need := by kernel_rfl
theorem tree_penumbralaw13_fixed : symFunc Go.Proofs.Try.prog H0 400 F.penumbralaw13_fixed [] = some ir_penumbralaw13_fixed := by kernel_rfl
theorem tree_draws_Check : symFunc Go.Proofs.Try.prog H0 400 F.draws_Check [.agg 12] = some ir_draws_Check := by kernel_rfl
theorem tree_penumbraref13_Check : symFunc Go.Proofs.Try.prog H0 400 F.penumbraref13_Check [.agg 12] = some ir_penumbraref13_Check := by kernel_rfl
theorem tree_draws_Index : symFunc Go.Proofs.Try.prog H0 400 F.draws_Index [.agg 12, .one, .one, .agg 4] = some ir_draws_Index := by kernel_rfl
theorem tree_draws_lay : symFunc Go.Proofs.Try.prog H0 400 F.draws_lay [.agg 12, .one, .one] = some ir_draws_lay := by kernel_rfl
theorem tree__draws_layout__pass : symFunc Go.Proofs.Try.prog H0 400 F._draws_layout__pass [.agg 4] = some ir__draws_layout__pass := by kernel_rfl
theorem tree_draws_truth : symFunc Go.Proofs.Try.prog H0 400 F.draws_truth [.one] = some ir_draws_truth := by kernel_rfl
theorem tree_penumbralaw13_some : symFunc Go.Proofs.Try.prog H0 400 F.penumbralaw13_some [] = some ir_penumbralaw13_some := by kernel_rfl
theorem tree_draws_Unit : symFunc Go.Proofs.Try.prog H0 400 F.draws_Unit [.one, .one] = some ir_draws_Unit := by kernel_rfl
theorem tree_draws_within : symFunc Go.Proofs.Try.prog H0 400 F.draws_within [.one, .one, .one] = some ir_draws_within := by kernel_rfl
theorem tree_draws_small : symFunc Go.Proofs.Try.prog H0 400 F.draws_small [.agg 3] = some ir_draws_small := by kernel_rfl
theorem tree_penumbraref13_small : symFunc Go.Proofs.Try.prog H0 400 F.penumbraref13_small [.agg 3] = some ir_penumbraref13_small := by kernel_rfl
end Go.Px

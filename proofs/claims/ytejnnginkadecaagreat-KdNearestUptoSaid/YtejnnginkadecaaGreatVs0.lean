/- Vs0: sums of threes of numbers. -/
import Derived.Test.YtejnnginkadecaaGreatLv
import Derived.Test.YtejnnginkadecaaGreatTr1
set_option maxRecDepth 10000
set_option maxHeartbeats 4000000
set_option linter.unusedSimpArgs false
set_option linter.unusedVariables false
namespace Go.Px.Na
open Go.RowKit
open Go.Proofs.Tryz (prog)

theorem k_vOf (x y z : Int) (h0 : -9223372036854775808 ≤ x) (h1 : x < 9223372036854775808) (h2 : -9223372036854775808 ≤ y) (h3 : y < 9223372036854775808) (h4 : -9223372036854775808 ≤ z) (h5 : z < 9223372036854775808) : PureCalls prog F.vec_Of [.one (.int .i64 x), .one (.int .i64 y), .one (.int .i64 z)] [.agg (r3 (ofQ x 1) (ofQ y 1) (ofQ z 1))] := by
  refine symFunc_sound hmix tree_vec_Of (by kernel_rfl) rfl ?_
  unfold ir_vec_Of
  simp only [FF, VV, List.cons_append, List.nil_append, List.append_nil]
  refine call_step (c_ofQ x 1 h0 h1 (by decide) (by decide)) rfl ?_
  simp only [FF, VV, List.cons_append, List.nil_append, List.append_nil]
  refine call_step (c_ofQ y 1 h2 h3 (by decide) (by decide)) rfl ?_
  simp only [FF, VV, List.cons_append, List.nil_append, List.append_nil]
  refine call_step (c_ofQ z 1 h4 h5 (by decide) (by decide)) rfl ?_
  simp only [FF, VV, List.cons_append, List.nil_append, List.append_nil]
  exact ret_step rfl

end Go.Px.Na

/- QKdChecks: whether any tree fits any points, and how deep it is, if it does, is as the document says. -/
import Derived.Test.YtdkifeiejkikdaaGreatKq
set_option maxRecDepth 40000
set_option maxHeartbeats 40000000
set_option linter.unusedVariables false
set_option linter.unusedSimpArgs false
namespace Go.Px
open Go.RowKit
def ir_penumbralaw23_KdChecks : IR :=
 .prim .len [.var 0] <|
 .prim (.bin .gtr) [.var 2, .int .i64 (200)] <|
 .ite (.var 3) (
  .call F.penumbralaw23_fixed [] [.one] <|
  .ret [.one (.var 4)]) (
  .call F.penumbraref23_Check [.agg [.var 0], .one (.var 1)] [.one] <|
  .call F.penumbralaw23_fixed [] [.one] <|
  .ite (.var 5) (
   .call F.kd_Check [.agg [.var 0], .one (.var 1)] [.one] <|
   .prim (.beq false) [.var 6, .var 4] <|
   .ite (.var 7) (
    .prim .not [.var 4] <|
    .ite (.var 8) (
     .ret [.one (.bol true)]) (
     .call F.kd_Depth [.agg [.var 0]] [.one] <|
     .call F.penumbraref23_Depth [.agg [.var 0]] [.one] <|
     .prim (.bin .eql) [.var 9, .var 10] <|
     .ret [.one (.var 11)])) (
    .ret [.one (.bol false)])) (
   .ret [.one (.bol false)]))

theorem tree_penumbralaw23_KdChecks : symFunc Go.Proofs.Tryz.prog ⟨fun f => [71, 50, 24, 69].contains f, fun f i => [], fun f i => [], fun f => [23, 96].contains f, fun f => if f = 45 then some ([.row 4 51, .pl], [.row 1 3, .pl], 1) else if f = 63 then some ([.pl, .pl, .pl, .pl, .pl, .pl, .pl, .pl, .pl, .pl, .pl, .pl, .row 4 99, .row 1 4, .row 1 4], [.pl], 0) else if f = 126 then some ([.pl, .pl, .pl, .pl, .pl, .pl, .pl, .pl, .pl, .pl, .pl, .pl, .row 4 99, .row 1 4, .row 1 4], [], 0) else if f = 127 then some ([.pl, .pl, .pl, .pl, .pl, .pl, .pl, .pl, .pl, .pl, .pl, .pl, .row 4 99, .row 1 4, .row 1 4], [], 0) else none⟩ 400 F.penumbralaw23_KdChecks [.agg 1, .one] = some ir_penumbralaw23_KdChecks := by kernel_rfl
end Go.Px
namespace Go.Px.Na
open Go.RowKit
open Go.Proofs.Tryz (prog)
theorem pure_KdChecks {ns : List KN} {rs : List RV} {ps : List V3} (hp : NVs 1048576 rs ps) : PureCalls prog F.penumbralaw23_KdChecks [.agg [kl ns], .one (vl rs)] [.one (.bool true)] := by
  have hlen := hp.len
  have kr := f_RCheck (ns := ns) hp (by decide)
  have kc := f_Check (ns := ns) hp (by decide)
  refine symFunc_sound hmix tree_penumbralaw23_KdChecks (by kernel_rfl) rfl ?_
  unfold ir_penumbralaw23_KdChecks
  try simp only [HH, gW, gD, V3.l, M4.l, Fr.l, Sp.l, RV.l, RM.l, RF.l, RS.l]
  refine primS (.int .i64 (ns.length : Int)) rfl ?_
  refine primS (.bool (decide ((200 : Int) < (ns.length : Int)))) d_gtr ?_
  refine itD rfl (fun c => ?_) (fun c => ?_)
  · refine call_step f_fixed23 rfl ?_
    try simp only [HH, gW, gD, V3.l, M4.l, Fr.l, Sp.l, RV.l, RM.l, RF.l, RS.l]
    exact ret_step rfl
  refine call_step kr rfl ?_
  try simp only [HH, gW, gD, V3.l, M4.l, Fr.l, Sp.l, RV.l, RM.l, RF.l, RS.l]
  refine call_step f_fixed23 rfl ?_
  try simp only [HH, gW, gD, V3.l, M4.l, Fr.l, Sp.l, RV.l, RM.l, RF.l, RS.l]
  refine itT rfl ?_
  refine call_step kc rfl ?_
  try simp only [HH, gW, gD, V3.l, M4.l, Fr.l, Sp.l, RV.l, RM.l, RF.l, RS.l]
  generalize hF : tb (Fit ns ps) = b
  refine primS (.bool true) (d_beqf.trans (by cases b <;> rfl)) ?_
  refine itT rfl ?_
  refine primS (.bool (!b)) rfl ?_
  refine itb_step rfl (fun e => ?_) (fun e => ?_)
  · exact ret_step rfl
  have hFit : Fit ns ps := tb_iff.1 (by rw [hF]; cases b with
    | true => rfl
    | false => cases e)
  refine call_step (f_Depth (ns := ns) (by omega)) rfl ?_
  try simp only [HH, gW, gD, V3.l, M4.l, Fr.l, Sp.l, RV.l, RM.l, RF.l, RS.l]
  refine call_step (f_R23_Depth (m := ps.length) hFit.2.1 hFit.1 hFit.2.2.1.1) rfl ?_
  try simp only [HH, gW, gD, V3.l, M4.l, Fr.l, Sp.l, RV.l, RM.l, RF.l, RS.l]
  refine primS (.bool true) (d_eql.trans (by rw [decide_eq_true (dst_dep ⟨hFit.2.1, hFit.2.2.1⟩)])) ?_
  exact ret_step rfl
end Go.Px.Na

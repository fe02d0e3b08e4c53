/- QKdNearest: which points are the nearest, by the tree that is built and by the document's, is as the document says. -/
import Derived.Test.YtejnnginkadecaaGreatKr
import Derived.Test.YtejnnginkadecaaGreatJw
set_option maxRecDepth 40000
set_option maxHeartbeats 40000000
set_option linter.unusedVariables false
set_option linter.unusedSimpArgs false
namespace Go.Px
open Go.RowKit
def ir_penumbralaw23_KdNearest : IR :=
 .prim .len [.var 0] <|
 .prim (.bin .gtr) [.var 11, .int .i64 (100)] <|
 .ite (.var 12) (
  .call F.penumbralaw23_fixed [] [.one] <|
  .ret [.one (.var 13)]) (
  .call F.kd_Build [.one (.var 0)] [.agg 1, .one] <|
  .call F.penumbraref23_Nearest [.one (.var 0), .agg [.var 1, .var 2, .var 3, .var 4, .var 5, .var 6, .var 7, .var 8, .var 9], .one (.var 10)] [.one] <|
  .call F.penumbralaw23_fixed [] [.one] <|
  .ite (.var 16) (
   .ite (.var 14) (
    .call F.kd_Nearest [.agg [.var 13], .one (.var 0), .agg [.var 1, .var 2, .var 3, .var 4, .var 5, .var 6, .var 7, .var 8, .var 9], .one (.var 10)] [.one] <|
    .call F.penumbraref15_Ints [.one (.var 17), .one (.var 15)] [.one] <|
    .ite (.var 18) (
     .call F.penumbraref23_Tree [.one (.var 0)] [.agg 1] <|
     .call F.kd_Nearest [.agg [.var 19], .one (.var 0), .agg [.var 1, .var 2, .var 3, .var 4, .var 5, .var 6, .var 7, .var 8, .var 9], .one (.var 10)] [.one] <|
     .call F.penumbraref15_Ints [.one (.var 20), .one (.var 15)] [.one] <|
     .ret [.one (.var 21)]) (
     .ret [.one (.bol false)])) (
    .ret [.one (.bol false)])) (
   .ret [.one (.bol false)]))

theorem tree_penumbralaw23_KdNearest : symFunc Go.Proofs.Tryz.prog ⟨fun f => [28].contains f, fun f i => [], fun f i => [], fun f => [33].contains f, fun f => if f = 14 then some ([.row 4 63, .pl], [.row 1 3, .pl], 1) else if f = 17 then some ([.pl, .pl, .pl, .pl, .pl, .pl, .pl, .pl, .pl, .pl, .pl, .pl, .row 4 59, .row 1 4, .row 1 4], [.pl], 0) else if f = 49 then some ([.pl, .pl, .pl, .pl, .pl, .pl, .pl, .pl, .pl, .pl, .pl, .pl, .row 4 59, .row 1 4, .row 1 4], [], 0) else if f = 50 then some ([.pl, .pl, .pl, .pl, .pl, .pl, .pl, .pl, .pl, .pl, .pl, .pl, .row 4 59, .row 1 4, .row 1 4], [], 0) else none⟩ 400 F.penumbralaw23_KdNearest [.one, .agg 9, .one] = some ir_penumbralaw23_KdNearest := by kernel_rfl
end Go.Px
namespace Go.Px.Na
open Go.RowKit
open Go.Proofs.Tryz (prog)
theorem nearF_fit {ns : List KN} {ps : List V3} {c : V3} {k : Int} (hF : Fit ns ps) : nearF ns ps c k = ((srtF (allF ps c)).take k.toNat).map FD.pt := by
  unfold nearF
  split
  · rename_i hk
    obtain ⟨m, rfl⟩ : ∃ m : Nat, k = (m : Int) := ⟨k.toNat, by omega⟩
    rw [near_all hF (by omega), Int.toNat_natCast]
  · rw [show k.toNat = 0 by omega]; rfl
theorem pure_KdNearest {rs : List RV} {ps : List V3} {rc : RV} {c : V3} {k : Int} (hp : NVs 1048576 rs ps) (hc : NV 1048576 rc c) : PureCalls prog F.penumbralaw23_KdNearest [.one (vl rs), .agg (gW rc.l), .one (.int .i64 k)] [.one (.bool true)] := by
  have hlen := hp.len
  refine symFunc_sound hmix tree_penumbralaw23_KdNearest (by kernel_rfl) rfl ?_
  unfold ir_penumbralaw23_KdNearest
  try simp only [HH, gW, gD, V3.l, M4.l, Fr.l, Sp.l, RV.l, RM.l, RF.l, RS.l]
  refine primS (.int .i64 (rs.length : Int)) rfl ?_
  refine primS (.bool (decide ((100 : Int) < (rs.length : Int)))) d_gtr ?_
  refine itD rfl (fun c1 => ?_) (fun c1 => ?_)
  · refine call_step f_fixed23 rfl ?_
    try simp only [HH, gW, gD, V3.l, M4.l, Fr.l, Sp.l, RV.l, RM.l, RF.l, RS.l]
    exact ret_step rfl
  have k1 := f_Build hp (by decide) (by omega)
  have k2 := f_RNearest (k := k) hp hc (by decide) (by decide) (by omega)
  have k3 := f_near (ns := tre ps) (k := k) hp hc (by decide) (by decide) (by rw [tre_len]; omega) (by omega)
  rw [nearF_fit (tre_fits (by omega))] at k3
  have k4 := f_RTree hp (by decide) (by omega)
  have k5 := f_near (ns := linT ps) (k := k) hp hc (by decide) (by decide) (by rw [linT_len]; omega) (by omega)
  rw [nearF_fit (linT_fits (by omega))] at k5
  have hal : (srtF (allF ps c)).length = ps.length := by rw [allF_num]; exact srtN_len _ _
  have hWl : (((srtF (allF ps c)).take k.toNat).map FD.pt).length ≤ 1000 := by rw [List.length_map, List.length_take]; omega
  generalize ((srtF (allF ps c)).take k.toNat).map FD.pt = W at k2 k3 k5 hWl
  have k6 := f_Ints W W (by omega)
  rw [decide_eq_true rfl] at k6
  refine call_step k1 rfl ?_
  try simp only [HH, gW, gD, V3.l, M4.l, Fr.l, Sp.l, RV.l, RM.l, RF.l, RS.l]
  refine call_step k2 rfl ?_
  try simp only [HH, gW, gD, V3.l, M4.l, Fr.l, Sp.l, RV.l, RM.l, RF.l, RS.l]
  refine call_step f_fixed23 rfl ?_
  try simp only [HH, gW, gD, V3.l, M4.l, Fr.l, Sp.l, RV.l, RM.l, RF.l, RS.l]
  refine itT rfl ?_
  refine itT rfl ?_
  refine call_step k3 rfl ?_
  try simp only [HH, gW, gD, V3.l, M4.l, Fr.l, Sp.l, RV.l, RM.l, RF.l, RS.l]
  refine call_step k6 rfl ?_
  try simp only [HH, gW, gD, V3.l, M4.l, Fr.l, Sp.l, RV.l, RM.l, RF.l, RS.l]
  refine itT rfl ?_
  refine call_step k4 rfl ?_
  try simp only [HH, gW, gD, V3.l, M4.l, Fr.l, Sp.l, RV.l, RM.l, RF.l, RS.l]
  refine call_step k5 rfl ?_
  try simp only [HH, gW, gD, V3.l, M4.l, Fr.l, Sp.l, RV.l, RM.l, RF.l, RS.l]
  refine call_step k6 rfl ?_
  try simp only [HH, gW, gD, V3.l, M4.l, Fr.l, Sp.l, RV.l, RM.l, RF.l, RS.l]
  exact ret_step rfl
end Go.Px.Na

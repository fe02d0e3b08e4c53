/- Kq: what the document fixes of trees of points. -/
import Derived.Test.YtejnnginkadecaaGreatKo
import Derived.Test.YtejnnginkadecaaGreatKz
import Derived.Test.YtejnnginkadecaaGreatKu
import Derived.Test.YtejnnginkadecaaGreatKv
set_option maxRecDepth 40000
set_option maxHeartbeats 40000000
set_option linter.unusedVariables false
set_option linter.unusedSimpArgs false
namespace Go.Px
open Go.RowKit
def ir_penumbralaw23_three : IR :=
 .call F.vec_Of [.one (.int .i64 (0)), .one (.int .i64 (0)), .one (.int .i64 (0))] [.agg 9] <|
 .call F.vec_Of [.one (.int .i64 (2)), .one (.int .i64 (0)), .one (.int .i64 (0))] [.agg 9] <|
 .call F.vec_Of [.one (.int .i64 (1)), .one (.int .i64 (0)), .one (.int .i64 (0))] [.agg 9] <|
 .prim (.mk 3) [.var 0, .var 1, .var 2, .var 3, .var 4, .var 5, .var 6, .var 7, .var 8, .var 9, .var 10, .var 11, .var 12, .var 13, .var 14, .var 15, .var 16, .var 17, .var 18, .var 19, .var 20, .var 21, .var 22, .var 23, .var 24, .var 25, .var 26] <|
 .ret [.one (.var 27)]

def ir_penumbralaw23_fixed : IR :=
 .call F.penumbralaw23_three [] [.one] <|
 .call F.kd_Build [.one (.var 0)] [.agg 1, .one] <|
 .call F.kd_Build [.one (.nil)] [.agg 1, .one] <|
 .ite (.var 2) (
  .ite (.var 4) (
   .prim .len [.var 3] <|
   .prim (.bin .eql) [.var 5, .int .i64 (0)] <|
   .ite (.var 6) (
    .call F.penumbralaw23_three [] [.one] <|
    .call F.kd_Check [.agg [.var 1], .one (.var 7)] [.one] <|
    .ite (.var 8) (
     .call F.penumbralaw23_three [] [.one] <|
     .call F.kd_Check [.agg [.var 3], .one (.var 9)] [.one] <|
     .prim .not [.var 10] <|
     .ite (.var 11) (
      .call F.penumbralaw23_three [] [.one] <|
      .call F.vec_Of [.one (.int .i64 (1)), .one (.int .i64 (0)), .one (.int .i64 (0))] [.agg 9] <|
      .call F.kd_Nearest [.agg [.var 1], .one (.var 12), .agg [.var 13, .var 14, .var 15, .var 16, .var 17, .var 18, .var 19, .var 20, .var 21], .one (.int .i64 (2))] [.one] <|
      .prim (.mk 2) [.int .i64 (2), .int .i64 (0)] <|
      .call F.penumbraref15_Ints [.one (.var 22), .one (.var 23)] [.one] <|
      .ite (.var 24) (
       .call F.kd_Depth [.agg [.var 3]] [.one] <|
       .prim (.bin .eql) [.var 25, .int .i64 (0)] <|
       .ret [.one (.var 26)]) (
       .ret [.one (.bol false)])) (
      .ret [.one (.bol false)])) (
     .ret [.one (.bol false)])) (
    .ret [.one (.bol false)])) (
   .ret [.one (.bol false)])) (
  .ret [.one (.bol false)])

theorem tree_penumbralaw23_three : symFunc Go.Proofs.Tryz.prog ⟨fun f => [28].contains f, fun f i => [], fun f i => [], fun f => [33].contains f, fun f => if f = 14 then some ([.row 4 63, .pl], [.row 1 3, .pl], 1) else if f = 17 then some ([.pl, .pl, .pl, .pl, .pl, .pl, .pl, .pl, .pl, .pl, .pl, .pl, .row 4 59, .row 1 4, .row 1 4], [.pl], 0) else if f = 49 then some ([.pl, .pl, .pl, .pl, .pl, .pl, .pl, .pl, .pl, .pl, .pl, .pl, .row 4 59, .row 1 4, .row 1 4], [], 0) else if f = 50 then some ([.pl, .pl, .pl, .pl, .pl, .pl, .pl, .pl, .pl, .pl, .pl, .pl, .row 4 59, .row 1 4, .row 1 4], [], 0) else none⟩ 400 F.penumbralaw23_three [] = some ir_penumbralaw23_three := by kernel_rfl
theorem tree_penumbralaw23_fixed : symFunc Go.Proofs.Tryz.prog ⟨fun f => [28].contains f, fun f i => [], fun f i => [], fun f => [33].contains f, fun f => if f = 14 then some ([.row 4 63, .pl], [.row 1 3, .pl], 1) else if f = 17 then some ([.pl, .pl, .pl, .pl, .pl, .pl, .pl, .pl, .pl, .pl, .pl, .pl, .row 4 59, .row 1 4, .row 1 4], [.pl], 0) else if f = 49 then some ([.pl, .pl, .pl, .pl, .pl, .pl, .pl, .pl, .pl, .pl, .pl, .pl, .row 4 59, .row 1 4, .row 1 4], [], 0) else if f = 50 then some ([.pl, .pl, .pl, .pl, .pl, .pl, .pl, .pl, .pl, .pl, .pl, .pl, .row 4 59, .row 1 4, .row 1 4], [], 0) else none⟩ 400 F.penumbralaw23_fixed [] = some ir_penumbralaw23_fixed := by kernel_rfl
end Go.Px
namespace Go.Px.Na
open Go.RowKit
open Go.Proofs.Tryz (prog)
def v2_ : V3 := ⟨2, 0, 0⟩
theorem S2_ : SV 1 v2_ := ⟨Smc (by decide +kernel) (by decide +kernel), Sm0, Sm0⟩
theorem Se1_ : SV 1 e1 := ⟨Sm1, Sm0, Sm0⟩
theorem So3_ : SV 1 o3 := ⟨Sm0, Sm0, Sm0⟩
def th23_r : List RV := [cv o3, cv v2_, cv e1]
def th23_v : List V3 := [o3, v2_, e1]
theorem th23_nv : NVs 1 th23_r th23_v := ⟨rfl, fun i r p hr hp => by
  match i with
  | 0 => cases hr; cases hp; exact .of So3_
  | 1 => cases hr; cases hp; exact .of S2_
  | 2 => cases hr; cases hp; exact .of Se1_
  | i + 3 => cases hr⟩
theorem f_three23 : PureCalls prog F.penumbralaw23_three [] [.one (vl th23_r)] := by
  refine symFunc_sound hmix tree_penumbralaw23_three (by kernel_rfl) rfl ?_
  unfold ir_penumbralaw23_three
  try simp only [HH, gW, gD, V3.l, M4.l, Fr.l, Sp.l, RV.l, RM.l, RF.l, RS.l]
  refine cs3 (n_vec_Of (o0 := 0) (o1 := 0) (o2 := 0) 0 0 0 (by decide) (by decide) (by decide) (by decide) (by decide) (by decide) (by decide +kernel) (by decide +kernel) (by decide +kernel)) ?_
  try simp only [HH, gW, gD, V3.l, M4.l, Fr.l, Sp.l, RV.l, RM.l, RF.l, RS.l]
  refine cs3 (n_vec_Of (o0 := 2) (o1 := 0) (o2 := 0) 2 0 0 (by decide) (by decide) (by decide) (by decide) (by decide) (by decide) (by decide +kernel) (by decide +kernel) (by decide +kernel)) ?_
  try simp only [HH, gW, gD, V3.l, M4.l, Fr.l, Sp.l, RV.l, RM.l, RF.l, RS.l]
  refine cs3 (n_vec_Of (o0 := 1) (o1 := 0) (o2 := 0) 1 0 0 (by decide) (by decide) (by decide) (by decide) (by decide) (by decide) (by decide +kernel) (by decide +kernel) (by decide +kernel)) ?_
  try simp only [HH, gW, gD, V3.l, M4.l, Fr.l, Sp.l, RV.l, RM.l, RF.l, RS.l]
  refine primS (vl th23_r) rfl ?_
  exact ret_step rfl
theorem f_fixed23 : PureCalls prog F.penumbralaw23_fixed [] [.one (.bool true)] := by
  have k1 := f_Build th23_nv (by decide) (by decide)
  have k2 := f_Build (L := 1) (rs := []) (ps := []) ⟨rfl, fun i r p hr => by simp at hr⟩ (by decide) (by decide)
  have e0 : tre [] = [] := rfl
  rw [e0] at k2
  have k3 := f_Check (ns := tre th23_v) th23_nv (by decide)
  rw [tbT (tre_fits (ps := th23_v) (by decide))] at k3
  have k4 := f_Check (ns := []) th23_nv (by decide)
  rw [tbF (p := Fit [] th23_v) fun h => absurd h.2.1 (by decide)] at k4
  have hl : (hpF (tre th23_v) th23_v e1 2).length ≤ 12 := by decide +kernel
  have hnd : ((hpF (tre th23_v) th23_v e1 2).map FD.pt).Nodup := by decide +kernel
  have hc : NV 1 (cv e1) e1 := .of Se1_
  have ks := t_sortF (E := 59) sorts_12 sorts_none (hpF_ok (ns := tre th23_v) th23_nv hc (k := 2) (by decide)).far (by decide) hnd hl
  have k5 := f_Nearest (ns := tre th23_v) th23_nv hc (by decide) (by decide) (k := 2) (by decide) (by rw [tre_len]; decide) (by decide) (srtF_perm _).length_eq ks
  rw [show (srtF (hpF (tre th23_v) th23_v e1 2)).map FD.pt = [2, 0] by decide +kernel] at k5
  have ki := f_Ints [2, 0] [2, 0] (by decide)
  rw [decide_eq_true rfl] at ki
  have kd := f_Depth (ns := []) (by decide)
  rw [show (dst [] ([] : List KN).length).1 = 0 from rfl] at kd
  generalize tre th23_v = t at k1 k3 k5
  refine symFunc_sound hmix tree_penumbralaw23_fixed (by kernel_rfl) rfl ?_
  unfold ir_penumbralaw23_fixed
  try simp only [HH, gW, gD, V3.l, M4.l, Fr.l, Sp.l, RV.l, RM.l, RF.l, RS.l]
  refine call_step f_three23 rfl ?_
  try simp only [HH, gW, gD, V3.l, M4.l, Fr.l, Sp.l, RV.l, RM.l, RF.l, RS.l]
  refine call_step k1 rfl ?_
  try simp only [HH, gW, gD, V3.l, M4.l, Fr.l, Sp.l, RV.l, RM.l, RF.l, RS.l]
  refine call_step k2 rfl ?_
  try simp only [HH, gW, gD, V3.l, M4.l, Fr.l, Sp.l, RV.l, RM.l, RF.l, RS.l]
  refine itT rfl ?_
  refine itT rfl ?_
  refine primS (.int .i64 0) rfl ?_
  refine primS (.bool true) rfl ?_
  refine itT rfl ?_
  try simp only [HH, gW, gD, V3.l, M4.l, Fr.l, Sp.l, RV.l, RM.l, RF.l, RS.l]
  refine call_step f_three23 rfl ?_
  try simp only [HH, gW, gD, V3.l, M4.l, Fr.l, Sp.l, RV.l, RM.l, RF.l, RS.l]
  refine call_step k3 rfl ?_
  try simp only [HH, gW, gD, V3.l, M4.l, Fr.l, Sp.l, RV.l, RM.l, RF.l, RS.l]
  refine itT rfl ?_
  refine call_step f_three23 rfl ?_
  try simp only [HH, gW, gD, V3.l, M4.l, Fr.l, Sp.l, RV.l, RM.l, RF.l, RS.l]
  refine call_step k4 rfl ?_
  try simp only [HH, gW, gD, V3.l, M4.l, Fr.l, Sp.l, RV.l, RM.l, RF.l, RS.l]
  refine primS (.bool true) rfl ?_
  refine itT rfl ?_
  try simp only [HH, gW, gD, V3.l, M4.l, Fr.l, Sp.l, RV.l, RM.l, RF.l, RS.l]
  refine call_step f_three23 rfl ?_
  try simp only [HH, gW, gD, V3.l, M4.l, Fr.l, Sp.l, RV.l, RM.l, RF.l, RS.l]
  refine cs3 (n_vec_Of (o0 := 1) (o1 := 0) (o2 := 0) 1 0 0 (by decide) (by decide) (by decide) (by decide) (by decide) (by decide) (by decide +kernel) (by decide +kernel) (by decide +kernel)) ?_
  try simp only [HH, gW, gD, V3.l, M4.l, Fr.l, Sp.l, RV.l, RM.l, RF.l, RS.l]
  refine call_step k5 rfl ?_
  try simp only [HH, gW, gD, V3.l, M4.l, Fr.l, Sp.l, RV.l, RM.l, RF.l, RS.l]
  refine primS (il [2, 0]) rfl ?_
  try simp only [HH, gW, gD, V3.l, M4.l, Fr.l, Sp.l, RV.l, RM.l, RF.l, RS.l]
  refine call_step ki rfl ?_
  try simp only [HH, gW, gD, V3.l, M4.l, Fr.l, Sp.l, RV.l, RM.l, RF.l, RS.l]
  refine itT rfl ?_
  refine call_step kd rfl ?_
  try simp only [HH, gW, gD, V3.l, M4.l, Fr.l, Sp.l, RV.l, RM.l, RF.l, RS.l]
  refine primS (.bool true) rfl ?_
  exact ret_step rfl
end Go.Px.Na

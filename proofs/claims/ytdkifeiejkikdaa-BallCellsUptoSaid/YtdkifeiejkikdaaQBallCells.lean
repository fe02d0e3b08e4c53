/- QBallCells: how great the cells are, and how many slots there are, is of no moment for which points are near. -/
import Derived.Test.YtdkifeiejkikdaaHq
set_option maxRecDepth 20000
set_option maxHeartbeats 40000000
set_option linter.unusedVariables false
set_option linter.unusedSimpArgs false
namespace Go.Px
open Go.RowKit
def ir_penumbralaw22_BallCells : IR :=
 .call F.ball_Near [.one (.var 0), .agg [.var 1, .var 2, .var 3], .one (.var 4), .agg [.var 5, .var 6, .var 7, .var 8, .var 9, .var 10, .var 11, .var 12, .var 13], .agg [.var 14, .var 15, .var 16]] [.one, .one] <|
 .call F.penumbralaw22_fixed [] [.one] <|
 .prim .not [.var 23] <|
 .ite (.var 24) (
  .call F.penumbralaw22_fixed [] [.one] <|
  .ret [.one (.var 25)]) (
  .prim .not [.var 22] <|
  .ite (.var 25) (
   .call F.penumbralaw22_fixed [] [.one] <|
   .ret [.one (.var 26)]) (
   .call F.rat_Sign [.agg [.var 17, .var 18, .var 19]] [.one] <|
   .prim (.bin .lss) [.var 26, .int .i64 (0)] <|
   .ite (.var 27) (
    .call F.penumbralaw22_fixed [] [.one] <|
    .ret [.one (.var 28)]) (
    .prim (.bin .lss) [.var 20, .int .i64 (1)] <|
    .ite (.var 28) (
     .call F.penumbralaw22_fixed [] [.one] <|
     .ret [.one (.var 29)]) (
     .prim (.bin .gtr) [.var 20, .int .i64 (256)] <|
     .ite (.var 29) (
      .call F.penumbralaw22_fixed [] [.one] <|
      .ret [.one (.var 30)]) (
      .prim (.mk 2) [.var 1, .var 2, .var 3, .var 17, .var 18, .var 19] <|
      .call F.rat_Sum [.one (.var 30)] [.agg 3] <|
      .call F.ball_Near [.one (.var 0), .agg [.var 31, .var 32, .var 33], .one (.var 20), .agg [.var 5, .var 6, .var 7, .var 8, .var 9, .var 10, .var 11, .var 12, .var 13], .agg [.var 14, .var 15, .var 16]] [.one, .one] <|
      .ite (.var 35) (
       .call F.penumbraref15_Ints [.one (.var 21), .one (.var 34)] [.one] <|
       .ret [.one (.var 36)]) (
       .ret [.one (.bol false)]))))))

theorem tree_penumbralaw22_BallCells : symFunc Go.Proofs.Try.prog ⟨fun f => [69, 46, 23].contains f, fun f i => [], fun f i => [], fun f => [22].contains f⟩ 400 F.penumbralaw22_BallCells [.agg 17, .agg 3, .one] = some ir_penumbralaw22_BallCells := by kernel_rfl
end Go.Px
namespace Go.Px.Na
open Go.RowKit
open Go.Proofs.Try (prog)
theorem pure_BallCells {rs : List RV} {ps : List V3} {rsd rr2 rmo : RR} {rp : RV} {p : V3} {s r2 mo : Rat} {n n2 : Int} (hp : NVs 1048576 rs ps) (g : Num 1048576 rsd s) (h : NV 1048576 rp p) (hr : Num 1048576 rr2 r2) (hmo : Num 1048576 rmo mo) (hN : ps.length ≤ 1048576) :
    PureCalls prog F.penumbralaw22_BallCells [.agg [vl rs, .bool rsd.neg, nl rsd.num, nl rsd.den, .int .i64 n, .bool rp.x.neg, nl rp.x.num, nl rp.x.den, .bool rp.y.neg, nl rp.y.num, nl rp.y.den, .bool rp.z.neg, nl rp.z.num, nl rp.z.den, .bool rr2.neg, nl rr2.num, nl rr2.den], .agg (gW [rmo]), .one (.int .i64 n2)] [.one (.bool true)] := by
  have hlen := hp.len
  have k1 := f_Near (n := n) hp hN g h hr (by decide)
  unfold bnear at k1
  refine symFunc_sound hmix tree_penumbralaw22_BallCells (by kernel_rfl) rfl ?_
  unfold ir_penumbralaw22_BallCells
  try simp only [HH, gW, gD, V3.l, M4.l, Fr.l, Sp.l, RV.l, RM.l, RF.l, RS.l]
  by_cases bm : bmay ps s n r2
  · rw [if_pos bm] at k1
    refine call_step k1 rfl ?_
    try simp only [HH, gW, gD, V3.l, M4.l, Fr.l, Sp.l, RV.l, RM.l, RF.l, RS.l]
    refine call_step f_fixed22 rfl ?_
    try simp only [HH, gW, gD, V3.l, M4.l, Fr.l, Sp.l, RV.l, RM.l, RF.l, RS.l]
    refine primS (.bool false) rfl ?_
    refine itF rfl ?_
    refine primS (.bool false) rfl ?_
    refine itF rfl ?_
    refine call_step (f_rat_Sign hmo (by decide)) rfl ?_
    try simp only [HH, gW, gD, V3.l, M4.l, Fr.l, Sp.l, RV.l, RM.l, RF.l, RS.l]
    refine primS (.bool (decide _)) pr_lt ?_
    refine itD rfl (fun c1 => ?_) (fun c1 => ?_)
    · refine call_step f_fixed22 rfl ?_
      try simp only [HH, gW, gD, V3.l, M4.l, Fr.l, Sp.l, RV.l, RM.l, RF.l, RS.l]
      exact ret_step rfl
    refine primS (.bool (decide _)) d_lss ?_
    refine itD rfl (fun c2 => ?_) (fun c2 => ?_)
    · refine call_step f_fixed22 rfl ?_
      try simp only [HH, gW, gD, V3.l, M4.l, Fr.l, Sp.l, RV.l, RM.l, RF.l, RS.l]
      exact ret_step rfl
    refine primS (.bool (decide _)) d_gtr ?_
    refine itD rfl (fun c3 => ?_) (fun c3 => ?_)
    · refine call_step f_fixed22 rfl ?_
      try simp only [HH, gW, gD, V3.l, M4.l, Fr.l, Sp.l, RV.l, RM.l, RF.l, RS.l]
      exact ret_step rfl
    refine primS (rlN2 g hmo) rfl ?_
    refine cs1 (n_rat_Sum_2 (g.mono (by decide)) (hmo.mono (by decide)) rfl) ?_
    try simp only [HH, gW, gD, V3.l, M4.l, Fr.l, Sp.l, RV.l, RM.l, RF.l, RS.l]
    have hs0 : 0 < s := bm.1.1
    have hmo0 : 0 ≤ mo := by grind
    have bm2 : bmay ps (s + mo) n2 r2 := by
      refine ⟨⟨by grind, by omega, by omega⟩, bm.2.1, bm.2.2.1, ?_⟩
      have h1 := bm.2.2.2
      have h2 := Rat.mul_nonneg (a := s) (b := mo) (by grind) hmo0
      have h3 := Rat.mul_nonneg (a := mo) (b := mo) hmo0 hmo0
      grind
    have k2 := f_Near (n := n2) hp hN (Num.of (g.sm.add hmo.sm)) h hr (by decide)
    unfold bnear at k2
    rw [if_pos bm2] at k2
    refine call_step k2 rfl ?_
    try simp only [HH, gW, gD, V3.l, M4.l, Fr.l, Sp.l, RV.l, RM.l, RF.l, RS.l]
    refine itT rfl ?_
    have ki := f_Ints (nearL ps p r2) (nearL ps p r2) (Nat.le_trans nearL_len (by omega))
    rw [decide_eq_true rfl] at ki
    refine call_step ki rfl ?_
    try simp only [HH, gW, gD, V3.l, M4.l, Fr.l, Sp.l, RV.l, RM.l, RF.l, RS.l]
    exact ret_step rfl
  · rw [if_neg bm] at k1
    refine call_step k1 rfl ?_
    try simp only [HH, gW, gD, V3.l, M4.l, Fr.l, Sp.l, RV.l, RM.l, RF.l, RS.l]
    refine call_step f_fixed22 rfl ?_
    try simp only [HH, gW, gD, V3.l, M4.l, Fr.l, Sp.l, RV.l, RM.l, RF.l, RS.l]
    refine primS (.bool false) rfl ?_
    refine itF rfl ?_
    refine primS (.bool true) rfl ?_
    refine itT rfl ?_
    refine call_step f_fixed22 rfl ?_
    try simp only [HH, gW, gD, V3.l, M4.l, Fr.l, Sp.l, RV.l, RM.l, RF.l, RS.l]
    exact ret_step rfl
end Go.Px.Na

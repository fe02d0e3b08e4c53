/- QBallPairs: which points are near to one another is as the document says. -/
import Derived.Test.YtdkifeiejkikdaaGreatHr
set_option maxRecDepth 20000
set_option maxHeartbeats 40000000
set_option linter.unusedVariables false
set_option linter.unusedSimpArgs false
namespace Go.Px
open Go.RowKit
def ir_penumbralaw22_BallPairs : IR :=
 .prim .len [.var 0] <|
 .prim (.bin .gtr) [.var 17, .int .i64 (60)] <|
 .ite (.var 18) (
  .call F.penumbralaw22_fixed [] [.one] <|
  .ret [.one (.var 19)]) (
  .call F.ball_Pairs [.one (.var 0), .agg [.var 1, .var 2, .var 3], .one (.var 4), .agg [.var 14, .var 15, .var 16]] [.one, .one] <|
  .call F.penumbraref22_Pairs [.one (.var 0), .agg [.var 1, .var 2, .var 3], .one (.var 4), .agg [.var 14, .var 15, .var 16]] [.one, .one] <|
  .call F.penumbralaw22_fixed [] [.one] <|
  .ite (.var 23) (
   .call F.penumbraref22_Same [.one (.var 19), .one (.var 21)] [.one] <|
   .ite (.var 24) (
    .prim (.beq false) [.var 20, .var 22] <|
    .ret [.one (.var 25)]) (
    .ret [.one (.bol false)])) (
   .ret [.one (.bol false)]))

theorem tree_penumbralaw22_BallPairs : symFunc Go.Proofs.Tryz.prog ⟨fun f => [71, 50, 24].contains f, fun f i => [], fun f i => [], fun f => [23].contains f⟩ 400 F.penumbralaw22_BallPairs [.agg 17] = some ir_penumbralaw22_BallPairs := by kernel_rfl
end Go.Px
namespace Go.Px.Na
open Go.RowKit
open Go.Proofs.Tryz (prog)
theorem pure_BallPairs {rs : List RV} {ps : List V3} {rsd rr2 : RR} {rp : RV} {p : V3} {s r2 : Rat} {n : Int} (hp : NVs 1048576 rs ps) (g : Num 1048576 rsd s) (h : NV 1048576 rp p) (hr : Num 1048576 rr2 r2) (hN : ps.length ≤ 1048576) :
    PureCalls prog F.penumbralaw22_BallPairs [.agg [vl rs, .bool rsd.neg, nl rsd.num, nl rsd.den, .int .i64 n, .bool rp.x.neg, nl rp.x.num, nl rp.x.den, .bool rp.y.neg, nl rp.y.num, nl rp.y.den, .bool rp.z.neg, nl rp.z.num, nl rp.z.den, .bool rr2.neg, nl rr2.num, nl rr2.den]] [.one (.bool true)] := by
  have hlen := hp.len
  refine symFunc_sound hmix tree_penumbralaw22_BallPairs (by kernel_rfl) rfl ?_
  unfold ir_penumbralaw22_BallPairs
  try simp only [HH, gW, gD, V3.l, M4.l, Fr.l, Sp.l, RV.l, RM.l, RF.l, RS.l]
  refine primS (.int .i64 (rs.length : Int)) rfl ?_
  refine primS (.bool (decide _)) d_gtr ?_
  refine itD rfl (fun c1 => ?_) (fun c1 => ?_)
  · refine call_step f_fixed22 rfl ?_
    try simp only [HH, gW, gD, V3.l, M4.l, Fr.l, Sp.l, RV.l, RM.l, RF.l, RS.l]
    exact ret_step rfl
  have hN2 : ps.length ≤ 60 := by omega
  obtain ⟨l, b, hl, e⟩ : ∃ (l : List (Int × Int)) (b : Bool), l.length ≤ 60 * 60 ∧ bpairs ps s n r2 = [.one (pl l), .one (.bool b)] := by
    unfold bpairs
    split
    · exact ⟨_, true, Nat.le_trans (prs_len _) (Nat.mul_le_mul hN2 hN2), rfl⟩
    · exact ⟨[], false, by simp, rfl⟩
  have k1 := f_Pairs (n := n) hp hN g hr (by decide)
  have k2 := fr_Pairs (n := n) hp hN2 g hr (by decide)
  rw [e] at k1 k2
  have ki := f_Same l l (by omega)
  rw [decide_eq_true rfl] at ki
  refine call_step k1 rfl ?_
  try simp only [HH, gW, gD, V3.l, M4.l, Fr.l, Sp.l, RV.l, RM.l, RF.l, RS.l]
  refine call_step k2 rfl ?_
  try simp only [HH, gW, gD, V3.l, M4.l, Fr.l, Sp.l, RV.l, RM.l, RF.l, RS.l]
  refine call_step f_fixed22 rfl ?_
  try simp only [HH, gW, gD, V3.l, M4.l, Fr.l, Sp.l, RV.l, RM.l, RF.l, RS.l]
  refine itT rfl ?_
  refine call_step ki rfl ?_
  try simp only [HH, gW, gD, V3.l, M4.l, Fr.l, Sp.l, RV.l, RM.l, RF.l, RS.l]
  refine itT rfl ?_
  refine primS (.bool true) (d_beqf.trans (by cases b <;> rfl)) ?_
  exact ret_step rfl
end Go.Px.Na

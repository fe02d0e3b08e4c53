/- QBallNear: which points are near to any place is as the document says. -/
import Derived.Test.YtdkifeiejkikdaaGreatHr
set_option maxRecDepth 20000
set_option maxHeartbeats 40000000
set_option linter.unusedVariables false
set_option linter.unusedSimpArgs false
namespace Go.Px
open Go.RowKit
def ir_penumbralaw22_BallNear : IR :=
 .call F.ball_Near [.one (.var 0), .agg [.var 1, .var 2, .var 3], .one (.var 4), .agg [.var 5, .var 6, .var 7, .var 8, .var 9, .var 10, .var 11, .var 12, .var 13], .agg [.var 14, .var 15, .var 16]] [.one, .one] <|
 .call F.penumbraref22_Near [.one (.var 0), .agg [.var 1, .var 2, .var 3], .one (.var 4), .agg [.var 5, .var 6, .var 7, .var 8, .var 9, .var 10, .var 11, .var 12, .var 13], .agg [.var 14, .var 15, .var 16]] [.one, .one] <|
 .call F.penumbralaw22_fixed [] [.one] <|
 .ite (.var 21) (
  .call F.penumbraref15_Ints [.one (.var 17), .one (.var 19)] [.one] <|
  .ite (.var 22) (
   .prim (.beq false) [.var 18, .var 20] <|
   .ite (.var 23) (
    .call F.ball_Far [.agg [.var 5, .var 6, .var 7, .var 8, .var 9, .var 10, .var 11, .var 12, .var 13], .agg [.var 5, .var 6, .var 7, .var 8, .var 9, .var 10, .var 11, .var 12, .var 13]] [.agg 3] <|
    .call F.penumbraref03_Zero [] [.agg 3] <|
    .call F.penumbraref03_Is [.agg [.var 24, .var 25, .var 26], .agg [.var 27, .var 28, .var 29]] [.one] <|
    .ret [.one (.var 30)]) (
    .ret [.one (.bol false)])) (
   .ret [.one (.bol false)])) (
  .ret [.one (.bol false)])

theorem tree_penumbralaw22_BallNear : symFunc Go.Proofs.Tryz.prog ⟨fun f => [71, 50, 24].contains f, fun f i => [], fun f i => [], fun f => [23].contains f⟩ 400 F.penumbralaw22_BallNear [.agg 17] = some ir_penumbralaw22_BallNear := by kernel_rfl
end Go.Px
namespace Go.Px.Na
open Go.RowKit
open Go.Proofs.Tryz (prog)
theorem far_self (a : V3) : far a a = 0 := by simp only [far, V3.dot, V3.sub]; grind
theorem pure_BallNear {rs : List RV} {ps : List V3} {rsd rr2 : RR} {rp : RV} {p : V3} {s r2 : Rat} {n : Int} (hp : NVs 1048576 rs ps) (g : Num 1048576 rsd s) (h : NV 1048576 rp p) (hr : Num 1048576 rr2 r2) (hN : ps.length ≤ 1048576) :
    PureCalls prog F.penumbralaw22_BallNear [.agg [vl rs, .bool rsd.neg, nl rsd.num, nl rsd.den, .int .i64 n, .bool rp.x.neg, nl rp.x.num, nl rp.x.den, .bool rp.y.neg, nl rp.y.num, nl rp.y.den, .bool rp.z.neg, nl rp.z.num, nl rp.z.den, .bool rr2.neg, nl rr2.num, nl rr2.den]] [.one (.bool true)] := by
  obtain ⟨l, b, hl, e⟩ : ∃ (l : List Int) (b : Bool), l.length ≤ 1048576 ∧ bnear ps s n p r2 = [.one (il l), .one (.bool b)] := by
    unfold bnear
    split
    · exact ⟨_, true, Nat.le_trans nearL_len hN, rfl⟩
    · exact ⟨[], false, by simp, rfl⟩
  have k1 := f_Near (n := n) hp hN g h hr (by decide)
  have k2 := fr_Near (n := n) hp hN g h hr (by decide)
  rw [e] at k1 k2
  have ki := f_Ints l l (by omega)
  rw [decide_eq_true rfl] at ki
  have kf := f_ball_Far h h (by decide)
  rw [far_self] at kf
  have m0 : Num 1 (cr 0) 0 := .of Sm0
  have ke := f_Is_t (x := 0) (y := 0) rfl m0 m0 (by decide)
  refine symFunc_sound hmix tree_penumbralaw22_BallNear (by kernel_rfl) rfl ?_
  unfold ir_penumbralaw22_BallNear
  try simp only [HH, gW, gD, V3.l, M4.l, Fr.l, Sp.l, RV.l, RM.l, RF.l, RS.l]
  refine call_step k1 rfl ?_
  try simp only [HH, gW, gD, V3.l, M4.l, Fr.l, Sp.l, RV.l, RM.l, RF.l, RS.l]
  refine call_step k2 rfl ?_
  try simp only [HH, gW, gD, V3.l, M4.l, Fr.l, Sp.l, RV.l, RM.l, RF.l, RS.l]
  refine call_step f_fixed22 rfl ?_
  try simp only [HH, gW, gD, V3.l, M4.l, Fr.l, Sp.l, RV.l, RM.l, RF.l, RS.l]
  refine itT rfl ?_
  refine call_step ki rfl ?_
  try simp only [HH, gW, gD, V3.l, M4.l, Fr.l, Sp.l, RV.l, RM.l, RF.l, RS.l]
  refine itT rfl ?_
  refine primS (.bool true) (d_beqf.trans (by cases b <;> rfl)) ?_
  refine itT rfl ?_
  refine call_step kf rfl ?_
  try simp only [HH, gW, gD, V3.l, M4.l, Fr.l, Sp.l, RV.l, RM.l, RF.l, RS.l]
  refine cs1 f_R3_Zero ?_
  try simp only [HH, gW, gD, V3.l, M4.l, Fr.l, Sp.l, RV.l, RM.l, RF.l, RS.l]
  refine call_step ke rfl ?_
  try simp only [HH, gW, gD, V3.l, M4.l, Fr.l, Sp.l, RV.l, RM.l, RF.l, RS.l]
  exact ret_step rfl
end Go.Px.Na

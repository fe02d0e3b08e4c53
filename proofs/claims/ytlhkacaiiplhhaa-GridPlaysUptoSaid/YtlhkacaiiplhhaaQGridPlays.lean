/- QGridPlays: what comes of any play, and in how many steps, is as the document says. -/
import Derived.Test.YtlhkacaiiplhhaaGf
import Derived.Test.YtlhkacaiiplhhaaGr
set_option maxRecDepth 20000
set_option maxHeartbeats 40000000
set_option linter.unusedVariables false
set_option linter.unusedSimpArgs false
namespace Go.Px
open Go.RowKit
def ir_penumbralaw21_GridPlays : IR :=
 .call F.grid_Play [.one (.var 0), .agg [.var 1, .var 2, .var 3], .one (.var 4), .one (.var 5), .one (.var 6)] [.agg 2, .one, .one] <|
 .call F.penumbraref21_Play [.one (.var 0), .agg [.var 1, .var 2, .var 3], .one (.var 4), .one (.var 5), .one (.var 6)] [.agg 2, .one, .one] <|
 .call F.penumbralaw21_fixed [] [.one] <|
 .ite (.var 15) (
  .call F.penumbraref21_Is [.agg [.var 7, .var 8], .agg [.var 11, .var 12]] [.one] <|
  .ite (.var 16) (
   .prim (.bin .eql) [.var 9, .var 13] <|
   .ite (.var 17) (
    .prim (.beq false) [.var 10, .var 14] <|
    .ret [.one (.var 18)]) (
    .ret [.one (.bol false)])) (
   .ret [.one (.bol false)])) (
  .ret [.one (.bol false)])

theorem tree_penumbralaw21_GridPlays : symFunc Go.Proofs.Try.prog ⟨fun f => [58].contains f, fun f i => [], fun f i => [], fun f => [60, 61, 64, 65].contains f⟩ 400 F.penumbralaw21_GridPlays [.agg 7] = some ir_penumbralaw21_GridPlays := by kernel_rfl
end Go.Px
namespace Go.Px.Na
open Go.RowKit
open Go.Proofs.Try (prog)
theorem pure_GridPlays {rs : List RV} {ps : List V3} {rsd : RR} {s : Rat} {n W : Int} {picks : List Int} (hp : NVs 1048576 rs ps) (g : Num 1048576 rsd s) (hN : ps.length ≤ 1048576) (hpk : picks.length ≤ 1048576) :
    PureCalls prog F.penumbralaw21_GridPlays [.agg [vl rs, .bool rsd.neg, nl rsd.num, nl rsd.den, .int .i64 n, .int .i64 W, il picks]] [.one (.bool true)] := by
  have hl : (1048576 : Nat) ≤ 10000000000 ∧ (1048576 : Nat) ≤ 10000000000 := ⟨by decide, by decide⟩
  refine symFunc_sound hmix tree_penumbralaw21_GridPlays (by kernel_rfl) rfl ?_
  unfold ir_penumbralaw21_GridPlays
  try simp only [HH, gW, gD, V3.l, M4.l, Fr.l, Sp.l, RV.l, RM.l, RF.l, RS.l]
  have both : ∃ (hd nx : List Int) (K : Int) (ok : Bool), hd.length ≤ 1099511627776 ∧ nx.length ≤ 1099511627776 ∧ PureCalls prog F.grid_Play [.one (vl rs), .agg (gW [rsd]), .one (.int .i64 n), .one (.int .i64 W), .one (il picks)] [gd2 hd nx, .one (.int .i64 K), .one (.bool ok)] ∧
      PureCalls prog F.penumbraref21_Play [.one (vl rs), .agg (gW [rsd]), .one (.int .i64 n), .one (.int .i64 W), .one (il picks)] [gd2 hd nx, .one (.int .i64 K), .one (.bool ok)] := by
    by_cases h : pmay ps s n W
    · obtain ⟨c, h2, h3, h4⟩ := id h
      obtain ⟨n, rfl⟩ : ∃ m : Nat, n = (m : Int) := ⟨n.toNat, by have := c.2.1; omega⟩
      obtain ⟨W, rfl⟩ : ∃ m : Nat, W = (m : Int) := ⟨W.toNat, by omega⟩
      obtain ⟨K, hP⟩ := play_ex picks h
      have hpf := hP.hpf K (Nat.le_refl _)
      exact ⟨_, _, _, _, by rw [hpf.hl]; have := c.2; omega, by rw [hpf.nl]; omega, f_Play_t h hp g hl hpk hP.hK hP.hj hP.hpf hP.hb, fr_Play_t h hp g hl hpk hP.hK hP.hj hP.hpf hP.hb⟩
    · exact ⟨[], [], 0, false, by decide, by decide, f_Play_n h hp g hl, fr_Play_n h hp g hl⟩
  obtain ⟨hd, nx, K, ok, b1, b2, k1, k2⟩ := both
  have ki := f_ref21_Is hd nx hd nx b1 b2
  rw [decide_eq_true ⟨rfl, rfl⟩] at ki
  refine call_step k1 rfl ?_
  simp only [gd2]
  try simp only [HH, gW, gD, V3.l, M4.l, Fr.l, Sp.l, RV.l, RM.l, RF.l, RS.l]
  refine call_step k2 rfl ?_
  simp only [gd2]
  try simp only [HH, gW, gD, V3.l, M4.l, Fr.l, Sp.l, RV.l, RM.l, RF.l, RS.l]
  refine call_step f_fixed21 rfl ?_
  try simp only [HH, gW, gD, V3.l, M4.l, Fr.l, Sp.l, RV.l, RM.l, RF.l, RS.l]
  refine itT rfl ?_
  refine call_step ki rfl ?_
  try simp only [HH, gW, gD, V3.l, M4.l, Fr.l, Sp.l, RV.l, RM.l, RF.l, RS.l]
  refine itT rfl ?_
  refine primS (.bool true) (d_eql.trans (by rw [decide_eq_true rfl])) ?_
  refine itT rfl ?_
  refine primS (.bool true) (d_beqf.trans (by cases ok <;> rfl)) ?_
  exact ret_step rfl
end Go.Px.Na

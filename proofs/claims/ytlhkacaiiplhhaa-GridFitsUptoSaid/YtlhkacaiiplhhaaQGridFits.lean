/- QGridFits: whatever the picks are, a play ends, within so many steps, and leaves a grid that fits. -/
import Derived.Test.YtlhkacaiiplhhaaGf
set_option maxRecDepth 20000
set_option maxHeartbeats 40000000
set_option linter.unusedVariables false
set_option linter.unusedSimpArgs false
namespace Go.Px
open Go.RowKit
def ir_penumbralaw21_GridFits : IR :=
 .call F.grid_Play [.one (.var 0), .agg [.var 1, .var 2, .var 3], .one (.var 4), .one (.var 5), .one (.var 6)] [.agg 2, .one, .one] <|
 .call F.penumbralaw21_fixed [] [.one] <|
 .prim .not [.var 11] <|
 .ite (.var 12) (
  .call F.penumbralaw21_fixed [] [.one] <|
  .ret [.one (.var 13)]) (
  .prim .not [.var 10] <|
  .ite (.var 13) (
   .call F.penumbralaw21_fixed [] [.one] <|
   .ret [.one (.var 14)]) (
   .call F.penumbraref21_Check [.agg [.var 7, .var 8], .one (.var 0), .agg [.var 1, .var 2, .var 3], .one (.var 4)] [.one] <|
   .ite (.var 14) (
    .prim .len [.var 0] <|
    .prim (.bin .mul) [.int .i64 (4), .var 15] <|
    .prim (.bin .geq) [.var 9, .var 16] <|
    .ite (.var 17) (
     .prim .len [.var 0] <|
     .prim (.bin .mul) [.int .i64 (3), .var 5] <|
     .prim (.bin .add) [.var 19, .int .i64 (1)] <|
     .prim (.bin .mul) [.var 18, .var 20] <|
     .prim (.bin .leq) [.var 9, .var 21] <|
     .ret [.one (.var 22)]) (
     .ret [.one (.bol false)])) (
    .ret [.one (.bol false)])))

theorem tree_penumbralaw21_GridFits : symFunc Go.Proofs.Try.prog ⟨fun f => [58].contains f, fun f i => [], fun f i => [], fun f => [60, 61, 64, 65].contains f⟩ 400 F.penumbralaw21_GridFits [.agg 7] = some ir_penumbralaw21_GridFits := by kernel_rfl
end Go.Px
namespace Go.Px.Na
open Go.RowKit
open Go.Proofs.Try (prog)
theorem pure_GridFits {rs : List RV} {ps : List V3} {rsd : RR} {s : Rat} {n W : Int} {picks : List Int} (hp : NVs 1048576 rs ps) (g : Num 1048576 rsd s) (hN : ps.length ≤ 1048576) (hpk : picks.length ≤ 1048576) :
    PureCalls prog F.penumbralaw21_GridFits [.agg [vl rs, .bool rsd.neg, nl rsd.num, nl rsd.den, .int .i64 n, .int .i64 W, il picks]] [.one (.bool true)] := by
  have hl : (1048576 : Nat) ≤ 10000000000 ∧ (1048576 : Nat) ≤ 10000000000 := ⟨by decide, by decide⟩
  refine symFunc_sound hmix tree_penumbralaw21_GridFits (by kernel_rfl) rfl ?_
  unfold ir_penumbralaw21_GridFits
  try simp only [HH, gW, gD, V3.l, M4.l, Fr.l, Sp.l, RV.l, RM.l, RF.l, RS.l]
  by_cases h : pmay ps s n W
  · obtain ⟨c, h2, h3, h4⟩ := id h
    obtain ⟨n, rfl⟩ : ∃ m : Nat, n = (m : Int) := ⟨n.toNat, by have := c.2.1; omega⟩
    obtain ⟨W, rfl⟩ : ∃ m : Nat, W = (m : Int) := ⟨W.toNat, by omega⟩
    obtain ⟨K, hP⟩ := play_ex picks h
    have hf := play_fits c hP
    have kc := f_ref21_Check (n := (n : Int)) (heads := (itw (slots ps s n) picks ps.length (w0 n ps.length W) K).heads) (next := (itw (slots ps s n) picks ps.length (w0 n ps.length W) K).next) hp g hN hl
    rw [@decide_eq_true _ (Classical.propDecidable _) hf] at kc
    have hlo := hP.lo
    have hhi := hP.hi
    have h8 : ps.length * (3 * W + 1) ≤ 1000 * 193 := Nat.mul_le_mul h2 (by omega)
    have hlen := hp.len
    refine call_step (f_Play_t h hp g hl hpk hP.hK hP.hj hP.hpf hP.hb) rfl ?_
    simp only [gd2]
    try simp only [HH, gW, gD, V3.l, M4.l, Fr.l, Sp.l, RV.l, RM.l, RF.l, RS.l]
    refine call_step f_fixed21 rfl ?_
    try simp only [HH, gW, gD, V3.l, M4.l, Fr.l, Sp.l, RV.l, RM.l, RF.l, RS.l]
    refine primS (.bool false) rfl ?_
    refine itF rfl ?_
    refine primS (.bool false) rfl ?_
    refine itF rfl ?_
    refine call_step kc rfl ?_
    try simp only [HH, gW, gD, V3.l, M4.l, Fr.l, Sp.l, RV.l, RM.l, RF.l, RS.l]
    refine itT rfl ?_
    refine primS (.int .i64 (rs.length : Int)) rfl ?_
    refine primS (.int .i64 (4 * (rs.length : Int))) (d_mul64 (by omega) (by omega)) ?_
    refine primS (.bool true) (d_geq.trans (by rw [decide_eq_true (by omega)])) ?_
    refine itT rfl ?_
    refine primS (.int .i64 (rs.length : Int)) rfl ?_
    refine primS (.int .i64 (3 * (W : Int))) (d_mul64 (by omega) (by omega)) ?_
    refine primS (.int .i64 (3 * (W : Int) + 1)) (d_add64 (by omega) (by omega)) ?_
    have e : (rs.length : Int) * (3 * (W : Int) + 1) = ((ps.length * (3 * W + 1) : Nat) : Int) := by rw [hlen]; simp
    refine primS (.int .i64 ((ps.length * (3 * W + 1) : Nat) : Int)) ((d_mul64 (by rw [e]; omega) (by rw [e]; omega)).trans (by rw [e])) ?_
    refine primS (.bool true) (d_leq.trans (by rw [decide_eq_true (by omega)])) ?_
    exact ret_step rfl
  · refine call_step (f_Play_n h hp g hl) rfl ?_
    simp only [gd2]
    try simp only [HH, gW, gD, V3.l, M4.l, Fr.l, Sp.l, RV.l, RM.l, RF.l, RS.l]
    refine call_step f_fixed21 rfl ?_
    try simp only [HH, gW, gD, V3.l, M4.l, Fr.l, Sp.l, RV.l, RM.l, RF.l, RS.l]
    refine primS (.bool false) rfl ?_
    refine itF rfl ?_
    refine primS (.bool true) rfl ?_
    refine itT rfl ?_
    refine call_step f_fixed21 rfl ?_
    try simp only [HH, gW, gD, V3.l, M4.l, Fr.l, Sp.l, RV.l, RM.l, RF.l, RS.l]
    exact ret_step rfl
end Go.Px.Na

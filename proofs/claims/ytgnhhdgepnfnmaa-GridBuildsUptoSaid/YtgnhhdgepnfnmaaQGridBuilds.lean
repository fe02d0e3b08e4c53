/- QGridBuilds: the grid of any points is as the document says, and fits them. -/
import Derived.Test.YtgnhhdgepnfnmaaGf
import Derived.Test.YtgnhhdgepnfnmaaGb2
set_option maxRecDepth 20000
set_option maxHeartbeats 40000000
set_option linter.unusedVariables false
set_option linter.unusedSimpArgs false
namespace Go.Px
open Go.RowKit
def ir_penumbralaw21_GridBuilds : IR :=
 .call F.grid_Build [.one (.var 0), .agg [.var 1, .var 2, .var 3], .one (.var 4)] [.agg 2, .one] <|
 .call F.penumbraref21_Build [.one (.var 0), .agg [.var 1, .var 2, .var 3], .one (.var 4)] [.agg 2, .one] <|
 .call F.penumbralaw21_fixed [] [.one] <|
 .ite (.var 11) (
  .call F.penumbraref21_Is [.agg [.var 5, .var 6], .agg [.var 8, .var 9]] [.one] <|
  .ite (.var 12) (
   .prim (.beq false) [.var 7, .var 10] <|
   .ite (.var 13) (
    .prim .not [.var 7] <|
    .ite (.var 14) (
     .ret [.one (.bol true)]) (
     .call F.penumbraref21_Check [.agg [.var 5, .var 6], .one (.var 0), .agg [.var 1, .var 2, .var 3], .one (.var 4)] [.one] <|
     .ret [.one (.var 15)])) (
    .ret [.one (.bol false)])) (
   .ret [.one (.bol false)])) (
  .ret [.one (.bol false)])

theorem tree_penumbralaw21_GridBuilds : symFunc Go.Proofs.Try.prog ⟨fun f => [115].contains f, fun f i => [], fun f i => [], fun f => [144, 145].contains f⟩ 400 F.penumbralaw21_GridBuilds [.one, .agg 3, .one] = some ir_penumbralaw21_GridBuilds := by kernel_rfl
end Go.Px
namespace Go.Px.Na
open Go.RowKit
open Go.Proofs.Try (prog)
theorem pure_GridBuilds {rs : List RV} {ps : List V3} {rsd : RR} {s : Rat} {n : Int} (hp : NVs 1048576 rs ps) (g : Num 1048576 rsd s) (hN : ps.length ≤ 1048576) :
    PureCalls prog F.penumbralaw21_GridBuilds [.one (vl rs), .agg (gW [rsd]), .one (.int .i64 n)] [.one (.bool true)] := by
  have hl : (1048576 : Nat) ≤ 10000000000 ∧ (1048576 : Nat) ≤ 10000000000 := ⟨by decide, by decide⟩
  have k1 := f_grid_Build (n := n) hp g hN hl
  have k2 := f_ref21_Build (n := n) hp g hN hl
  refine symFunc_sound hmix tree_penumbralaw21_GridBuilds (by kernel_rfl) rfl ?_
  unfold ir_penumbralaw21_GridBuilds
  try simp only [HH, gW, gD, V3.l, M4.l, Fr.l, Sp.l, RV.l, RM.l, RF.l, RS.l]
  by_cases h1 : gmay s n ∧ ps.length ≤ 1000
  · obtain ⟨c, h2⟩ := id h1
    obtain ⟨n, rfl⟩ : ∃ m : Nat, n = (m : Int) := ⟨n.toNat, by have := c.2.1; omega⟩
    rw [bres, if_pos h1, Int.toNat_natCast] at k1 k2
    have hbf := built_fits (ps := ps) c h2
    have kcb := f_ref21_Check (n := (n : Int)) (heads := bh n (slots ps s n) ps.length) (next := bn n (slots ps s n) ps.length) hp g hN hl
    rw [@decide_eq_true _ (Classical.propDecidable _) hbf] at kcb
    have ki := f_ref21_Is (bh n (slots ps s n) ps.length) (bn n (slots ps s n) ps.length) (bh n (slots ps s n) ps.length) (bn n (slots ps s n) ps.length) (by rw [bh_len]; have := c.2; omega) (by rw [bn_len]; omega)
    rw [decide_eq_true ⟨rfl, rfl⟩] at ki
    refine call_step k1 rfl ?_
    simp only [gd2]
    try simp only [HH, gW, gD, V3.l, M4.l, Fr.l, Sp.l, RV.l, RM.l, RF.l, RS.l]
    refine call_step k2 rfl ?_
    simp only [gd2]
    try simp only [HH, gW, gD, V3.l, M4.l, Fr.l, Sp.l, RV.l, RM.l, RF.l, RS.l]
    refine call_step f_fixed21 rfl ?_
    try simp only [HH, gW, gD, V3.l, M4.l, Fr.l, Sp.l, RV.l, RM.l, RF.l, RS.l]
    refine itT rfl ?_
    refine call_step ki rfl ?_
    try simp only [HH, gW, gD, V3.l, M4.l, Fr.l, Sp.l, RV.l, RM.l, RF.l, RS.l]
    refine itT rfl ?_
    refine primS (.bool true) rfl ?_
    refine itT rfl ?_
    refine primS (.bool false) rfl ?_
    refine itF rfl ?_
    refine call_step kcb rfl ?_
    try simp only [HH, gW, gD, V3.l, M4.l, Fr.l, Sp.l, RV.l, RM.l, RF.l, RS.l]
    exact ret_step rfl
  · rw [bres, if_neg h1] at k1 k2
    have ki := f_ref21_Is [] [] [] [] (by decide) (by decide)
    rw [decide_eq_true ⟨rfl, rfl⟩] at ki
    refine call_step k1 rfl ?_
    simp only [gd2]
    try simp only [HH, gW, gD, V3.l, M4.l, Fr.l, Sp.l, RV.l, RM.l, RF.l, RS.l]
    refine call_step k2 rfl ?_
    simp only [gd2]
    try simp only [HH, gW, gD, V3.l, M4.l, Fr.l, Sp.l, RV.l, RM.l, RF.l, RS.l]
    refine call_step f_fixed21 rfl ?_
    try simp only [HH, gW, gD, V3.l, M4.l, Fr.l, Sp.l, RV.l, RM.l, RF.l, RS.l]
    refine itT rfl ?_
    refine call_step ki rfl ?_
    try simp only [HH, gW, gD, V3.l, M4.l, Fr.l, Sp.l, RV.l, RM.l, RF.l, RS.l]
    refine itT rfl ?_
    refine primS (.bool true) rfl ?_
    refine itT rfl ?_
    refine primS (.bool true) rfl ?_
    refine itT rfl ?_
    exact ret_step rfl
end Go.Px.Na

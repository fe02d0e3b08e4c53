/- QGridAlone: with one worker a play lays the grid that is built; with more, one that fits. -/
import Derived.Test.YtlhkacaiiplhhaaGf
set_option maxRecDepth 20000
set_option maxHeartbeats 40000000
set_option linter.unusedVariables false
set_option linter.unusedSimpArgs false
namespace Go.Px
open Go.RowKit
def ir_penumbralaw21_GridAlone : IR :=
 .call F.grid_Build [.one (.var 0), .agg [.var 1, .var 2, .var 3], .one (.var 4)] [.agg 2, .one] <|
 .call F.grid_Play [.one (.var 0), .agg [.var 1, .var 2, .var 3], .one (.var 4), .one (.int .i64 (1)), .one (.var 6)] [.agg 2, .one, .one] <|
 .call F.penumbralaw21_fixed [] [.one] <|
 .prim .not [.var 14] <|
 .ite (.var 15) (
  .ret [.one (.bol false)]) (
  .prim (.beq true) [.var 9, .var 13] <|
  .ite (.var 16) (
   .ret [.one (.bol false)]) (
   .call F.penumbraref21_Is [.agg [.var 7, .var 8], .agg [.var 10, .var 11]] [.one] <|
   .prim .not [.var 17] <|
   .ite (.var 18) (
    .ret [.one (.bol false)]) (
    .call F.grid_Play [.one (.var 0), .agg [.var 1, .var 2, .var 3], .one (.var 4), .one (.var 5), .one (.var 6)] [.agg 2, .one, .one] <|
    .prim .not [.var 22] <|
    .ite (.var 23) (
     .prim .not [.var 9] <|
     .ite (.var 24) (
      .ret [.one (.bol true)]) (
      .prim (.bin .lss) [.var 5, .int .i64 (1)] <|
      .ite (.var 25) (
       .ret [.one (.bol true)]) (
       .prim (.bin .gtr) [.var 5, .int .i64 (64)] <|
       .ret [.one (.var 26)]))) (
     .call F.grid_Check [.agg [.var 19, .var 20], .one (.var 0), .agg [.var 1, .var 2, .var 3], .one (.var 4)] [.one] <|
     .ite (.var 24) (
      .call F.grid_Check [.agg [.var 7, .var 8], .one (.var 0), .agg [.var 1, .var 2, .var 3], .one (.var 4)] [.one] <|
      .ret [.one (.var 25)]) (
      .ret [.one (.bol false)])))))

theorem tree_penumbralaw21_GridAlone : symFunc Go.Proofs.Try.prog ⟨fun f => [58].contains f, fun f i => [], fun f i => [], fun f => [60, 61, 64, 65].contains f⟩ 400 F.penumbralaw21_GridAlone [.agg 7] = some ir_penumbralaw21_GridAlone := by kernel_rfl
end Go.Px
namespace Go.Px.Na
open Go.RowKit
open Go.Proofs.Try (prog)
theorem pure_GridAlone {rs : List RV} {ps : List V3} {rsd : RR} {s : Rat} {n W : Int} {picks : List Int} (hp : NVs 1048576 rs ps) (g : Num 1048576 rsd s) (hN : ps.length ≤ 1048576) (hpk : picks.length ≤ 1048576) :
    PureCalls prog F.penumbralaw21_GridAlone [.agg [vl rs, .bool rsd.neg, nl rsd.num, nl rsd.den, .int .i64 n, .int .i64 W, il picks]] [.one (.bool true)] := by
  have hl : (1048576 : Nat) ≤ 10000000000 ∧ (1048576 : Nat) ≤ 10000000000 := ⟨by decide, by decide⟩
  have kb := f_grid_Build (n := n) hp g hN hl
  refine symFunc_sound hmix tree_penumbralaw21_GridAlone (by kernel_rfl) rfl ?_
  unfold ir_penumbralaw21_GridAlone
  try simp only [HH, gW, gD, V3.l, M4.l, Fr.l, Sp.l, RV.l, RM.l, RF.l, RS.l]
  by_cases h1 : gmay s n ∧ ps.length ≤ 1000
  · obtain ⟨c, h2⟩ := id h1
    obtain ⟨n, rfl⟩ : ∃ m : Nat, n = (m : Int) := ⟨n.toNat, by have := c.2.1; omega⟩
    rw [bres, if_pos h1, Int.toNat_natCast] at kb
    have hp1 : pmay ps s n (1 : Nat) := ⟨c, h2, by decide, by decide⟩
    obtain ⟨K1, hP1⟩ := play_ex picks hp1
    obtain ⟨e1, e2⟩ := hP1.one rfl
    have k1 := f_Play_t hp1 hp g hl hpk hP1.hK hP1.hj hP1.hpf hP1.hb
    rw [e1, e2] at k1
    have hbf := built_fits (ps := ps) c h2
    have kcb := f_grid_Check (n := (n : Int)) (heads := bh n (slots ps s n) ps.length) (next := bn n (slots ps s n) ps.length) hp g hN hl
    rw [@decide_eq_true _ (Classical.propDecidable _) hbf] at kcb
    have ki := f_ref21_Is (bh n (slots ps s n) ps.length) (bn n (slots ps s n) ps.length) (bh n (slots ps s n) ps.length) (bn n (slots ps s n) ps.length) (by rw [bh_len]; have := c.2; omega) (by rw [bn_len]; omega)
    rw [decide_eq_true ⟨rfl, rfl⟩] at ki
    refine call_step kb rfl ?_
    simp only [gd2]
    try simp only [HH, gW, gD, V3.l, M4.l, Fr.l, Sp.l, RV.l, RM.l, RF.l, RS.l]
    refine call_step k1 rfl ?_
    simp only [gd2]
    try simp only [HH, gW, gD, V3.l, M4.l, Fr.l, Sp.l, RV.l, RM.l, RF.l, RS.l]
    refine call_step f_fixed21 rfl ?_
    try simp only [HH, gW, gD, V3.l, M4.l, Fr.l, Sp.l, RV.l, RM.l, RF.l, RS.l]
    refine primS (.bool false) rfl ?_
    refine itF rfl ?_
    refine primS (.bool false) rfl ?_
    refine itF rfl ?_
    refine call_step ki rfl ?_
    try simp only [HH, gW, gD, V3.l, M4.l, Fr.l, Sp.l, RV.l, RM.l, RF.l, RS.l]
    refine primS (.bool false) rfl ?_
    refine itF rfl ?_
    by_cases h : pmay ps s n W
    · obtain ⟨_, _, h3, h4⟩ := id h
      obtain ⟨W, rfl⟩ : ∃ m : Nat, W = (m : Int) := ⟨W.toNat, by omega⟩
      obtain ⟨K, hP⟩ := play_ex picks h
      have hf := play_fits c hP
      have kc := f_grid_Check (n := (n : Int)) (heads := (itw (slots ps s n) picks ps.length (w0 n ps.length W) K).heads) (next := (itw (slots ps s n) picks ps.length (w0 n ps.length W) K).next) hp g hN hl
      rw [@decide_eq_true _ (Classical.propDecidable _) hf] at kc
      refine call_step (f_Play_t h hp g hl hpk hP.hK hP.hj hP.hpf hP.hb) rfl ?_
      simp only [gd2]
      try simp only [HH, gW, gD, V3.l, M4.l, Fr.l, Sp.l, RV.l, RM.l, RF.l, RS.l]
      refine primS (.bool false) rfl ?_
      refine itF rfl ?_
      refine call_step kc rfl ?_
      try simp only [HH, gW, gD, V3.l, M4.l, Fr.l, Sp.l, RV.l, RM.l, RF.l, RS.l]
      refine itT rfl ?_
      refine call_step kcb rfl ?_
      try simp only [HH, gW, gD, V3.l, M4.l, Fr.l, Sp.l, RV.l, RM.l, RF.l, RS.l]
      exact ret_step rfl
    · refine call_step (f_Play_n h hp g hl) rfl ?_
      simp only [gd2]
      try simp only [HH, gW, gD, V3.l, M4.l, Fr.l, Sp.l, RV.l, RM.l, RF.l, RS.l]
      refine primS (.bool true) rfl ?_
      refine itT rfl ?_
      refine primS (.bool false) rfl ?_
      refine itF rfl ?_
      refine primS (.bool (decide _)) d_lss ?_
      refine itD rfl (fun d => ?_) (fun d => ?_)
      · exact ret_step rfl
      · refine primS (.bool true) (d_gtr.trans (by rw [decide_eq_true (Classical.byContradiction fun z => h ⟨c, h2, by omega, by omega⟩)])) ?_
        exact ret_step rfl
  · rw [bres, if_neg h1] at kb
    have hn : ∀ W, ¬pmay ps s n W := fun W z => h1 ⟨z.1, z.2.1⟩
    have ki := f_ref21_Is [] [] [] [] (by decide) (by decide)
    rw [decide_eq_true ⟨rfl, rfl⟩] at ki
    refine call_step kb rfl ?_
    simp only [gd2]
    try simp only [HH, gW, gD, V3.l, M4.l, Fr.l, Sp.l, RV.l, RM.l, RF.l, RS.l]
    refine call_step (f_Play_n (hn 1) hp g hl) rfl ?_
    simp only [gd2]
    try simp only [HH, gW, gD, V3.l, M4.l, Fr.l, Sp.l, RV.l, RM.l, RF.l, RS.l]
    refine call_step f_fixed21 rfl ?_
    try simp only [HH, gW, gD, V3.l, M4.l, Fr.l, Sp.l, RV.l, RM.l, RF.l, RS.l]
    refine primS (.bool false) rfl ?_
    refine itF rfl ?_
    refine primS (.bool false) rfl ?_
    refine itF rfl ?_
    refine call_step ki rfl ?_
    try simp only [HH, gW, gD, V3.l, M4.l, Fr.l, Sp.l, RV.l, RM.l, RF.l, RS.l]
    refine primS (.bool false) rfl ?_
    refine itF rfl ?_
    refine call_step (f_Play_n (hn W) hp g hl) rfl ?_
    simp only [gd2]
    try simp only [HH, gW, gD, V3.l, M4.l, Fr.l, Sp.l, RV.l, RM.l, RF.l, RS.l]
    refine primS (.bool true) rfl ?_
    refine itT rfl ?_
    refine primS (.bool true) rfl ?_
    refine itT rfl ?_
    exact ret_step rfl
end Go.Px.Na

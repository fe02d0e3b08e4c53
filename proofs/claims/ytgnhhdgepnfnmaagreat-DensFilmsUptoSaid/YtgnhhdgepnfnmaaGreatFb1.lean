/- Fb1: how strongly a spot is met. -/
import Derived.Test.YtgnhhdgepnfnmaaGreatFb
set_option maxRecDepth 20000
set_option maxHeartbeats 40000000
set_option linter.unusedVariables false
set_option linter.unusedSimpArgs false
namespace Go.Px
open Go.RowKit
def ir_dens_Transfer : IR :=
 .call F.dens_seen [.agg [.var 0, .var 1, .var 2, .var 3, .var 4, .var 5, .var 6, .var 7, .var 8, .var 9, .var 10, .var 11, .var 12, .var 13, .var 14, .var 15, .var 16, .var 17], .agg [.var 18, .var 19, .var 20, .var 21, .var 22, .var 23, .var 24, .var 25, .var 26, .var 27, .var 28, .var 29, .var 30, .var 31, .var 32, .var 33, .var 34, .var 35], .agg [.var 36, .var 37, .var 38, .var 39, .var 40, .var 41, .var 42, .var 43, .var 44, .var 45, .var 46, .var 47, .var 48, .var 49, .var 50, .var 51, .var 52, .var 53, .var 54, .var 55, .var 56, .var 57, .var 58, .var 59, .var 60, .var 61, .var 62, .var 63, .var 64, .var 65, .var 66, .var 67, .var 68, .var 69, .var 70, .var 71]] [.agg 42, .one] <|
 .prim .not [.var 114] <|
 .ite (.var 115) (
  .call F.rat_Of [.one (.int .i64 (0)), .one (.int .i64 (1))] [.agg 3] <|
  .ret [.agg [.var 116, .var 117, .var 118]]) (
  .call F.vec_Dot [.agg [.var 99, .var 100, .var 101, .var 102, .var 103, .var 104, .var 105, .var 106, .var 107], .agg [.var 99, .var 100, .var 101, .var 102, .var 103, .var 104, .var 105, .var 106, .var 107]] [.agg 3] <|
  .prim (.mk 2) [.var 108, .var 109, .var 110, .var 111, .var 112, .var 113] <|
  .call F.rat_Product [.one (.var 119)] [.agg 3] <|
  .prim (.mk 2) [.var 116, .var 117, .var 118, .var 116, .var 117, .var 118] <|
  .call F.rat_Product [.one (.var 123)] [.agg 3] <|
  .call F.dens_over [.agg [.var 120, .var 121, .var 122], .agg [.var 124, .var 125, .var 126]] [.agg 3] <|
  .ret [.agg [.var 127, .var 128, .var 129]])

theorem tree_dens_Transfer : symFunc Go.Proofs.Tryz.prog H0 400 F.dens_Transfer [.agg 18, .agg 18, .agg 36] = some ir_dens_Transfer := by kernel_rfl
end Go.Px
namespace Go.Px.Na
open Go.RowKit
open Go.Proofs.Tryz (prog)
section
variable {L M L2 : Nat} {a b : RS} {m : RM} {p q : Sp} {u : M4}
theorem f_dens_Transfer (h : NS L a p) (g : NS M b q) (k : NM L2 m u) (hl : L ≤ 100000000 ∧ M ≤ 100000000 ∧ L2 ≤ 100000000) : PureCalls prog F.dens_Transfer [.agg (gW a.l), .agg (gW b.l), .agg (gW m.l)] [.agg (gD [tra p q u])] := by
  replace h := h.mono hl.1
  replace g := g.mono hl.2.1
  replace k := k.mono hl.2.2
  by_cases c : units p q
  · refine symFunc_sound hmix tree_dens_Transfer (by kernel_rfl) rfl ?_
    unfold ir_dens_Transfer
    simp only [HH, gW, gD, V3.l, M4.l, Fr.l, Sp.l, RV.l, RM.l, RF.l, RS.l]
    refine call_step (f_dens_seen_t c h g k (by decide)) rfl ?_
    simp only [HH, gW, gD, V3.l, M4.l, Fr.l, Sp.l, RV.l, RM.l, RF.l, RS.l]
    have m1 := NF.of (SV.frm (h.sm).N)
    have m2 := NV.of (SS.way h.sm g.sm k.sm)
    have m3 := Num.of (SS.wz h.sm g.sm k.sm)
    have m4 := Num.of (Sm.abs (SS.wc h.sm g.sm k.sm))
    refine primS (.bool (!_)) rfl ?_
    refine itN rfl (fun i1 => ?_) (fun i1 => ?_)
    · refine cs1 (n_rat_Of (k0 := (0)) (0) (1) (by decide) (by decide) (by decide) (by decide) (by decide +kernel)) ?_
      simp only [HH, gW, gD, V3.l, M4.l, Fr.l, Sp.l, RV.l, RM.l, RF.l, RS.l]
      have m5 : Num 1 (cr (0)) (0) := Num.of Sm0
      first | (have z : ¬seen p q u := fun z => absurd z.2 ‹_›; exact ret_step (by rw [show tra p q u = 0 from if_neg z]; rfl)) | (have z : seen p q u := ⟨c, ‹_›⟩; exact ret_step (by rw [show tra p q u = _ from if_pos z]; rfl))
    · refine call_step (f_vec_Dot m2 m2 (by decide)) rfl ?_
      simp only [HH, gW, gD, V3.l, M4.l, Fr.l, Sp.l, RV.l, RM.l, RF.l, RS.l]
      have m5 := Num.of (SV.dot m2.sm m2.sm)
      refine primS (rlN2 m3 m4) rfl ?_
      refine cs1 (n_rat_Product_2 (m3.mono (by decide)) (m4.mono (by decide)) rfl) ?_
      simp only [HH, gW, gD, V3.l, M4.l, Fr.l, Sp.l, RV.l, RM.l, RF.l, RS.l]
      have m6 := Num.of (Sm.mul m3.sm m4.sm)
      refine primS (rlN2 m5 m5) rfl ?_
      refine cs1 (n_rat_Product_2 (m5.mono (by decide)) (m5.mono (by decide)) rfl) ?_
      simp only [HH, gW, gD, V3.l, M4.l, Fr.l, Sp.l, RV.l, RM.l, RF.l, RS.l]
      have m7 := Num.of (Sm.mul m5.sm m5.sm)
      refine call_step (f_dens_over m6 m7 (by decide)) rfl ?_
      simp only [HH, gW, gD, V3.l, M4.l, Fr.l, Sp.l, RV.l, RM.l, RF.l, RS.l]
      have m8 := Num.of (Sm.div m6.sm m7.sm)
      first | (have z : ¬seen p q u := fun z => absurd z.2 ‹_›; exact ret_step (by rw [show tra p q u = 0 from if_neg z]; rfl)) | (have z : seen p q u := ⟨c, ‹_›⟩; exact ret_step (by rw [show tra p q u = _ from if_pos z]; rfl))
  · have z : tra p q u = 0 := if_neg fun z => c z.1
    rw [z]
    refine symFunc_sound hmix tree_dens_Transfer (by kernel_rfl) rfl ?_
    unfold ir_dens_Transfer
    simp only [HH, gW, gD, V3.l, M4.l, Fr.l, Sp.l, RV.l, RM.l, RF.l, RS.l]
    refine call_step (f_dens_seen_n c h g k (by decide)) rfl ?_
    simp only [HH, gW, gD, V3.l, M4.l, Fr.l, Sp.l, RV.l, RM.l, RF.l, RS.l]
    refine primS (.bool true) rfl ?_
    refine itT rfl ?_
    refine cs1 (n_rat_Of (k0 := (0)) (0) (1) (by decide) (by decide) (by decide) (by decide) (by decide +kernel)) ?_
    simp only [HH, gW, gD, V3.l, M4.l, Fr.l, Sp.l, RV.l, RM.l, RF.l, RS.l]
    have m1 : Num 1 (cr (0)) (0) := Num.of Sm0
    exact ret_step rfl
end
end Go.Px.Na

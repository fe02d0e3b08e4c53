/- QDensFar: so many times as far apart, both are as many times as many times less; moved both, nothing is turned. -/
import Derived.Test.YtgnhhdgepnfnmaaFb
set_option maxRecDepth 20000
set_option maxHeartbeats 40000000
set_option linter.unusedVariables false
set_option linter.unusedSimpArgs false
namespace Go.Px
open Go.RowKit
def ir_penumbralaw16_fixed : IR :=
 .call F.vec_Of [.one (.int .i64 (0)), .one (.int .i64 (0)), .one (.int .i64 (0))] [.agg 9] <|
 .call F.vec_Of [.one (.int .i64 (0)), .one (.int .i64 (0)), .one (.int .i64 (1))] [.agg 9] <|
 .call F.vec_Of [.one (.int .i64 (0)), .one (.int .i64 (0)), .one (.int .i64 (2))] [.agg 9] <|
 .call F.vec_Of [.one (.int .i64 (0)), .one (.int .i64 (0)), .one (.int .i64 (-1))] [.agg 9] <|
 .call F.vec_Of [.one (.int .i64 (0)), .one (.int .i64 (0)), .one (.int .i64 (2))] [.agg 9] <|
 .call F.vec_Of [.one (.int .i64 (0)), .one (.int .i64 (0)), .one (.int .i64 (1))] [.agg 9] <|
 .call F.affine_Identity [] [.agg 36] <|
 .call F.dens_Ahead [.agg [.var 0, .var 1, .var 2, .var 3, .var 4, .var 5, .var 6, .var 7, .var 8, .var 9, .var 10, .var 11, .var 12, .var 13, .var 14, .var 15, .var 16, .var 17], .agg [.var 18, .var 19, .var 20, .var 21, .var 22, .var 23, .var 24, .var 25, .var 26, .var 27, .var 28, .var 29, .var 30, .var 31, .var 32, .var 33, .var 34, .var 35], .agg [.var 54, .var 55, .var 56, .var 57, .var 58, .var 59, .var 60, .var 61, .var 62, .var 63, .var 64, .var 65, .var 66, .var 67, .var 68, .var 69, .var 70, .var 71, .var 72, .var 73, .var 74, .var 75, .var 76, .var 77, .var 78, .var 79, .var 80, .var 81, .var 82, .var 83, .var 84, .var 85, .var 86, .var 87, .var 88, .var 89]] [.agg 3] <|
 .call F.penumbraref03_Of [.one (.int .i64 (1)), .one (.int .i64 (16))] [.agg 3] <|
 .call F.penumbraref03_Is [.agg [.var 90, .var 91, .var 92], .agg [.var 93, .var 94, .var 95]] [.one] <|
 .ite (.var 96) (
  .call F.dens_Transfer [.agg [.var 0, .var 1, .var 2, .var 3, .var 4, .var 5, .var 6, .var 7, .var 8, .var 9, .var 10, .var 11, .var 12, .var 13, .var 14, .var 15, .var 16, .var 17], .agg [.var 18, .var 19, .var 20, .var 21, .var 22, .var 23, .var 24, .var 25, .var 26, .var 27, .var 28, .var 29, .var 30, .var 31, .var 32, .var 33, .var 34, .var 35], .agg [.var 54, .var 55, .var 56, .var 57, .var 58, .var 59, .var 60, .var 61, .var 62, .var 63, .var 64, .var 65, .var 66, .var 67, .var 68, .var 69, .var 70, .var 71, .var 72, .var 73, .var 74, .var 75, .var 76, .var 77, .var 78, .var 79, .var 80, .var 81, .var 82, .var 83, .var 84, .var 85, .var 86, .var 87, .var 88, .var 89]] [.agg 3] <|
  .call F.penumbraref03_Of [.one (.int .i64 (1)), .one (.int .i64 (4))] [.agg 3] <|
  .call F.penumbraref03_Is [.agg [.var 97, .var 98, .var 99], .agg [.var 100, .var 101, .var 102]] [.one] <|
  .ite (.var 103) (
   .call F.dens_Ahead [.agg [.var 0, .var 1, .var 2, .var 3, .var 4, .var 5, .var 6, .var 7, .var 8, .var 9, .var 10, .var 11, .var 12, .var 13, .var 14, .var 15, .var 16, .var 17], .agg [.var 36, .var 37, .var 38, .var 39, .var 40, .var 41, .var 42, .var 43, .var 44, .var 45, .var 46, .var 47, .var 48, .var 49, .var 50, .var 51, .var 52, .var 53], .agg [.var 54, .var 55, .var 56, .var 57, .var 58, .var 59, .var 60, .var 61, .var 62, .var 63, .var 64, .var 65, .var 66, .var 67, .var 68, .var 69, .var 70, .var 71, .var 72, .var 73, .var 74, .var 75, .var 76, .var 77, .var 78, .var 79, .var 80, .var 81, .var 82, .var 83, .var 84, .var 85, .var 86, .var 87, .var 88, .var 89]] [.agg 3] <|
   .call F.penumbraref03_Zero [] [.agg 3] <|
   .call F.penumbraref03_Is [.agg [.var 104, .var 105, .var 106], .agg [.var 107, .var 108, .var 109]] [.one] <|
   .ite (.var 110) (
    .call F.dens_Transfer [.agg [.var 0, .var 1, .var 2, .var 3, .var 4, .var 5, .var 6, .var 7, .var 8, .var 9, .var 10, .var 11, .var 12, .var 13, .var 14, .var 15, .var 16, .var 17], .agg [.var 36, .var 37, .var 38, .var 39, .var 40, .var 41, .var 42, .var 43, .var 44, .var 45, .var 46, .var 47, .var 48, .var 49, .var 50, .var 51, .var 52, .var 53], .agg [.var 54, .var 55, .var 56, .var 57, .var 58, .var 59, .var 60, .var 61, .var 62, .var 63, .var 64, .var 65, .var 66, .var 67, .var 68, .var 69, .var 70, .var 71, .var 72, .var 73, .var 74, .var 75, .var 76, .var 77, .var 78, .var 79, .var 80, .var 81, .var 82, .var 83, .var 84, .var 85, .var 86, .var 87, .var 88, .var 89]] [.agg 3] <|
    .call F.penumbraref03_Zero [] [.agg 3] <|
    .call F.penumbraref03_Is [.agg [.var 111, .var 112, .var 113], .agg [.var 114, .var 115, .var 116]] [.one] <|
    .ret [.one (.var 117)]) (
    .ret [.one (.bol false)])) (
   .ret [.one (.bol false)])) (
  .ret [.one (.bol false)])

def ir_penumbralaw16_DensFar : IR :=
 .call F.penumbralaw16_fixed [] [.one] <|
 .prim .not [.var 48] <|
 .ite (.var 49) (
  .call F.penumbralaw16_fixed [] [.one] <|
  .ret [.one (.var 50)]) (
  .call F.rat_Sign [.agg [.var 36, .var 37, .var 38]] [.one] <|
  .prim (.bin .leq) [.var 50, .int .i64 (0)] <|
  .ite (.var 51) (
   .call F.penumbralaw16_fixed [] [.one] <|
   .ret [.one (.var 52)]) (
   .call F.affine_Identity [] [.agg 36] <|
   .call F.dens_Ahead [.agg [.var 0, .var 1, .var 2, .var 3, .var 4, .var 5, .var 6, .var 7, .var 8, .var 9, .var 10, .var 11, .var 12, .var 13, .var 14, .var 15, .var 16, .var 17], .agg [.var 18, .var 19, .var 20, .var 21, .var 22, .var 23, .var 24, .var 25, .var 26, .var 27, .var 28, .var 29, .var 30, .var 31, .var 32, .var 33, .var 34, .var 35], .agg [.var 52, .var 53, .var 54, .var 55, .var 56, .var 57, .var 58, .var 59, .var 60, .var 61, .var 62, .var 63, .var 64, .var 65, .var 66, .var 67, .var 68, .var 69, .var 70, .var 71, .var 72, .var 73, .var 74, .var 75, .var 76, .var 77, .var 78, .var 79, .var 80, .var 81, .var 82, .var 83, .var 84, .var 85, .var 86, .var 87]] [.agg 3] <|
   .call F.dens_Transfer [.agg [.var 0, .var 1, .var 2, .var 3, .var 4, .var 5, .var 6, .var 7, .var 8, .var 9, .var 10, .var 11, .var 12, .var 13, .var 14, .var 15, .var 16, .var 17], .agg [.var 18, .var 19, .var 20, .var 21, .var 22, .var 23, .var 24, .var 25, .var 26, .var 27, .var 28, .var 29, .var 30, .var 31, .var 32, .var 33, .var 34, .var 35], .agg [.var 52, .var 53, .var 54, .var 55, .var 56, .var 57, .var 58, .var 59, .var 60, .var 61, .var 62, .var 63, .var 64, .var 65, .var 66, .var 67, .var 68, .var 69, .var 70, .var 71, .var 72, .var 73, .var 74, .var 75, .var 76, .var 77, .var 78, .var 79, .var 80, .var 81, .var 82, .var 83, .var 84, .var 85, .var 86, .var 87]] [.agg 3] <|
   .call F.vec_Sub [.agg [.var 18, .var 19, .var 20, .var 21, .var 22, .var 23, .var 24, .var 25, .var 26], .agg [.var 0, .var 1, .var 2, .var 3, .var 4, .var 5, .var 6, .var 7, .var 8]] [.agg 9] <|
   .call F.vec_Scale [.agg [.var 36, .var 37, .var 38], .agg [.var 94, .var 95, .var 96, .var 97, .var 98, .var 99, .var 100, .var 101, .var 102]] [.agg 9] <|
   .prim (.mk 2) [.var 0, .var 1, .var 2, .var 3, .var 4, .var 5, .var 6, .var 7, .var 8, .var 103, .var 104, .var 105, .var 106, .var 107, .var 108, .var 109, .var 110, .var 111] <|
   .call F.vec_Sum [.one (.var 112)] [.agg 9] <|
   .prim (.mk 2) [.var 0, .var 1, .var 2, .var 3, .var 4, .var 5, .var 6, .var 7, .var 8, .var 39, .var 40, .var 41, .var 42, .var 43, .var 44, .var 45, .var 46, .var 47] <|
   .call F.vec_Sum [.one (.var 122)] [.agg 9] <|
   .prim (.mk 2) [.var 18, .var 19, .var 20, .var 21, .var 22, .var 23, .var 24, .var 25, .var 26, .var 39, .var 40, .var 41, .var 42, .var 43, .var 44, .var 45, .var 46, .var 47] <|
   .call F.vec_Sum [.one (.var 132)] [.agg 9] <|
   .prim (.mk 2) [.var 36, .var 37, .var 38, .var 36, .var 37, .var 38] <|
   .call F.rat_Product [.one (.var 142)] [.agg 3] <|
   .call F.dens_Ahead [.agg [.var 0, .var 1, .var 2, .var 3, .var 4, .var 5, .var 6, .var 7, .var 8, .var 9, .var 10, .var 11, .var 12, .var 13, .var 14, .var 15, .var 16, .var 17], .agg [.var 113, .var 114, .var 115, .var 116, .var 117, .var 118, .var 119, .var 120, .var 121, .var 27, .var 28, .var 29, .var 30, .var 31, .var 32, .var 33, .var 34, .var 35], .agg [.var 52, .var 53, .var 54, .var 55, .var 56, .var 57, .var 58, .var 59, .var 60, .var 61, .var 62, .var 63, .var 64, .var 65, .var 66, .var 67, .var 68, .var 69, .var 70, .var 71, .var 72, .var 73, .var 74, .var 75, .var 76, .var 77, .var 78, .var 79, .var 80, .var 81, .var 82, .var 83, .var 84, .var 85, .var 86, .var 87]] [.agg 3] <|
   .prim (.mk 2) [.var 146, .var 147, .var 148, .var 143, .var 144, .var 145] <|
   .call F.rat_Product [.one (.var 149)] [.agg 3] <|
   .call F.penumbraref03_Is [.agg [.var 150, .var 151, .var 152], .agg [.var 88, .var 89, .var 90]] [.one] <|
   .ite (.var 153) (
    .call F.dens_Transfer [.agg [.var 0, .var 1, .var 2, .var 3, .var 4, .var 5, .var 6, .var 7, .var 8, .var 9, .var 10, .var 11, .var 12, .var 13, .var 14, .var 15, .var 16, .var 17], .agg [.var 113, .var 114, .var 115, .var 116, .var 117, .var 118, .var 119, .var 120, .var 121, .var 27, .var 28, .var 29, .var 30, .var 31, .var 32, .var 33, .var 34, .var 35], .agg [.var 52, .var 53, .var 54, .var 55, .var 56, .var 57, .var 58, .var 59, .var 60, .var 61, .var 62, .var 63, .var 64, .var 65, .var 66, .var 67, .var 68, .var 69, .var 70, .var 71, .var 72, .var 73, .var 74, .var 75, .var 76, .var 77, .var 78, .var 79, .var 80, .var 81, .var 82, .var 83, .var 84, .var 85, .var 86, .var 87]] [.agg 3] <|
    .prim (.mk 2) [.var 154, .var 155, .var 156, .var 143, .var 144, .var 145] <|
    .call F.rat_Product [.one (.var 157)] [.agg 3] <|
    .call F.penumbraref03_Is [.agg [.var 158, .var 159, .var 160], .agg [.var 91, .var 92, .var 93]] [.one] <|
    .ite (.var 161) (
     .call F.dens_Ahead [.agg [.var 123, .var 124, .var 125, .var 126, .var 127, .var 128, .var 129, .var 130, .var 131, .var 9, .var 10, .var 11, .var 12, .var 13, .var 14, .var 15, .var 16, .var 17], .agg [.var 133, .var 134, .var 135, .var 136, .var 137, .var 138, .var 139, .var 140, .var 141, .var 27, .var 28, .var 29, .var 30, .var 31, .var 32, .var 33, .var 34, .var 35], .agg [.var 52, .var 53, .var 54, .var 55, .var 56, .var 57, .var 58, .var 59, .var 60, .var 61, .var 62, .var 63, .var 64, .var 65, .var 66, .var 67, .var 68, .var 69, .var 70, .var 71, .var 72, .var 73, .var 74, .var 75, .var 76, .var 77, .var 78, .var 79, .var 80, .var 81, .var 82, .var 83, .var 84, .var 85, .var 86, .var 87]] [.agg 3] <|
     .call F.penumbraref03_Is [.agg [.var 162, .var 163, .var 164], .agg [.var 88, .var 89, .var 90]] [.one] <|
     .ite (.var 165) (
      .call F.dens_Transfer [.agg [.var 123, .var 124, .var 125, .var 126, .var 127, .var 128, .var 129, .var 130, .var 131, .var 9, .var 10, .var 11, .var 12, .var 13, .var 14, .var 15, .var 16, .var 17], .agg [.var 133, .var 134, .var 135, .var 136, .var 137, .var 138, .var 139, .var 140, .var 141, .var 27, .var 28, .var 29, .var 30, .var 31, .var 32, .var 33, .var 34, .var 35], .agg [.var 52, .var 53, .var 54, .var 55, .var 56, .var 57, .var 58, .var 59, .var 60, .var 61, .var 62, .var 63, .var 64, .var 65, .var 66, .var 67, .var 68, .var 69, .var 70, .var 71, .var 72, .var 73, .var 74, .var 75, .var 76, .var 77, .var 78, .var 79, .var 80, .var 81, .var 82, .var 83, .var 84, .var 85, .var 86, .var 87]] [.agg 3] <|
      .call F.penumbraref03_Is [.agg [.var 166, .var 167, .var 168], .agg [.var 91, .var 92, .var 93]] [.one] <|
      .ret [.one (.var 169)]) (
      .ret [.one (.bol false)])) (
     .ret [.one (.bol false)])) (
    .ret [.one (.bol false)])))

theorem tree_penumbralaw16_fixed : symFunc Go.Proofs.Try.prog H0 400 F.penumbralaw16_fixed [] = some ir_penumbralaw16_fixed := by kernel_rfl
theorem tree_penumbralaw16_DensFar : symFunc Go.Proofs.Try.prog H0 400 F.penumbralaw16_DensFar [.agg 36, .agg 3, .agg 9] = some ir_penumbralaw16_DensFar := by kernel_rfl
end Go.Px
namespace Go.Px.Na
open Go.RowKit
open Go.Proofs.Try (prog)

theorem way_id (x y : Sp) : way x y idm = y.P.sub x.P := by
  simp only [way, M4.app, M4.turn, V3.dot, V3.add, V3.sub]
  congr 1 <;> grind
theorem V3.dot_smul (k : Rat) (a b : V3) : (V3.smul k a).dot b = k * a.dot b := by simp only [V3.dot, V3.smul]; grind
theorem V3.dot_smul' (k : Rat) (a b : V3) : a.dot (V3.smul k b) = k * a.dot b := by simp only [V3.dot, V3.smul]; grind
theorem div_sc {k a b : Rat} (hk : 0 < k) : k * a / (k * b) = a / b := by
  by_cases hb : b = 0
  · rw [hb, Rat.mul_zero, Rat.div_def, Rat.inv_zero, Rat.div_def, Rat.inv_zero, Rat.mul_zero, Rat.mul_zero]
  · have hk' : k ≠ 0 := fun z => by rw [z] at hk; exact absurd hk (by decide)
    grind
theorem pos_sc {k a : Rat} (hk : 0 < k) : 0 < k * a ↔ 0 < a := by
  constructor
  · intro h
    rcases Rat.le_total (a := a) (b := 0) with g | g
    · exfalso
      have := Rat.mul_nonneg (a := k) (b := -a) (by grind) (by grind)
      grind
    · rcases Rat.le_iff_lt_or_eq.1 g with g | g
      · exact g
      · rw [← g, Rat.mul_zero] at h; exact absurd h (by decide)
  · exact fun h => Rat.mul_pos hk h
theorem neg_sc {k a : Rat} (hk : 0 < k) : k * a < 0 ↔ a < 0 := by
  have := pos_sc (a := -a) hk
  constructor
  · intro h; have := this.1 (by grind); grind
  · intro h; have := this.2 (by grind); grind
theorem abs_sc {k a : Rat} (hk : 0 < k) : (k * a).abs = k * a.abs := by
  rcases Rat.le_total (a := 0) (b := a) with g | g
  · rw [Rat.abs_of_nonneg g, Rat.abs_of_nonneg (Rat.mul_nonneg (Rat.le_of_lt hk) g)]
  · have := Rat.mul_nonneg (a := k) (b := -a) (by grind) (by grind)
    rw [Rat.abs_of_nonpos g, Rat.abs_of_nonpos (by grind)]; grind

section
variable {x y z : Sp} {u : M4} {k : Rat}
theorem far_seen (hk : 0 < k) (hw : way x z u = V3.smul k (way x y u)) (hn : z.N = y.N) : seen x z u ↔ seen x y u := by
  unfold seen units wz wc
  rw [hw, hn, V3.dot_smul, V3.dot_smul', Rat.mul_assoc, pos_sc hk, neg_sc hk]
theorem far_wz (hw : way x z u = V3.smul k (way x y u)) : wz x z u = k * wz x y u := by unfold wz; rw [hw, V3.dot_smul]
theorem far_wc (hw : way x z u = V3.smul k (way x y u)) (hn : z.N = y.N) : wc x z u = k * wc x y u := by unfold wc; rw [hw, hn, V3.dot_smul']
theorem far_sA (hk : 0 < k) (hw : way x z u = V3.smul k (way x y u)) : sA x z u = sA x y u := by unfold sA; rw [far_wz hw, hw, V3.dot_smul, div_sc hk]
theorem far_sB (hk : 0 < k) (hw : way x z u = V3.smul k (way x y u)) : sB x z u = sB x y u := by unfold sB; rw [far_wz hw, hw, V3.dot_smul, div_sc hk]
theorem far_ahd (hk : 0 < k) (hw : way x z u = V3.smul k (way x y u)) (hn : z.N = y.N) : ahd x z u * (k * k) = ahd x y u := by
  unfold ahd
  by_cases c : seen x y u
  · rw [if_pos c, if_pos ((far_seen hk hw hn).2 c), far_sA hk hw, far_sB hk hw, far_wz hw, far_wc hw hn, abs_sc hk]
    have hz : wz x y u ≠ 0 := fun z => by have := c.2.1; rw [z] at this; exact absurd this (by decide)
    have hk' : k ≠ 0 := fun z => by rw [z] at hk; exact absurd hk (by decide)
    generalize dns (sA x y u) * dns (sB x y u) = d, (wc x y u).abs = e, wz x y u = w at *
    grind
  · rw [if_neg c, if_neg (fun h => c ((far_seen hk hw hn).1 h)), Rat.zero_mul]
theorem far_tra (hk : 0 < k) (hw : way x z u = V3.smul k (way x y u)) (hn : z.N = y.N) : tra x z u * (k * k) = tra x y u := by
  unfold tra
  by_cases c : seen x y u
  · rw [if_pos c, if_pos ((far_seen hk hw hn).2 c), far_wz hw, far_wc hw hn, abs_sc hk, hw, V3.dot_smul, V3.dot_smul']
    have hk' : k ≠ 0 := fun z => by rw [z] at hk; exact absurd hk (by decide)
    generalize (way x y u).dot (way x y u) = f, (wc x y u).abs = e, wz x y u = w at *
    by_cases hf : f = 0
    · subst hf; simp [Rat.div_def]
    · grind
  · rw [if_neg c, if_neg (fun h => c ((far_seen hk hw hn).1 h)), Rat.zero_mul]
theorem mov_ahd {a b : Sp} (hw : way a b u = way x y u) (h1 : a.N = x.N) (h2 : b.N = y.N) : ahd a b u = ahd x y u := by
  have hs : seen a b u ↔ seen x y u := by unfold seen units wz wc; rw [hw, h1, h2]
  unfold ahd
  by_cases c : seen x y u
  · rw [if_pos c, if_pos (hs.2 c)]; unfold sA sB wz wc; rw [hw, h1, h2]
  · rw [if_neg c, if_neg (fun h => c (hs.1 h))]
theorem mov_tra {a b : Sp} (hw : way a b u = way x y u) (h1 : a.N = x.N) (h2 : b.N = y.N) : tra a b u = tra x y u := by
  have hs : seen a b u ↔ seen x y u := by unfold seen units wz wc; rw [hw, h1, h2]
  unfold tra
  by_cases c : seen x y u
  · rw [if_pos c, if_pos (hs.2 c)]; unfold wz wc; rw [hw, h1, h2]
  · rw [if_neg c, if_neg (fun h => c (hs.1 h))]
end
theorem f_fixed16 : PureCalls prog F.penumbralaw16_fixed [] [.one (.bool true)] := by
  refine symFunc_sound hmix tree_penumbralaw16_fixed (by kernel_rfl) rfl ?_
  unfold ir_penumbralaw16_fixed
  simp only [HH, gW, gD, V3.l, M4.l, Fr.l, Sp.l, RV.l, RM.l, RF.l, RS.l]
  refine cs3 (n_vec_Of (o0 := 0) (o1 := 0) (o2 := 0) (0) (0) (0) (by decide) (by decide) (by decide) (by decide) (by decide) (by decide) (by decide +kernel) (by decide +kernel) (by decide +kernel)) ?_
  simp only [HH, gW, gD, V3.l, M4.l, Fr.l, Sp.l, RV.l, RM.l, RF.l, RS.l]
  have m1 := NV.of So3
  refine cs3 (n_vec_Of (o0 := 0) (o1 := 0) (o2 := 1) (0) (0) (1) (by decide) (by decide) (by decide) (by decide) (by decide) (by decide) (by decide +kernel) (by decide +kernel) (by decide +kernel)) ?_
  simp only [HH, gW, gD, V3.l, M4.l, Fr.l, Sp.l, RV.l, RM.l, RF.l, RS.l]
  have m2 := NV.of Se3
  refine cs3 (n_vec_Of (o0 := 0) (o1 := 0) (o2 := 2) (0) (0) (2) (by decide) (by decide) (by decide) (by decide) (by decide) (by decide) (by decide +kernel) (by decide +kernel) (by decide +kernel)) ?_
  simp only [HH, gW, gD, V3.l, M4.l, Fr.l, Sp.l, RV.l, RM.l, RF.l, RS.l]
  have m3 := NV.of (⟨Sm0, Sm0, Sm2⟩ : SV 1 ⟨0, 0, 2⟩)
  refine cs3 (n_vec_Of (o0 := 0) (o1 := 0) (o2 := -1) (0) (0) (-1) (by decide) (by decide) (by decide) (by decide) (by decide) (by decide) (by decide +kernel) (by decide +kernel) (by decide +kernel)) ?_
  simp only [HH, gW, gD, V3.l, M4.l, Fr.l, Sp.l, RV.l, RM.l, RF.l, RS.l]
  have m4 := NV.of (⟨Sm0, Sm0, Smm1⟩ : SV 1 ⟨0, 0, -1⟩)
  refine cs3 (n_vec_Of (o0 := 0) (o1 := 0) (o2 := 2) (0) (0) (2) (by decide) (by decide) (by decide) (by decide) (by decide) (by decide) (by decide +kernel) (by decide +kernel) (by decide +kernel)) ?_
  simp only [HH, gW, gD, V3.l, M4.l, Fr.l, Sp.l, RV.l, RM.l, RF.l, RS.l]
  have m5 := NV.of (⟨Sm0, Sm0, Sm2⟩ : SV 1 ⟨0, 0, 2⟩)
  refine cs3 (n_vec_Of (o0 := 0) (o1 := 0) (o2 := 1) (0) (0) (1) (by decide) (by decide) (by decide) (by decide) (by decide) (by decide) (by decide +kernel) (by decide +kernel) (by decide +kernel)) ?_
  simp only [HH, gW, gD, V3.l, M4.l, Fr.l, Sp.l, RV.l, RM.l, RF.l, RS.l]
  have m6 := NV.of Se3
  refine call_step (f_affine_Identity) rfl ?_
  simp only [HH, gW, gD, V3.l, M4.l, Fr.l, Sp.l, RV.l, RM.l, RF.l, RS.l]
  have m7 := NM.of (Sidm)
  refine call_step (f_dens_Ahead (NS.mk2 (m1.mono (by decide)) (m2.mono (by decide)) : NS 100000000 _ _) (NS.mk2 (m3.mono (by decide)) (m4.mono (by decide)) : NS 100000000 _ _) m7 (by decide)) rfl ?_
  simp only [HH, gW, gD, V3.l, M4.l, Fr.l, Sp.l, RV.l, RM.l, RF.l, RS.l]
  have m8 := Num.of (SS.ahd2 (NS.mk2 (m1.mono (by decide)) (m2.mono (by decide)) : NS 100000000 _ _).sm (NS.mk2 (m3.mono (by decide)) (m4.mono (by decide)) : NS 100000000 _ _).sm m7.sm)
  refine cs1 (n_penumbraref03_Of (k0 := (1 / 16)) (1) (16) (by decide) (by decide) (by decide) (by decide) (by decide +kernel)) ?_
  simp only [HH, gW, gD, V3.l, M4.l, Fr.l, Sp.l, RV.l, RM.l, RF.l, RS.l]
  have m9 : Num 1 (cr (1 / 16)) (1 / 16) := Num.of (Smc (by decide +kernel) (by decide +kernel))
  refine call_step (f_Is_t (by decide +kernel) m8 m9 (by decide)) rfl ?_
  simp only [HH, gW, gD, V3.l, M4.l, Fr.l, Sp.l, RV.l, RM.l, RF.l, RS.l]
  refine itT rfl ?_
  refine call_step (f_dens_Transfer (NS.mk2 (m1.mono (by decide)) (m2.mono (by decide)) : NS 100000000 _ _) (NS.mk2 (m3.mono (by decide)) (m4.mono (by decide)) : NS 100000000 _ _) m7 (by decide)) rfl ?_
  simp only [HH, gW, gD, V3.l, M4.l, Fr.l, Sp.l, RV.l, RM.l, RF.l, RS.l]
  have m10 := Num.of (SS.tra2 (NS.mk2 (m1.mono (by decide)) (m2.mono (by decide)) : NS 100000000 _ _).sm (NS.mk2 (m3.mono (by decide)) (m4.mono (by decide)) : NS 100000000 _ _).sm m7.sm)
  refine cs1 (n_penumbraref03_Of (k0 := (1 / 4)) (1) (4) (by decide) (by decide) (by decide) (by decide) (by decide +kernel)) ?_
  simp only [HH, gW, gD, V3.l, M4.l, Fr.l, Sp.l, RV.l, RM.l, RF.l, RS.l]
  have m11 : Num 1 (cr (1 / 4)) (1 / 4) := Num.of (Smc (by decide +kernel) (by decide +kernel))
  refine call_step (f_Is_t (by decide +kernel) m10 m11 (by decide)) rfl ?_
  simp only [HH, gW, gD, V3.l, M4.l, Fr.l, Sp.l, RV.l, RM.l, RF.l, RS.l]
  refine itT rfl ?_
  refine call_step (f_dens_Ahead (NS.mk2 (m1.mono (by decide)) (m2.mono (by decide)) : NS 100000000 _ _) (NS.mk2 (m5.mono (by decide)) (m6.mono (by decide)) : NS 100000000 _ _) m7 (by decide)) rfl ?_
  simp only [HH, gW, gD, V3.l, M4.l, Fr.l, Sp.l, RV.l, RM.l, RF.l, RS.l]
  have m12 := Num.of (SS.ahd2 (NS.mk2 (m1.mono (by decide)) (m2.mono (by decide)) : NS 100000000 _ _).sm (NS.mk2 (m5.mono (by decide)) (m6.mono (by decide)) : NS 100000000 _ _).sm m7.sm)
  refine call_step (f_R3_Zero) rfl ?_
  simp only [HH, gW, gD, V3.l, M4.l, Fr.l, Sp.l, RV.l, RM.l, RF.l, RS.l]
  have m13 := Num.of (Sm0)
  refine call_step (f_Is_t (by decide +kernel) m12 m13 (by decide)) rfl ?_
  simp only [HH, gW, gD, V3.l, M4.l, Fr.l, Sp.l, RV.l, RM.l, RF.l, RS.l]
  refine itT rfl ?_
  refine call_step (f_dens_Transfer (NS.mk2 (m1.mono (by decide)) (m2.mono (by decide)) : NS 100000000 _ _) (NS.mk2 (m5.mono (by decide)) (m6.mono (by decide)) : NS 100000000 _ _) m7 (by decide)) rfl ?_
  simp only [HH, gW, gD, V3.l, M4.l, Fr.l, Sp.l, RV.l, RM.l, RF.l, RS.l]
  have m14 := Num.of (SS.tra2 (NS.mk2 (m1.mono (by decide)) (m2.mono (by decide)) : NS 100000000 _ _).sm (NS.mk2 (m5.mono (by decide)) (m6.mono (by decide)) : NS 100000000 _ _).sm m7.sm)
  refine call_step (f_R3_Zero) rfl ?_
  simp only [HH, gW, gD, V3.l, M4.l, Fr.l, Sp.l, RV.l, RM.l, RF.l, RS.l]
  have m15 := Num.of (Sm0)
  refine call_step (f_Is_t (by decide +kernel) m14 m15 (by decide)) rfl ?_
  simp only [HH, gW, gD, V3.l, M4.l, Fr.l, Sp.l, RV.l, RM.l, RF.l, RS.l]
  exact ret_step rfl
theorem pure_DensFar {r0 r1 r2 r3 r4 r5 r6 r7 r8 r9 r10 r11 r12 r13 r14 r15 : RR} (g0 : r0.ok 1048576) (g1 : r1.ok 1048576) (g2 : r2.ok 1048576) (g3 : r3.ok 1048576) (g4 : r4.ok 1048576) (g5 : r5.ok 1048576) (g6 : r6.ok 1048576) (g7 : r7.ok 1048576) (g8 : r8.ok 1048576) (g9 : r9.ok 1048576) (g10 : r10.ok 1048576) (g11 : r11.ok 1048576) (g12 : r12.ok 1048576) (g13 : r13.ok 1048576) (g14 : r14.ok 1048576) (g15 : r15.ok 1048576) : PureCalls prog F.penumbralaw16_DensFar [.agg ([.bool r0.neg, nl r0.num, nl r0.den, .bool r1.neg, nl r1.num, nl r1.den, .bool r2.neg, nl r2.num, nl r2.den, .bool r3.neg, nl r3.num, nl r3.den, .bool r4.neg, nl r4.num, nl r4.den, .bool r5.neg, nl r5.num, nl r5.den, .bool r6.neg, nl r6.num, nl r6.den, .bool r7.neg, nl r7.num, nl r7.den, .bool r8.neg, nl r8.num, nl r8.den, .bool r9.neg, nl r9.num, nl r9.den, .bool r10.neg, nl r10.num, nl r10.den, .bool r11.neg, nl r11.num, nl r11.den]), .agg ([.bool r12.neg, nl r12.num, nl r12.den]), .agg ([.bool r13.neg, nl r13.num, nl r13.den, .bool r14.neg, nl r14.num, nl r14.den, .bool r15.neg, nl r15.num, nl r15.den])] [.one (.bool true)] := by
  obtain ⟨p, hp⟩ := Num.rawV g0 g1 g2 (by decide)
  obtain ⟨n, hn⟩ := Num.rawV g3 g4 g5 (by decide)
  obtain ⟨q, hq⟩ := Num.rawV g6 g7 g8 (by decide)
  obtain ⟨o, ho⟩ := Num.rawV g9 g10 g11 (by decide)
  obtain ⟨k, hk⟩ := Num.raw g12 (by decide)
  obtain ⟨b, hb⟩ := Num.rawV g13 g14 g15 (by decide)
  have hx := NS.mk2 hp hn
  have hy := NS.mk2 hq ho
  have w1 : way ⟨p, n⟩ ⟨p.add (V3.smul k (q.sub p)), o⟩ idm = V3.smul k (way ⟨p, n⟩ ⟨q, o⟩ idm) := by
    rw [way_id, way_id]; simp only [V3.add, V3.sub, V3.smul]; congr 1 <;> grind
  have w2 : way ⟨p.add b, n⟩ ⟨q.add b, o⟩ idm = way ⟨p, n⟩ ⟨q, o⟩ idm := by
    rw [way_id, way_id]; simp only [V3.add, V3.sub]; congr 1 <;> grind
  refine symFunc_sound hmix tree_penumbralaw16_DensFar (by kernel_rfl) rfl ?_
  unfold ir_penumbralaw16_DensFar
  simp only [HH, gW, gD, V3.l, M4.l, Fr.l, Sp.l, RV.l, RM.l, RF.l, RS.l]
  refine call_step (f_fixed16) rfl ?_
  simp only [HH, gW, gD, V3.l, M4.l, Fr.l, Sp.l, RV.l, RM.l, RF.l, RS.l]
  refine primS (.bool false) rfl ?_
  refine itF rfl ?_
  refine call_step (f_rat_Sign hk (by decide)) rfl ?_
  simp only [HH, gW, gD, V3.l, M4.l, Fr.l, Sp.l, RV.l, RM.l, RF.l, RS.l]
  refine primS (.bool (decide _)) pr_le ?_
  refine itD rfl (fun i1 => ?_) (fun i1 => ?_)
  · refine call_step (f_fixed16) rfl ?_
    simp only [HH, gW, gD, V3.l, M4.l, Fr.l, Sp.l, RV.l, RM.l, RF.l, RS.l]
    exact ret_step rfl
  · refine call_step (f_affine_Identity) rfl ?_
    simp only [HH, gW, gD, V3.l, M4.l, Fr.l, Sp.l, RV.l, RM.l, RF.l, RS.l]
    have m1 := NM.of (Sidm)
    refine call_step (f_dens_Ahead hx hy m1 (by decide)) rfl ?_
    simp only [HH, gW, gD, V3.l, M4.l, Fr.l, Sp.l, RV.l, RM.l, RF.l, RS.l]
    have m2 := Num.of (SS.ahd2 hx.sm hy.sm m1.sm)
    refine call_step (f_dens_Transfer hx hy m1 (by decide)) rfl ?_
    simp only [HH, gW, gD, V3.l, M4.l, Fr.l, Sp.l, RV.l, RM.l, RF.l, RS.l]
    have m3 := Num.of (SS.tra2 hx.sm hy.sm m1.sm)
    refine call_step (f_vec_Sub hy.P hx.P (by decide)) rfl ?_
    simp only [HH, gW, gD, V3.l, M4.l, Fr.l, Sp.l, RV.l, RM.l, RF.l, RS.l]
    have m4 := NV.of (SV.sub hy.P.sm hx.P.sm)
    refine call_step (f_vec_Scale hk m4 (by decide)) rfl ?_
    simp only [HH, gW, gD, V3.l, M4.l, Fr.l, Sp.l, RV.l, RM.l, RF.l, RS.l]
    have m5 := NV.of (SV.smul hk.sm m4.sm)
    refine primS (rlV2 hx.P m5) rfl ?_
    refine cs3 (f_vec_Sum_2 hx.P m5 (by decide)) ?_
    simp only [HH, gW, gD, V3.l, M4.l, Fr.l, Sp.l, RV.l, RM.l, RF.l, RS.l]
    have m6 := NV.of (SV.add hx.P.sm m5.sm)
    refine primS (rlV2 hx.P hb) rfl ?_
    refine cs3 (f_vec_Sum_2 hx.P hb (by decide)) ?_
    simp only [HH, gW, gD, V3.l, M4.l, Fr.l, Sp.l, RV.l, RM.l, RF.l, RS.l]
    have m7 := NV.of (SV.add hx.P.sm hb.sm)
    refine primS (rlV2 hy.P hb) rfl ?_
    refine cs3 (f_vec_Sum_2 hy.P hb (by decide)) ?_
    simp only [HH, gW, gD, V3.l, M4.l, Fr.l, Sp.l, RV.l, RM.l, RF.l, RS.l]
    have m8 := NV.of (SV.add hy.P.sm hb.sm)
    refine primS (rlN2 hk hk) rfl ?_
    refine cs1 (n_rat_Product_2 (hk.mono (by decide)) (hk.mono (by decide)) rfl) ?_
    simp only [HH, gW, gD, V3.l, M4.l, Fr.l, Sp.l, RV.l, RM.l, RF.l, RS.l]
    have m9 := Num.of (Sm.mul hk.sm hk.sm)
    refine call_step (f_dens_Ahead hx (NS.mk2 (m6.mono (by decide)) (hy.N.mono (by decide)) : NS 100000000 _ _) m1 (by decide)) rfl ?_
    simp only [HH, gW, gD, V3.l, M4.l, Fr.l, Sp.l, RV.l, RM.l, RF.l, RS.l]
    have m10 := Num.of (SS.ahd2 hx.sm (NS.mk2 (m6.mono (by decide)) (hy.N.mono (by decide)) : NS 100000000 _ _).sm m1.sm)
    refine primS (rlN2 m10 m9) rfl ?_
    refine cs1 (n_rat_Product_2 (m10.mono (by decide)) (m9.mono (by decide)) rfl) ?_
    simp only [HH, gW, gD, V3.l, M4.l, Fr.l, Sp.l, RV.l, RM.l, RF.l, RS.l]
    have m11 := Num.of (Sm.mul m10.sm m9.sm)
    refine call_step (f_Is_t (far_ahd (Rat.not_le.1 i1) w1 rfl) m11 m2 (by decide)) rfl ?_
    simp only [HH, gW, gD, V3.l, M4.l, Fr.l, Sp.l, RV.l, RM.l, RF.l, RS.l]
    refine itT rfl ?_
    refine call_step (f_dens_Transfer hx (NS.mk2 (m6.mono (by decide)) (hy.N.mono (by decide)) : NS 100000000 _ _) m1 (by decide)) rfl ?_
    simp only [HH, gW, gD, V3.l, M4.l, Fr.l, Sp.l, RV.l, RM.l, RF.l, RS.l]
    have m12 := Num.of (SS.tra2 hx.sm (NS.mk2 (m6.mono (by decide)) (hy.N.mono (by decide)) : NS 100000000 _ _).sm m1.sm)
    refine primS (rlN2 m12 m9) rfl ?_
    refine cs1 (n_rat_Product_2 (m12.mono (by decide)) (m9.mono (by decide)) rfl) ?_
    simp only [HH, gW, gD, V3.l, M4.l, Fr.l, Sp.l, RV.l, RM.l, RF.l, RS.l]
    have m13 := Num.of (Sm.mul m12.sm m9.sm)
    refine call_step (f_Is_t (far_tra (Rat.not_le.1 i1) w1 rfl) m13 m3 (by decide)) rfl ?_
    simp only [HH, gW, gD, V3.l, M4.l, Fr.l, Sp.l, RV.l, RM.l, RF.l, RS.l]
    refine itT rfl ?_
    refine call_step (f_dens_Ahead (NS.mk2 (m7.mono (by decide)) (hx.N.mono (by decide)) : NS 100000000 _ _) (NS.mk2 (m8.mono (by decide)) (hy.N.mono (by decide)) : NS 100000000 _ _) m1 (by decide)) rfl ?_
    simp only [HH, gW, gD, V3.l, M4.l, Fr.l, Sp.l, RV.l, RM.l, RF.l, RS.l]
    have m14 := Num.of (SS.ahd2 (NS.mk2 (m7.mono (by decide)) (hx.N.mono (by decide)) : NS 100000000 _ _).sm (NS.mk2 (m8.mono (by decide)) (hy.N.mono (by decide)) : NS 100000000 _ _).sm m1.sm)
    refine call_step (f_Is_t (mov_ahd w2 rfl rfl) m14 m2 (by decide)) rfl ?_
    simp only [HH, gW, gD, V3.l, M4.l, Fr.l, Sp.l, RV.l, RM.l, RF.l, RS.l]
    refine itT rfl ?_
    refine call_step (f_dens_Transfer (NS.mk2 (m7.mono (by decide)) (hx.N.mono (by decide)) : NS 100000000 _ _) (NS.mk2 (m8.mono (by decide)) (hy.N.mono (by decide)) : NS 100000000 _ _) m1 (by decide)) rfl ?_
    simp only [HH, gW, gD, V3.l, M4.l, Fr.l, Sp.l, RV.l, RM.l, RF.l, RS.l]
    have m15 := Num.of (SS.tra2 (NS.mk2 (m7.mono (by decide)) (hx.N.mono (by decide)) : NS 100000000 _ _).sm (NS.mk2 (m8.mono (by decide)) (hy.N.mono (by decide)) : NS 100000000 _ _).sm m1.sm)
    refine call_step (f_Is_t (mov_tra w2 rfl rfl) m15 m3 (by decide)) rfl ?_
    simp only [HH, gW, gD, V3.l, M4.l, Fr.l, Sp.l, RV.l, RM.l, RF.l, RS.l]
    exact ret_step rfl
end Go.Px.Na

/- Ff: inverses of maps; on which pixel a spot is seen, and how densely. -/
import Derived.Test.YtnohcccgfefnkaaGreatFb
set_option maxRecDepth 20000
set_option maxHeartbeats 40000000
set_option linter.unusedVariables false
set_option linter.unusedSimpArgs false
namespace Go.Px
open Go.RowKit
def ir_affine_Inverse : IR :=
 .call F.rat_Of [.one (.int .i64 (1)), .one (.int .i64 (1))] [.agg 3] <|
 .call F.affine_Det [.agg [.var 0, .var 1, .var 2, .var 3, .var 4, .var 5, .var 6, .var 7, .var 8, .var 9, .var 10, .var 11, .var 12, .var 13, .var 14, .var 15, .var 16, .var 17, .var 18, .var 19, .var 20, .var 21, .var 22, .var 23, .var 24, .var 25, .var 26, .var 27, .var 28, .var 29, .var 30, .var 31, .var 32, .var 33, .var 34, .var 35]] [.agg 3] <|
 .call F.rat_Div [.agg [.var 36, .var 37, .var 38], .agg [.var 39, .var 40, .var 41]] [.agg 3, .one] <|
 .prim .not [.var 45] <|
 .ite (.var 46) (
  .call F.affine_Identity [] [.agg 36] <|
  .ret [.agg [.var 47, .var 48, .var 49, .var 50, .var 51, .var 52, .var 53, .var 54, .var 55, .var 56, .var 57, .var 58, .var 59, .var 60, .var 61, .var 62, .var 63, .var 64, .var 65, .var 66, .var 67, .var 68, .var 69, .var 70, .var 71, .var 72, .var 73, .var 74, .var 75, .var 76, .var 77, .var 78, .var 79, .var 80, .var 81, .var 82], .one (.bol false)]) (
  .call F.affine_cofactors [.agg [.var 0, .var 1, .var 2, .var 3, .var 4, .var 5, .var 6, .var 7, .var 8, .var 9, .var 10, .var 11, .var 12, .var 13, .var 14, .var 15, .var 16, .var 17, .var 18, .var 19, .var 20, .var 21, .var 22, .var 23, .var 24, .var 25, .var 26, .var 27, .var 28, .var 29, .var 30, .var 31, .var 32, .var 33, .var 34, .var 35]] [.agg 27] <|
  .call F.vec_Scale [.agg [.var 42, .var 43, .var 44], .agg [.var 47, .var 48, .var 49, .var 50, .var 51, .var 52, .var 53, .var 54, .var 55]] [.agg 9] <|
  .call F.vec_Scale [.agg [.var 42, .var 43, .var 44], .agg [.var 56, .var 57, .var 58, .var 59, .var 60, .var 61, .var 62, .var 63, .var 64]] [.agg 9] <|
  .call F.vec_Scale [.agg [.var 42, .var 43, .var 44], .agg [.var 65, .var 66, .var 67, .var 68, .var 69, .var 70, .var 71, .var 72, .var 73]] [.agg 9] <|
  .call F.rat_Of [.one (.int .i64 (-1)), .one (.int .i64 (1))] [.agg 3] <|
  .call F.affine_Turn [.agg [.var 74, .var 75, .var 76, .var 83, .var 84, .var 85, .var 92, .var 93, .var 94, .var 77, .var 78, .var 79, .var 86, .var 87, .var 88, .var 95, .var 96, .var 97, .var 80, .var 81, .var 82, .var 89, .var 90, .var 91, .var 98, .var 99, .var 100, .bol false, .nil, .nil, .bol false, .nil, .nil, .bol false, .nil, .nil], .agg [.var 27, .var 28, .var 29, .var 30, .var 31, .var 32, .var 33, .var 34, .var 35]] [.agg 9] <|
  .call F.vec_Scale [.agg [.var 101, .var 102, .var 103], .agg [.var 104, .var 105, .var 106, .var 107, .var 108, .var 109, .var 110, .var 111, .var 112]] [.agg 9] <|
  .ret [.agg [.var 74, .var 75, .var 76, .var 83, .var 84, .var 85, .var 92, .var 93, .var 94, .var 77, .var 78, .var 79, .var 86, .var 87, .var 88, .var 95, .var 96, .var 97, .var 80, .var 81, .var 82, .var 89, .var 90, .var 91, .var 98, .var 99, .var 100, .var 113, .var 114, .var 115, .var 116, .var 117, .var 118, .var 119, .var 120, .var 121], .one (.bol true)])

def ir_dens_cell : IR :=
 .call F.rat_Sub [.agg [.var 0, .var 1, .var 2], .agg [.var 3, .var 4, .var 5]] [.agg 3] <|
 .call F.dens_over [.agg [.var 10, .var 11, .var 12], .agg [.var 6, .var 7, .var 8]] [.agg 3] <|
 .call F.rat_Floor [.agg [.var 13, .var 14, .var 15]] [.agg 3] <|
 .ite (.var 16) (
  .ret [.one (.int .i64 (0)), .one (.bol false)]) (
  .call F.rat_Of [.one (.var 9), .one (.int .i64 (1))] [.agg 3] <|
  .call F.rat_Cmp [.agg [.var 16, .var 17, .var 18], .agg [.var 19, .var 20, .var 21]] [.one] <|
  .prim (.bin .geq) [.var 22, .int .i64 (0)] <|
  .ite (.var 23) (
   .ret [.one (.int .i64 (0)), .one (.bol false)]) (
   .prim .len [.var 17] <|
   .prim (.bin .eql) [.var 24, .int .i64 (0)] <|
   .ite (.var 25) (
    .ret [.one (.int .i64 (0)), .one (.bol true)]) (
    .prim (.inb 1) [.var 17, .int .i64 (0)] <|
    .prim (.get 1 0) [.var 17, .int .i64 (0)] <|
    .prim (.conv .i64) [.var 27] <|
    .ret [.one (.var 28), .one (.bol true)])))

def ir_dens_Film : IR :=
 .call F.rat_Of [.one (.int .i64 (0)), .one (.int .i64 (1))] [.agg 3] <|
 .prim (.bin .lss) [.var 18, .int .i64 (1)] <|
 .ite (.var 80) (
  .ret [.one (.int .i64 (0)), .agg [.var 77, .var 78, .var 79], .one (.bol false)]) (
  .prim (.bin .gtr) [.var 18, .int .i64 (16)] <|
  .ite (.var 81) (
   .ret [.one (.int .i64 (0)), .agg [.var 77, .var 78, .var 79], .one (.bol false)]) (
   .prim (.bin .lss) [.var 19, .int .i64 (1)] <|
   .ite (.var 82) (
    .ret [.one (.int .i64 (0)), .agg [.var 77, .var 78, .var 79], .one (.bol false)]) (
    .prim (.bin .gtr) [.var 19, .int .i64 (16)] <|
    .ite (.var 83) (
     .ret [.one (.int .i64 (0)), .agg [.var 77, .var 78, .var 79], .one (.bol false)]) (
     .call F.rat_Sign [.agg [.var 20, .var 21, .var 22]] [.one] <|
     .prim (.bin .leq) [.var 84, .int .i64 (0)] <|
     .ite (.var 85) (
      .ret [.one (.int .i64 (0)), .agg [.var 77, .var 78, .var 79], .one (.bol false)]) (
      .call F.dens_seen [.agg [.var 0, .var 1, .var 2, .var 3, .var 4, .var 5, .var 6, .var 7, .var 8, .var 9, .var 10, .var 11, .var 12, .var 13, .var 14, .var 15, .var 16, .var 17], .agg [.var 23, .var 24, .var 25, .var 26, .var 27, .var 28, .var 29, .var 30, .var 31, .var 32, .var 33, .var 34, .var 35, .var 36, .var 37, .var 38, .var 39, .var 40], .agg [.var 41, .var 42, .var 43, .var 44, .var 45, .var 46, .var 47, .var 48, .var 49, .var 50, .var 51, .var 52, .var 53, .var 54, .var 55, .var 56, .var 57, .var 58, .var 59, .var 60, .var 61, .var 62, .var 63, .var 64, .var 65, .var 66, .var 67, .var 68, .var 69, .var 70, .var 71, .var 72, .var 73, .var 74, .var 75, .var 76]] [.agg 42, .one] <|
      .prim .not [.var 128] <|
      .ite (.var 129) (
       .ret [.one (.int .i64 (0)), .agg [.var 77, .var 78, .var 79], .one (.bol false)]) (
       .call F.frame_Slopes [.agg [.var 86, .var 87, .var 88, .var 89, .var 90, .var 91, .var 92, .var 93, .var 94, .var 95, .var 96, .var 97, .var 98, .var 99, .var 100, .var 101, .var 102, .var 103, .var 104, .var 105, .var 106, .var 107, .var 108, .var 109, .var 110, .var 111, .var 112], .agg [.var 113, .var 114, .var 115, .var 116, .var 117, .var 118, .var 119, .var 120, .var 121]] [.agg 3, .agg 3, .agg 3, .one] <|
       .call F.rat_Of [.one (.int .i64 (2)), .one (.var 18)] [.agg 3] <|
       .prim (.mk 2) [.var 140, .var 141, .var 142, .var 20, .var 21, .var 22] <|
       .call F.rat_Product [.one (.var 143)] [.agg 3] <|
       .call F.rat_Of [.one (.int .i64 (2)), .one (.var 19)] [.agg 3] <|
       .prim (.mk 2) [.var 147, .var 148, .var 149, .var 20, .var 21, .var 22] <|
       .call F.rat_Product [.one (.var 150)] [.agg 3] <|
       .call F.rat_Neg [.agg [.var 20, .var 21, .var 22]] [.agg 3] <|
       .call F.dens_cell [.agg [.var 130, .var 131, .var 132], .agg [.var 154, .var 155, .var 156], .agg [.var 144, .var 145, .var 146], .one (.var 18)] [.one, .one] <|
       .call F.rat_Neg [.agg [.var 20, .var 21, .var 22]] [.agg 3] <|
       .call F.dens_cell [.agg [.var 133, .var 134, .var 135], .agg [.var 159, .var 160, .var 161], .agg [.var 151, .var 152, .var 153], .one (.var 19)] [.one, .one] <|
       .prim .not [.var 158] <|
       .ite (.var 164) (
        .ret [.one (.int .i64 (0)), .agg [.var 77, .var 78, .var 79], .one (.bol false)]) (
        .prim .not [.var 163] <|
        .ite (.var 165) (
         .ret [.one (.int .i64 (0)), .agg [.var 77, .var 78, .var 79], .one (.bol false)]) (
         .prim (.bin .mul) [.var 162, .var 18] <|
         .prim (.bin .add) [.var 166, .var 157] <|
         .call F.dens_cube [.agg [.var 122, .var 123, .var 124]] [.agg 3] <|
         .prim (.mk 3) [.var 168, .var 169, .var 170, .var 144, .var 145, .var 146, .var 151, .var 152, .var 153] <|
         .call F.rat_Product [.one (.var 171)] [.agg 3] <|
         .call F.dens_over [.agg [.var 125, .var 126, .var 127], .agg [.var 172, .var 173, .var 174]] [.agg 3] <|
         .ret [.one (.var 167), .agg [.var 175, .var 176, .var 177], .one (.bol true)]))))))))

theorem tree_affine_Inverse : symFunc Go.Proofs.Tryz.prog H0 400 F.affine_Inverse [.agg 36] = some ir_affine_Inverse := by kernel_rfl
theorem tree_dens_cell : symFunc Go.Proofs.Tryz.prog H0 400 F.dens_cell [.agg 3, .agg 3, .agg 3, .one] = some ir_dens_cell := by kernel_rfl
theorem tree_dens_Film : symFunc Go.Proofs.Tryz.prog H0 400 F.dens_Film [.agg 23, .agg 18, .agg 36] = some ir_dens_Film := by kernel_rfl
end Go.Px
namespace Go.Px.Na
open Go.RowKit
open Go.Proofs.Tryz (prog)
section
variable {L M : Nat} {m : RM} {u : M4}
theorem f_affine_Inverse_t (c : ¬u.det = 0) (h : NM L m u) (hl : L ≤ 40000000) : PureCalls prog F.affine_Inverse [.agg (gW m.l)] [.agg (gD (inv u).l), .one (.bool true)] := by
  replace h := h.mono hl
  refine symFunc_sound hmix tree_affine_Inverse (by kernel_rfl) rfl ?_
  unfold ir_affine_Inverse
  simp only [JJ]
  refine cs1 (n_rat_Of (k0 := (1)) (1) (1) (by decide) (by decide) (by decide) (by decide) (by decide +kernel)) ?_
  simp only [JJ]
  have m1 : Num 1 (cr (1)) (1) := Num.of Sm1
  refine call_step (f_affine_Det h (by decide)) rfl ?_
  simp only [JJ]
  have m2 := Num.of (SM.det h.sm)
  refine call_step (f_rat_Div m1 m2 (by decide)) rfl ?_
  simp only [JJ]
  have m3 := Num.of (Sm.div m1.sm m2.sm)
  refine primS (.bool (!_)) rfl ?_
  refine itN rfl (fun i1 => ?_) (fun i1 => ?_)
  · refine call_step (f_affine_Identity) rfl ?_
    simp only [JJ]
    have m4 := NM.of (Sidm)
    first | exact absurd i1 (Classical.not_not.2 c) | exact absurd i1 c | exact ret_step rfl
  · refine call_step (f_affine_cofactors h (by decide)) rfl ?_
    simp only [JJ]
    have m4 := NF.of (SM.cof h.sm)
    refine call_step (f_vec_Scale m3 m4.A (by decide)) rfl ?_
    simp only [JJ]
    have m5 := NV.of (SV.smul m3.sm m4.A.sm)
    refine call_step (f_vec_Scale m3 m4.B (by decide)) rfl ?_
    simp only [JJ]
    have m6 := NV.of (SV.smul m3.sm m4.B.sm)
    refine call_step (f_vec_Scale m3 m4.N (by decide)) rfl ?_
    simp only [JJ]
    have m7 := NV.of (SV.smul m3.sm m4.N.sm)
    refine cs1 (n_rat_Of (k0 := (-1)) (-1) (1) (by decide) (by decide) (by decide) (by decide) (by decide +kernel)) ?_
    simp only [JJ]
    have m8 : Num 1 (cr (-1)) (-1) := Num.of Smm1
    refine call_step (f_affine_Turn (NM.mk4 ((NV.mk3 (m5.x.mono (by decide)) (m6.x.mono (by decide)) (m7.x.mono (by decide)) : NV 900000000 _ _).mono (by decide)) ((NV.mk3 (m5.y.mono (by decide)) (m6.y.mono (by decide)) (m7.y.mono (by decide)) : NV 900000000 _ _).mono (by decide)) ((NV.mk3 (m5.z.mono (by decide)) (m6.z.mono (by decide)) (m7.z.mono (by decide)) : NV 900000000 _ _).mono (by decide)) ((NV.mk3 (Num.z0.mono (by decide)) (Num.z0.mono (by decide)) (Num.z0.mono (by decide)) : NV 900000000 _ _).mono (by decide)) : NM 900000000 _ _) h.W (by decide)) rfl ?_
    simp only [JJ]
    have m9 := NV.of (SM.turn (NM.mk4 ((NV.mk3 (m5.x.mono (by decide)) (m6.x.mono (by decide)) (m7.x.mono (by decide)) : NV 900000000 _ _).mono (by decide)) ((NV.mk3 (m5.y.mono (by decide)) (m6.y.mono (by decide)) (m7.y.mono (by decide)) : NV 900000000 _ _).mono (by decide)) ((NV.mk3 (m5.z.mono (by decide)) (m6.z.mono (by decide)) (m7.z.mono (by decide)) : NV 900000000 _ _).mono (by decide)) ((NV.mk3 (Num.z0.mono (by decide)) (Num.z0.mono (by decide)) (Num.z0.mono (by decide)) : NV 900000000 _ _).mono (by decide)) : NM 900000000 _ _).sm h.W.sm)
    refine call_step (f_vec_Scale m8 m9 (by decide)) rfl ?_
    simp only [JJ]
    have m10 := NV.of (SV.smul m8.sm m9.sm)
    first | exact absurd i1 (Classical.not_not.2 c) | exact absurd i1 c | exact ret_step rfl
theorem f_affine_Inverse_n (c : u.det = 0) (h : NM L m u) (hl : L ≤ 40000000) : PureCalls prog F.affine_Inverse [.agg (gW m.l)] [.agg (gD idm.l), .one (.bool false)] := by
  replace h := h.mono hl
  refine symFunc_sound hmix tree_affine_Inverse (by kernel_rfl) rfl ?_
  unfold ir_affine_Inverse
  simp only [JJ]
  refine cs1 (n_rat_Of (k0 := (1)) (1) (1) (by decide) (by decide) (by decide) (by decide) (by decide +kernel)) ?_
  simp only [JJ]
  have m1 : Num 1 (cr (1)) (1) := Num.of Sm1
  refine call_step (f_affine_Det h (by decide)) rfl ?_
  simp only [JJ]
  have m2 := Num.of (SM.det h.sm)
  refine call_step (f_rat_Div m1 m2 (by decide)) rfl ?_
  simp only [JJ]
  have m3 := Num.of (Sm.div m1.sm m2.sm)
  refine primS (.bool (!_)) rfl ?_
  refine itN rfl (fun i1 => ?_) (fun i1 => ?_)
  · refine call_step (f_affine_Identity) rfl ?_
    simp only [JJ]
    have m4 := NM.of (Sidm)
    first | exact absurd c i1 | exact absurd (Classical.not_not.1 i1) (fun z => z c) | exact ret_step rfl
  · refine call_step (f_affine_cofactors h (by decide)) rfl ?_
    simp only [JJ]
    have m4 := NF.of (SM.cof h.sm)
    refine call_step (f_vec_Scale m3 m4.A (by decide)) rfl ?_
    simp only [JJ]
    have m5 := NV.of (SV.smul m3.sm m4.A.sm)
    refine call_step (f_vec_Scale m3 m4.B (by decide)) rfl ?_
    simp only [JJ]
    have m6 := NV.of (SV.smul m3.sm m4.B.sm)
    refine call_step (f_vec_Scale m3 m4.N (by decide)) rfl ?_
    simp only [JJ]
    have m7 := NV.of (SV.smul m3.sm m4.N.sm)
    refine cs1 (n_rat_Of (k0 := (-1)) (-1) (1) (by decide) (by decide) (by decide) (by decide) (by decide +kernel)) ?_
    simp only [JJ]
    have m8 : Num 1 (cr (-1)) (-1) := Num.of Smm1
    refine call_step (f_affine_Turn (NM.mk4 ((NV.mk3 (m5.x.mono (by decide)) (m6.x.mono (by decide)) (m7.x.mono (by decide)) : NV 900000000 _ _).mono (by decide)) ((NV.mk3 (m5.y.mono (by decide)) (m6.y.mono (by decide)) (m7.y.mono (by decide)) : NV 900000000 _ _).mono (by decide)) ((NV.mk3 (m5.z.mono (by decide)) (m6.z.mono (by decide)) (m7.z.mono (by decide)) : NV 900000000 _ _).mono (by decide)) ((NV.mk3 (Num.z0.mono (by decide)) (Num.z0.mono (by decide)) (Num.z0.mono (by decide)) : NV 900000000 _ _).mono (by decide)) : NM 900000000 _ _) h.W (by decide)) rfl ?_
    simp only [JJ]
    have m9 := NV.of (SM.turn (NM.mk4 ((NV.mk3 (m5.x.mono (by decide)) (m6.x.mono (by decide)) (m7.x.mono (by decide)) : NV 900000000 _ _).mono (by decide)) ((NV.mk3 (m5.y.mono (by decide)) (m6.y.mono (by decide)) (m7.y.mono (by decide)) : NV 900000000 _ _).mono (by decide)) ((NV.mk3 (m5.z.mono (by decide)) (m6.z.mono (by decide)) (m7.z.mono (by decide)) : NV 900000000 _ _).mono (by decide)) ((NV.mk3 (Num.z0.mono (by decide)) (Num.z0.mono (by decide)) (Num.z0.mono (by decide)) : NV 900000000 _ _).mono (by decide)) : NM 900000000 _ _).sm h.W.sm)
    refine call_step (f_vec_Scale m8 m9 (by decide)) rfl ?_
    simp only [JJ]
    have m10 := NV.of (SV.smul m8.sm m9.sm)
    first | exact absurd c i1 | exact absurd (Classical.not_not.1 i1) (fun z => z c) | exact ret_step rfl

theorem gnum0 (f : Int) : ((f : Rat)).num = f := rfl
theorem gden0 (f : Int) : ((f : Rat)).den = 1 := rfl
/-- In which of some cells of a width, from a place on, a number lies. -/
def cel (x f w : Rat) : Int := ((x - f) / w).floor
variable {L2 : Nat} {r0 r1 r2 : RR} {x f w : Rat} {n : Int}
theorem f_dens_cell (h0 : Num L r0 x) (h1 : Num M r1 f) (h2 : Num L2 r2 w) (hn : 1 ≤ n ∧ n ≤ 16) (hl : L ≤ 50000000000 ∧ M ≤ 50000000000 ∧ L2 ≤ 50000000000) : PureCalls prog F.dens_cell [.agg (gW [r0]), .agg (gW [r1]), .agg (gW [r2]), .one (.int .i64 n)]
    [.one (.int .i64 (if 0 ≤ cel x f w ∧ cel x f w < n then cel x f w else 0)), .one (.bool (decide (0 ≤ cel x f w ∧ cel x f w < n)))] := by
  replace h0 := h0.mono hl.1
  replace h1 := h1.mono hl.2.1
  replace h2 := h2.mono hl.2.2
  refine symFunc_sound hmix tree_dens_cell (by kernel_rfl) rfl ?_
  unfold ir_dens_cell
  simp only [JJ]
  refine call_step (f_rat_Sub h0 h1 (by decide)) rfl ?_
  simp only [JJ]
  have m1 := Num.of (Sm.sub h0.sm h1.sm)
  refine call_step (f_dens_over m1 h2 (by decide)) rfl ?_
  simp only [JJ]
  have m2 := Num.of (Sm.div m1.sm h2.sm)
  refine call_step (f_rat_Floor m2 (by decide)) rfl ?_
  have m3 := Num.of m2.sm.floor
  simp only [JJ]
  simp only [gnum0, gden0]
  rw [show ((x - f) / w).floor = cel x f w from rfl] at m3 ⊢
  generalize cel x f w = c at m3 ⊢
  refine itD rfl (fun c1 => ?_) (fun c1 => ?_)
  · refine ret_step ?_
    rw [if_neg (show ¬(0 ≤ c ∧ c < n) from by omega), decide_eq_false (show ¬(0 ≤ c ∧ c < n) from by omega)]; rfl
  have mn : Num 1 (cr (n : Rat)) (n : Rat) := Num.of (Sm_int (by omega) (by decide))
  refine cs1 (n_rat_Of (k0 := (n : Rat)) n 1 (by omega) (by omega) (by decide) (by decide) (ofQ_1 _).symm) ?_
  simp only [JJ]
  refine call_step (n_rat_Cmp (m3.mono (by decide)) (mn.mono (by decide))) rfl ?_
  simp only [JJ]
  refine primS (.bool (decide (n ≤ c))) (d_geq.trans (by
    rw [show decide ((0 : Int) ≤ cmpQ (c : Rat) (n : Rat)) = decide (n ≤ c) from decide_eq_decide.2 (by
      have h := cq_lt (x := (c : Rat)) (y := (n : Rat))
      rw [Rat.intCast_lt_intCast] at h
      omega)])) ?_
  refine itD rfl (fun c2 => ?_) (fun c2 => ?_)
  · refine ret_step ?_
    rw [if_neg (show ¬(0 ≤ c ∧ c < n) from by omega), decide_eq_false (show ¬(0 ≤ c ∧ c < n) from by omega)]; rfl
  rw [if_pos ⟨by omega, by omega⟩, decide_eq_true (show 0 ≤ c ∧ c < n from ⟨by omega, by omega⟩)]
  by_cases hc : c = 0
  · subst hc
    refine primS (.int .i64 0) (by show some (DV.int .i64 (((limbs 0).length : Nat) : Int)) = _; rw [limbs_zero]; rfl) ?_
    refine primS (.bool true) (d_eql.trans rfl) ?_
    refine itT rfl ?_
    exact ret_step rfl
  · have hl1 : limbs c.natAbs = [c.natAbs] := by rw [limbs_pos (by omega), Nat.mod_eq_of_lt (by omega), Nat.div_eq_of_lt (by omega), limbs_zero]
    rw [show nn c.natAbs = nl [c.natAbs] from congrArg nl hl1]
    refine primS (.int .i64 1) rfl ?_
    refine primS (.bool false) (d_eql.trans rfl) ?_
    refine itF rfl ?_
    refine primS (.bool true) (den_inb (by omega) (by simp)) ?_
    refine primS (.int .u32 (c.natAbs : Int)) (den_get (by omega) (by simp)) ?_
    refine primS (.int .i64 c) ((d_convi (by omega) (by omega)).trans (by rw [show ((c.natAbs : Nat) : Int) = c by omega])) ?_
    exact ret_step rfl

/-- A camera. -/
structure Cam where
  eye : V3
  look : V3
  w : Int
  h : Int
  half : Rat
def Cam.sp (c : Cam) : Sp := ⟨c.eye, c.look⟩
def Cam.px (c : Cam) : Rat := 2 / (c.w : Rat) * c.half
def Cam.py (c : Cam) : Rat := 2 / (c.h : Rat) * c.half
def Cam.ci (c : Cam) (y : Sp) (u : M4) : Int := cel (sA c.sp y u) (-c.half) c.px
def Cam.cj (c : Cam) (y : Sp) (u : M4) : Int := cel (sB c.sp y u) (-c.half) c.py
/-- Is a spot seen on a pixel? -/
def Cam.on (c : Cam) (y : Sp) (u : M4) : Prop := ((1 ≤ c.w ∧ c.w ≤ 16) ∧ (1 ≤ c.h ∧ c.h ≤ 16)) ∧ 0 < c.half ∧ seen c.sp y u ∧ (0 ≤ c.ci y u ∧ c.ci y u < c.w) ∧ (0 ≤ c.cj y u ∧ c.cj y u < c.h)
instance (c : Cam) (y : Sp) (u : M4) : Decidable (c.on y u) := inferInstanceAs (Decidable (_ ∧ _ ∧ _ ∧ _ ∧ _))
def Cam.val (c : Cam) (y : Sp) (u : M4) : Rat := if c.on y u then (wc c.sp y u).abs / (wz c.sp y u * wz c.sp y u * wz c.sp y u * c.px * c.py) else 0
def Cam.idx (c : Cam) (y : Sp) (u : M4) : Int := if c.on y u then c.cj y u * c.w + c.ci y u else 0
theorem Sm_2n {n : Int} (h : 1 ≤ n ∧ n ≤ 16) : Sm 2 (2 / (n : Rat)) := Sm2.div (Sm_int (n := n) (L := 1) (by omega) (by decide))
theorem Cam.Sval {c : Cam} {y : Sp} {L M K : Nat} (he : SV L c.eye) (hk : SV L c.look) (hh : Sm K c.half) (hy : SS L y) (hu : SM M u) : Sm (66 * L + 84 * M + 2 * K + 75) (c.val y u) := by
  have hs : SS L c.sp := ⟨he, hk⟩
  have z := hs.wz hy hu
  unfold Cam.val
  split
  · rename_i ho
    have p := (Sm_2n ho.1.1).mul hh
    have q := (Sm_2n ho.1.2).mul hh
    exact ((hs.wc hy hu).abs.div ((((z.mul z).mul z).mul p).mul q)).mono (by omega)
  · exact Sm0.mono (by omega)
/-- A camera as it lies. -/
structure RCam where
  eye : RV
  look : RV
  w : Int
  h : Int
  half : RR
def RCam.c (r : RCam) : List DV := gW [r.eye.x, r.eye.y, r.eye.z, r.look.x, r.look.y, r.look.z] ++ [.int .i64 r.w, .int .i64 r.h] ++ gW [r.half]
structure NCam (L : Nat) (r : RCam) (c : Cam) : Prop where
  eye : NV L r.eye c.eye
  look : NV L r.look c.look
  w : r.w = c.w
  h : r.h = c.h
  half : Num L r.half c.half
theorem f_dens_Film {K : Nat} {b : RS} {q : Sp} {rc : RCam} {c : Cam} (h : NCam K rc c) (g : NS L b q) (k : NM M m u) (hl : K ≤ 100000000 ∧ L ≤ 100000000 ∧ M ≤ 100000000) :
    PureCalls prog F.dens_Film [.agg rc.c, .agg (gW b.l), .agg (gW m.l)] [.one (.int .i64 (c.idx q u)), .agg (gD [c.val q u]), .one (.bool (decide (c.on q u)))] := by
  obtain ⟨he, hk, hw, hh, hf⟩ := h
  replace he := he.mono hl.1
  replace hk := hk.mono hl.1
  replace hf := hf.mono hl.1
  replace g := g.mono hl.2.1
  replace k := k.mono hl.2.2
  have hsp : NS 100000000 ⟨rc.eye, rc.look⟩ c.sp := ⟨he, hk⟩
  refine symFunc_sound hmix tree_dens_Film (by kernel_rfl) rfl ?_
  unfold ir_dens_Film
  simp only [RCam.c]
  simp only [JJ]
  rw [hw, hh]
  have m0 : Num 1 (cr 0) 0 := Num.of Sm0
  refine cs1 (n_rat_Of (k0 := 0) 0 1 (by decide) (by decide) (by decide) (by decide) (by decide +kernel)) ?_
  simp only [JJ]
  have no : ∀ {As : List (List DV → Prop)} {ρ : List DV} {v : List Px.A} {t : Px.A}, ¬c.on q u → (v.map (Px.A.ev ρ)) = gD [0] → IRwp prog As ρ (.ret [.one (.int .i64 0), .agg v, .one (.bol false)]) (fun x => x = [AV.one (.int .i64 (c.idx q u)), .agg (gD [c.val q u]), .one (.bool (decide (c.on q u)))]) := fun {_ _ _ _} hn hv => ret_step (by
    rw [show c.idx q u = 0 from if_neg hn, show c.val q u = 0 from if_neg hn, decide_eq_false hn]
    simp only [List.map_cons, List.map_nil, Arg.ev, hv]; rfl)
  refine primS (.bool (decide _)) d_lss ?_
  refine itD rfl (fun c1 => ?_) (fun c1 => ?_)
  · exact no (t := .nil) (fun z => by have := z.1.1.1; omega) rfl
  refine primS (.bool (decide _)) d_gtr ?_
  refine itD rfl (fun c2 => ?_) (fun c2 => ?_)
  · exact no (t := .nil) (fun z => by have := z.1.1.2; omega) rfl
  refine primS (.bool (decide _)) d_lss ?_
  refine itD rfl (fun c3 => ?_) (fun c3 => ?_)
  · exact no (t := .nil) (fun z => by have := z.1.2.1; omega) rfl
  refine primS (.bool (decide _)) d_gtr ?_
  refine itD rfl (fun c4 => ?_) (fun c4 => ?_)
  · exact no (t := .nil) (fun z => by have := z.1.2.2; omega) rfl
  have hW : 1 ≤ c.w ∧ c.w ≤ 16 := ⟨by omega, by omega⟩
  have hH : 1 ≤ c.h ∧ c.h ≤ 16 := ⟨by omega, by omega⟩
  refine call_step (f_rat_Sign hf (by decide)) rfl ?_
  simp only [JJ]
  refine primS (.bool (decide _)) pr_le ?_
  refine itD rfl (fun c5 => ?_) (fun c5 => ?_)
  · exact no (t := .nil) (fun z => absurd z.2.1 (Rat.not_lt.2 c5)) rfl
  by_cases hu : ¬units c.sp q
  · refine call_step (f_dens_seen_n hu hsp g k (by decide)) rfl ?_
    simp only [JJ]
    refine primS (.bool true) rfl ?_
    refine itT rfl ?_
    exact no (t := .nil) (fun z => hu z.2.2.1.1) rfl
  replace hu := Classical.not_not.1 hu
  refine call_step (f_dens_seen_t hu hsp g k (by decide)) rfl ?_
  simp only [V3.l, Fr.l, List.cons_append, List.nil_append]
  simp only [JJ]
  have n1 := NF.of (SV.frm hsp.N.sm)
  have n2 := NV.of (SS.way hsp.sm g.sm k.sm)
  have n3 := Num.of (SS.wz hsp.sm g.sm k.sm)
  have n4 := Num.of (Sm.abs (SS.wc hsp.sm g.sm k.sm))
  refine primS (.bool (!_)) rfl ?_
  refine itN rfl (fun c6 => ?_) (fun c6 => ?_)
  · exact no (t := .nil) (fun z => c6 z.2.2.1.2) rfl
  refine call_step (f_frame_Slopes n1 n2 (by decide)) rfl ?_
  simp only [JJ]
  have nA := Num.of (SF.slA n1.sm n2.sm)
  have nB := Num.of (SF.slB n1.sm n2.sm)
  have e2n : ∀ z : Int, ofQ 2 z = 2 / (z : Rat) := fun z => rfl
  have nw : Num 2 (cr (2 / (c.w : Rat))) (2 / (c.w : Rat)) := Num.of (Sm_2n hW)
  have nh : Num 2 (cr (2 / (c.h : Rat))) (2 / (c.h : Rat)) := Num.of (Sm_2n hH)
  refine cs1 (n_rat_Of (k0 := 2 / (c.w : Rat)) 2 c.w (by decide) (by decide) (by omega) (by omega) (e2n _).symm) ?_
  simp only [JJ]
  refine primS (rlN2 nw hf) rfl ?_
  refine cs1 (n_rat_Product_2 (nw.mono (by decide)) (hf.mono (by decide)) rfl) ?_
  simp only [JJ]
  have np := Num.of (Sm.mul nw.sm hf.sm)
  refine cs1 (n_rat_Of (k0 := 2 / (c.h : Rat)) 2 c.h (by decide) (by decide) (by omega) (by omega) (e2n _).symm) ?_
  simp only [JJ]
  refine primS (rlN2 nh hf) rfl ?_
  refine cs1 (n_rat_Product_2 (nh.mono (by decide)) (hf.mono (by decide)) rfl) ?_
  simp only [JJ]
  have nq := Num.of (Sm.mul nh.sm hf.sm)
  refine call_step (f_rat_Neg hf (by decide)) rfl ?_
  simp only [JJ]
  have nn0 := Num.of (Sm.neg hf.sm)
  refine call_step (f_dens_cell nA nn0 np hW (by decide)) rfl ?_
  rw [show cel ((way c.sp q u).dot (frm c.sp.N).A / (way c.sp q u).dot (frm c.sp.N).N) (-c.half) (2 / (c.w : Rat) * c.half) = c.ci q u from rfl]
  simp only [JJ]
  refine call_step (f_rat_Neg hf (by decide)) rfl ?_
  simp only [JJ]
  refine call_step (f_dens_cell nB nn0 nq hH (by decide)) rfl ?_
  rw [show cel ((way c.sp q u).dot (frm c.sp.N).B / (way c.sp q u).dot (frm c.sp.N).N) (-c.half) (2 / (c.h : Rat) * c.half) = c.cj q u from rfl]
  simp only [JJ]
  refine primS (.bool (!_)) rfl ?_
  refine itN rfl (fun c7 => ?_) (fun c7 => ?_)
  · exact no (t := .nil) (fun z => c7 z.2.2.2.1) rfl
  refine primS (.bool (!_)) rfl ?_
  refine itN rfl (fun c8 => ?_) (fun c8 => ?_)
  · exact no (t := .nil) (fun z => c8 z.2.2.2.2) rfl
  rw [if_pos c7, if_pos c8]
  have ho : c.on q u := ⟨⟨hW, hH⟩, Rat.not_le.1 c5, ⟨hu, c6⟩, c7, c8⟩
  rw [show c.idx q u = c.cj q u * c.w + c.ci q u from if_pos ho, show c.val q u = (wc c.sp q u).abs / (wz c.sp q u * wz c.sp q u * wz c.sp q u * c.px * c.py) from if_pos ho, decide_eq_true ho]
  have b1 : c.cj q u * c.w ≤ 16 * 16 := Int.le_trans (Int.mul_le_mul_of_nonneg_right (show c.cj q u ≤ 16 by omega) (by omega)) (Int.mul_le_mul_of_nonneg_left hW.2 (by decide))
  have b2 : 0 ≤ c.cj q u * c.w := Int.mul_nonneg c8.1 (by omega)
  refine primS (.int .i64 (c.cj q u * c.w)) (d_mul64 (by omega) (by omega)) ?_
  refine primS (.int .i64 (c.cj q u * c.w + c.ci q u)) (d_add64 (by omega) (by omega)) ?_
  refine call_step (f_dens_cube n3 (by decide)) rfl ?_
  simp only [JJ]
  have n5 := Num.of ((n3.sm.mul n3.sm).mul n3.sm)
  refine primS (rlN3 n5 np nq) rfl ?_
  refine cs1 (n_rat_Product_3 (n5.mono (by decide)) (np.mono (by decide)) (nq.mono (by decide)) rfl) ?_
  simp only [JJ]
  have n6 := Num.of (Sm.mul (Sm.mul n5.sm np.sm) nq.sm)
  refine call_step (f_dens_over n4 n6 (by decide)) rfl ?_
  simp only [JJ]
  exact ret_step rfl
end
end Go.Px.Na

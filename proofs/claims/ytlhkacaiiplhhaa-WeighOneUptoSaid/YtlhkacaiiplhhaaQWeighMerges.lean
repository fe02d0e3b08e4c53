/- QWeighMerges: with no photons no way to merge counts; with twice as many each counts twice as much. -/
import Derived.Test.YtlhkacaiiplhhaaFy
set_option maxRecDepth 20000
set_option maxHeartbeats 40000000
set_option linter.unusedVariables false
set_option linter.unusedSimpArgs false
namespace Go.Px
open Go.RowKit
def ir_penumbralaw18_WeighMerges : IR :=
 .call F.rat_Of [.one (.int .i64 (0)), .one (.int .i64 (1))] [.agg 3] <|
 .prim (.mk 2) [.var 68, .var 69, .var 70, .var 68, .var 69, .var 70] <|
 .call F.rat_Sum [.one (.var 74)] [.agg 3] <|
 .call F.weigh_Densities [.agg [.var 0, .var 1, .var 2, .var 3, .var 4, .var 5, .var 6, .var 7, .var 8, .var 9, .var 10, .var 11, .var 12, .var 13, .var 14, .var 15, .var 16, .var 17, .var 18, .var 19, .var 20, .var 21, .var 22, .var 23, .var 24, .var 25, .var 26, .var 27, .var 28, .var 29, .var 30, .var 31, .var 32, .var 33, .var 34, .var 35, .var 36, .var 37, .var 38, .var 39, .var 40, .var 41, .var 42, .var 43, .var 44, .var 45, .var 46, .var 47, .var 48, .var 49, .var 50, .var 51, .var 52, .var 53, .var 54, .var 55, .var 56, .var 57, .var 58, .var 59, .var 60, .var 61, .var 62, .var 63, .var 64, .var 65, .var 66, .var 67, .var 68, .var 69, .var 70]] [.one, .one] <|
 .call F.weigh_Densities [.agg [.var 0, .var 1, .var 2, .var 3, .var 4, .var 5, .var 6, .var 7, .var 8, .var 9, .var 10, .var 11, .var 12, .var 13, .var 14, .var 15, .var 16, .var 17, .var 18, .var 19, .var 20, .var 21, .var 22, .var 23, .var 24, .var 25, .var 26, .var 27, .var 28, .var 29, .var 30, .var 31, .var 32, .var 33, .var 34, .var 35, .var 36, .var 37, .var 38, .var 39, .var 40, .var 41, .var 42, .var 43, .var 44, .var 45, .var 46, .var 47, .var 48, .var 49, .var 50, .var 51, .var 52, .var 53, .var 54, .var 55, .var 56, .var 57, .var 58, .var 59, .var 60, .var 61, .var 62, .var 63, .var 64, .var 65, .var 66, .var 67, .var 71, .var 72, .var 73]] [.one, .one] <|
 .call F.weigh_Densities [.agg [.var 0, .var 1, .var 2, .var 3, .var 4, .var 5, .var 6, .var 7, .var 8, .var 9, .var 10, .var 11, .var 12, .var 13, .var 14, .var 15, .var 16, .var 17, .var 18, .var 19, .var 20, .var 21, .var 22, .var 23, .var 24, .var 25, .var 26, .var 27, .var 28, .var 29, .var 30, .var 31, .var 32, .var 33, .var 34, .var 35, .var 36, .var 37, .var 38, .var 39, .var 40, .var 41, .var 42, .var 43, .var 44, .var 45, .var 46, .var 47, .var 48, .var 49, .var 50, .var 51, .var 52, .var 53, .var 54, .var 55, .var 56, .var 57, .var 58, .var 59, .var 60, .var 61, .var 62, .var 63, .var 64, .var 65, .var 66, .var 67, .var 75, .var 76, .var 77]] [.one, .one] <|
 .call F.penumbralaw18_fixed [] [.one] <|
 .prim .not [.var 84] <|
 .ite (.var 85) (
  .ret [.one (.bol false)]) (
  .call F.penumbraref09_Same [.one (.var 78), .one (.var 80)] [.one] <|
  .prim .not [.var 86] <|
  .ite (.var 87) (
   .ret [.one (.bol false)]) (
   .call F.penumbraref09_Same [.one (.var 78), .one (.var 82)] [.one] <|
   .prim .not [.var 88] <|
   .ite (.var 89) (
    .ret [.one (.bol false)]) (
    .prim .len [.var 81] <|
    .prim .len [.var 79] <|
    .prim (.bin .neq) [.var 90, .var 91] <|
    .ite (.var 92) (
     .ret [.one (.bol false)]) (
     .prim .len [.var 83] <|
     .prim .len [.var 79] <|
     .prim (.bin .neq) [.var 93, .var 94] <|
     .ite (.var 95) (
      .ret [.one (.bol false)]) (
      .loop [.var 79, .var 81, .var 83, .int .i64 (0)] (
       .prim .len [.var 0] <|
       .prim (.bin .lss) [.var 3, .var 4] <|
       .ite (.var 5) (
        .prim (.inb 3) [.var 1, .var 3] <|
        .prim (.get 3 0) [.var 1, .var 3] <|
        .prim (.get 3 1) [.var 1, .var 3] <|
        .prim (.get 3 2) [.var 1, .var 3] <|
        .call F.rat_Sign [.agg [.var 7, .var 8, .var 9]] [.one] <|
        .prim (.bin .neq) [.var 10, .int .i64 (0)] <|
        .ite (.var 11) (
         .ret [.one (.bol false)]) (
         .prim (.inb 3) [.var 2, .var 3] <|
         .prim (.get 3 0) [.var 2, .var 3] <|
         .prim (.get 3 1) [.var 2, .var 3] <|
         .prim (.get 3 2) [.var 2, .var 3] <|
         .prim (.inb 3) [.var 0, .var 3] <|
         .prim (.get 3 0) [.var 0, .var 3] <|
         .prim (.get 3 1) [.var 0, .var 3] <|
         .prim (.get 3 2) [.var 0, .var 3] <|
         .prim (.inb 3) [.var 0, .var 3] <|
         .prim (.get 3 0) [.var 0, .var 3] <|
         .prim (.get 3 1) [.var 0, .var 3] <|
         .prim (.get 3 2) [.var 0, .var 3] <|
         .prim (.mk 2) [.var 17, .var 18, .var 19, .var 21, .var 22, .var 23] <|
         .call F.rat_Sum [.one (.var 24)] [.agg 3] <|
         .call F.penumbraref03_Is [.agg [.var 13, .var 14, .var 15], .agg [.var 25, .var 26, .var 27]] [.one] <|
         .prim .not [.var 28] <|
         .ite (.var 29) (
          .ret [.one (.bol false)]) (
          .prim (.bin .add) [.var 3, .int .i64 (1)] <|
          .jump 0 [.var 0, .var 1, .var 2, .var 30]))) (
        .ret [.one (.bol true)])))))))

theorem tree_penumbralaw18_WeighMerges : symFunc Go.Proofs.Try.prog ⟨fun f => [58].contains f, fun f i => if f = 5 ∧ i = 10 then [⟨[(6, .s (.one (.at (.var 0)))), (8, .s (.one (.at (.var 1)))), (10, .s (.one (.at (.var 2)))), (11, .s (.one (.at (.var 3))))], [], [], 0, 4⟩] else [], fun f i => [], fun f => [60, 61, 64, 65].contains f⟩ 400 F.penumbralaw18_WeighMerges [.agg 71] = some ir_penumbralaw18_WeighMerges := by kernel_rfl
end Go.Px
namespace Go.Px.Na
open Go.RowKit
open Go.Proofs.Try (prog)
/-- A path with as many photons. -/
def Pa.wm (p : Pa) (m : Rat) : Pa := { p with merge := m }
section
variable {r : RP} {p : Pa} {m : Rat}
theorem wm_a : ∀ i, (p.wm m).a i = p.a i
  | 0 => rfl
  | 1 => rfl
  | i + 2 => by rw [Pa.a, Pa.a, wm_a (i + 1)]; rfl
theorem wm_z : ∀ i, (p.wm m).z i = p.z i
  | 0 => rfl
  | 1 => rfl
  | i + 2 => by rw [Pa.z, Pa.z, wm_z (i + 1)]; rfl
theorem wm_b (i : Nat) : (p.wm m).b i = p.b i := wm_z _
theorem wm_q (i : Nat) : (p.wm m).q i = p.q i := by
  rw [Pa.q, Pa.q, wm_a, wm_b, wm_b, wm_a]; rfl
theorem wm_J : (p.wm m).J = p.J := by
  unfold Pa.J
  rw [show (p.wm m).q = p.q from funext wm_q]; rfl
theorem wm_M0 : (p.wm 0).M = p.M.map fun _ => 0 := by
  unfold Pa.M
  by_cases h : p.may
  · rw [if_pos h, if_pos (show (p.wm 0).may from h), List.map_map]
    refine List.map_congr_left fun i _ => ?_
    show 0 * (p.wm 0).a _ * (p.wm 0).b _ = 0
    rw [Rat.zero_mul, Rat.zero_mul]
  · rw [if_neg h, if_neg (show ¬(p.wm 0).may from h)]; rfl
theorem wm_M2 : (p.wm (p.merge + p.merge)).M = p.M.map fun x => x + x := by
  unfold Pa.M
  by_cases h : p.may
  · rw [if_pos h, if_pos (show (p.wm (p.merge + p.merge)).may from h), List.map_map]
    refine List.map_congr_left fun i _ => ?_
    show (p.merge + p.merge) * (p.wm _).a _ * (p.wm _).b _ = p.merge * p.a _ * p.b _ + p.merge * p.a _ * p.b _
    rw [wm_a, wm_b, Rat.add_mul, Rat.add_mul]
  · rw [if_neg h, if_neg (show ¬(p.wm (p.merge + p.merge)).may from h)]; rfl
theorem SPa.q (h : SPa 1048576 p) (hn : p.n ≤ 16) (hw : (1 ≤ p.cam.w ∧ p.cam.w ≤ 16) ∧ (1 ≤ p.cam.h ∧ p.cam.h ≤ 16)) (i : Nat) : Sm 402000000000 (p.q i) := by
  unfold Pa.q
  split
  · exact (h.b hn 0).mono (by decide)
  · split
    · rename_i c; exact ((h.a' (i := i) (by omega)).mul (h.b hn i)).mono (by decide)
    · split
      · have b1 : p.cam.w * p.cam.h ≤ 16 * 16 := Int.le_trans (Int.mul_le_mul_of_nonneg_right hw.1.2 (by omega)) (Int.mul_le_mul_of_nonneg_left hw.2.2 (by decide))
        have b2 : 0 ≤ p.cam.w * p.cam.h := Int.mul_nonneg (by omega) (by omega)
        exact ((h.a' (i := p.n) hn).mul (Sm_int (n := p.cam.w * p.cam.h) (L := 1) (by omega) (by decide))).mono (by decide)
      · exact Sm0.mono (by decide)
theorem SPa.J (h : SPa 1048576 p) : ∀ x ∈ p.J, Sm 402000000000 x := fun x hx => by
  unfold Pa.J at hx
  split at hx
  · rename_i c
    obtain ⟨i, _, rfl⟩ := List.mem_map.1 hx
    exact h.q c.1.2 c.2.2 i
  · cases hx
theorem SPa.M (h : SPa 1048576 p) : ∀ x ∈ p.M, Sm 403000000000 x := fun x hx => by
  unfold Pa.M at hx
  split at hx
  · rename_i c
    obtain ⟨i, hi, rfl⟩ := List.mem_map.1 hx
    rw [List.mem_range] at hi
    exact ((h.merge.mul (h.a' (i := i + 1 + 1) (by have := c.1.2; omega))).mul (h.b c.1.2 (i + 1))).mono (by decide)
  · cases hx
theorem pure_WeighMerges (h : NP 1048576 r p) (hm : Num 1048576 r.merge p.merge) : PureCalls prog F.penumbralaw18_WeighMerges [.agg r.c] [.one (.bool true)] := by
  refine symFunc_sound hmix tree_penumbralaw18_WeighMerges (by kernel_rfl) rfl ?_
  unfold ir_penumbralaw18_WeighMerges
  have h0 : NP 1048576 { r with merge := cr 0 } (p.wm 0) := { h with merge := (Num.of Sm0).mono (by decide) }
  have n2 := Num.of (hm.sm.add hm.sm)
  have h2 : NP 1048576 { r with merge := cr (p.merge + p.merge) } (p.wm (p.merge + p.merge)) := { h with merge := n2.mono (by decide) }
  have k := f_Densities h
  have k0 := f_Densities h0
  have k2 := f_Densities h2
  have hS := h.sm
  have a1 := J_len (p := p)
  have a2 := M_len (p := p)
  have sM := hS.M
  rw [wm_J, wm_M0] at k0
  rw [wm_J, wm_M2] at k2
  simp only [RP.c, RP.tl, RE.c, RCam.c] at k k0 k2 ⊢
  simp only [HH, gW, gD, V3.l, M4.l, Fr.l, Sp.l, RV.l, RM.l, RF.l, RS.l]
  refine cs1 (n_rat_Of (k0 := 0) 0 1 (by decide) (by decide) (by decide) (by decide) (by decide +kernel)) ?_
  simp only [HH, gW, gD, V3.l, M4.l, Fr.l, Sp.l, RV.l, RM.l, RF.l, RS.l]
  refine primS (rlN2 hm hm) rfl ?_
  refine cs1 (n_rat_Sum_2 (hm.mono (by decide)) (hm.mono (by decide)) rfl) ?_
  simp only [HH, gW, gD, V3.l, M4.l, Fr.l, Sp.l, RV.l, RM.l, RF.l, RS.l]
  refine call_step k rfl ?_
  try simp only [HH, gW, gD, V3.l, M4.l, Fr.l, Sp.l, RV.l, RM.l, RF.l, RS.l]
  refine call_step k0 rfl ?_
  try simp only [HH, gW, gD, V3.l, M4.l, Fr.l, Sp.l, RV.l, RM.l, RF.l, RS.l]
  refine call_step k2 rfl ?_
  try simp only [HH, gW, gD, V3.l, M4.l, Fr.l, Sp.l, RV.l, RM.l, RF.l, RS.l]
  refine call_step f_fixed18 rfl ?_
  try simp only [HH, gW, gD, V3.l, M4.l, Fr.l, Sp.l, RV.l, RM.l, RF.l, RS.l]
  refine primS (.bool false) rfl ?_
  refine itF rfl ?_
  have ks := f_Same_t (l := p.J) (fun x hx => (hS.J x hx).mono (by decide)) (by omega)
  refine call_step ks rfl ?_
  try simp only [HH, gW, gD, V3.l, M4.l, Fr.l, Sp.l, RV.l, RM.l, RF.l, RS.l]
  refine primS (.bool false) rfl ?_
  refine itF rfl ?_
  refine call_step ks rfl ?_
  try simp only [HH, gW, gD, V3.l, M4.l, Fr.l, Sp.l, RV.l, RM.l, RF.l, RS.l]
  refine primS (.bool false) rfl ?_
  refine itF rfl ?_
  generalize p.M = l at *
  refine primS (.int .i64 (l.length : Int)) ((rw_len _).trans (by rw [List.length_map])) ?_
  refine primS (.int .i64 (l.length : Int)) (rw_len l) ?_
  refine primS (.bool false) (d_neq.trans (by rw [decide_eq_false (by omega)])) ?_
  refine itF rfl ?_
  refine primS (.int .i64 (l.length : Int)) ((rw_len _).trans (by rw [List.length_map])) ?_
  refine primS (.int .i64 (l.length : Int)) (rw_len l) ?_
  refine primS (.bool false) (d_neq.trans (by rw [decide_eq_false (by omega)])) ?_
  refine itF rfl ?_
  refine loop_st (fun i : Nat => [rw' l, rw' (l.map fun _ => 0), rw' (l.map fun x => x + x), .int .i64 (i : Int)]) (fun i => i ≤ l.length) (fun i => l.length - i) 0 (Nat.zero_le _) rfl (fun _ => rfl) fun i hi X hX => ?_
  refine primS (.int .i64 (l.length : Int)) (rw_len l) ?_
  refine primS (.bool (decide _)) d_lss ?_
  refine itD rfl (fun c1 => ?_) (fun c1 => ?_)
  · have hlt : i < l.length := by omega
    have hx := Num.of (sM _ (List.getElem_mem hlt))
    generalize hX0 : l[i] = x at hx
    have e0 : (l.map cr)[i]? = some (cr x) := by rw [rw_get hlt, hX0]
    have e1 : ((l.map fun _ => (0 : Rat)).map cr)[i]? = some (cr 0) := by simp [hlt]
    have e2 : ((l.map fun x => x + x).map cr)[i]? = some (cr (x + x)) := by simp [hlt, hX0]
    refine primS (.bool true) (rw_inb (by rw [List.length_map]; exact hlt)) ?_
    try simp only [HH, gW, gD, V3.l, M4.l, Fr.l, Sp.l, RV.l, RM.l, RF.l, RS.l]
    refine get_rr (x := .var 1) (i := .var 3) e1 (fun _ => rfl) (fun _ => rfl) ?_
    simp only [HH, gW, gD, V3.l, M4.l, Fr.l, Sp.l, RV.l, RM.l, RF.l, RS.l]
    have z0 := Num.of Sm0
    refine call_step (f_rat_Sign z0 (by decide)) rfl ?_
    simp only [HH, gW, gD, V3.l, M4.l, Fr.l, Sp.l, RV.l, RM.l, RF.l, RS.l]
    refine primS (.bool false) (d_neq.trans (by rw [decide_eq_false (by decide)])) ?_
    refine itF rfl ?_
    refine primS (.bool true) (rw_inb (by rw [List.length_map]; exact hlt)) ?_
    try simp only [HH, gW, gD, V3.l, M4.l, Fr.l, Sp.l, RV.l, RM.l, RF.l, RS.l]
    refine get_rr (x := .var 2) (i := .var 3) e2 (fun _ => rfl) (fun _ => rfl) ?_
    simp only [HH, gW, gD, V3.l, M4.l, Fr.l, Sp.l, RV.l, RM.l, RF.l, RS.l]
    refine primS (.bool true) (rw_inb hlt) ?_
    try simp only [HH, gW, gD, V3.l, M4.l, Fr.l, Sp.l, RV.l, RM.l, RF.l, RS.l]
    refine get_rr (x := .var 0) (i := .var 3) e0 (fun _ => rfl) (fun _ => rfl) ?_
    simp only [HH, gW, gD, V3.l, M4.l, Fr.l, Sp.l, RV.l, RM.l, RF.l, RS.l]
    refine primS (.bool true) (rw_inb hlt) ?_
    try simp only [HH, gW, gD, V3.l, M4.l, Fr.l, Sp.l, RV.l, RM.l, RF.l, RS.l]
    refine get_rr (x := .var 0) (i := .var 3) e0 (fun _ => rfl) (fun _ => rfl) ?_
    simp only [HH, gW, gD, V3.l, M4.l, Fr.l, Sp.l, RV.l, RM.l, RF.l, RS.l]
    refine primS (rlN2 hx hx) rfl ?_
    refine cs1 (n_rat_Sum_2 (hx.mono (by decide)) (hx.mono (by decide)) rfl) ?_
    simp only [HH, gW, gD, V3.l, M4.l, Fr.l, Sp.l, RV.l, RM.l, RF.l, RS.l]
    have n2x : Num _ (cr (x + x)) (x + x) := Num.of (show Sm (1 + 403000000000) (x + x) by rw [show x + x = 2 * x by grind]; exact (Sm_k 2 (by decide +kernel)).mul hx.sm)
    refine call_step (f_Is_t rfl n2x n2x (by decide)) rfl ?_
    simp only [HH, gW, gD, V3.l, M4.l, Fr.l, Sp.l, RV.l, RM.l, RF.l, RS.l]
    refine primS (.bool false) rfl ?_
    refine itF rfl ?_
    refine primS (.int .i64 ((i + 1 : Nat) : Int)) ((d_add64 (by omega) (by omega)).trans (by simp)) ?_
    exact jump_step rfl (hX (i + 1) (by omega) (by omega))
  · exact ret_step rfl
end
end Go.Px.Na

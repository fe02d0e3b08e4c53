/- QWeighOne: the weights of all ways to find a path are from 0 to 1, and their sum is 1, or all are 0. -/
import Derived.Test.YtlhkacaiiplhhaaWq
set_option maxRecDepth 20000
set_option maxHeartbeats 40000000
set_option linter.unusedVariables false
set_option linter.unusedSimpArgs false
namespace Go.Px
open Go.RowKit
def ir_penumbralaw18_WeighOne : IR :=
 .call F.penumbralaw18_fixed [] [.one] <|
 .prim .not [.var 71] <|
 .ite (.var 72) (
  .call F.penumbralaw18_fixed [] [.one] <|
  .ret [.one (.var 73)]) (
  .call F.rat_Sign [.agg [.var 0, .var 1, .var 2]] [.one] <|
  .prim (.bin .lss) [.var 73, .int .i64 (0)] <|
  .ite (.var 74) (
   .call F.penumbralaw18_fixed [] [.one] <|
   .ret [.one (.var 75)]) (
   .call F.rat_Sign [.agg [.var 68, .var 69, .var 70]] [.one] <|
   .prim (.bin .lss) [.var 75, .int .i64 (0)] <|
   .ite (.var 76) (
    .call F.penumbralaw18_fixed [] [.one] <|
    .ret [.one (.var 77)]) (
    .call F.weigh_Weights [.agg [.var 0, .var 1, .var 2, .var 3, .var 4, .var 5, .var 6, .var 7, .var 8, .var 9, .var 10, .var 11, .var 12, .var 13, .var 14, .var 15, .var 16, .var 17, .var 18, .var 19, .var 20, .var 21, .var 22, .var 23, .var 24, .var 25, .var 26, .var 27, .var 28, .var 29, .var 30, .var 31, .var 32, .var 33, .var 34, .var 35, .var 36, .var 37, .var 38, .var 39, .var 40, .var 41, .var 42, .var 43, .var 44, .var 45, .var 46, .var 47, .var 48, .var 49, .var 50, .var 51, .var 52, .var 53, .var 54, .var 55, .var 56, .var 57, .var 58, .var 59, .var 60, .var 61, .var 62, .var 63, .var 64, .var 65, .var 66, .var 67, .var 68, .var 69, .var 70]] [.one, .one] <|
    .call F.weigh_Densities [.agg [.var 0, .var 1, .var 2, .var 3, .var 4, .var 5, .var 6, .var 7, .var 8, .var 9, .var 10, .var 11, .var 12, .var 13, .var 14, .var 15, .var 16, .var 17, .var 18, .var 19, .var 20, .var 21, .var 22, .var 23, .var 24, .var 25, .var 26, .var 27, .var 28, .var 29, .var 30, .var 31, .var 32, .var 33, .var 34, .var 35, .var 36, .var 37, .var 38, .var 39, .var 40, .var 41, .var 42, .var 43, .var 44, .var 45, .var 46, .var 47, .var 48, .var 49, .var 50, .var 51, .var 52, .var 53, .var 54, .var 55, .var 56, .var 57, .var 58, .var 59, .var 60, .var 61, .var 62, .var 63, .var 64, .var 65, .var 66, .var 67, .var 68, .var 69, .var 70]] [.one, .one] <|
    .prim (.mk 0) [] <|
    .prim (.app 3 56) [.var 81, .var 77] <|
    .prim (.app 3 56) [.var 82, .var 78] <|
    .prim (.mk 0) [] <|
    .prim (.app 3 56) [.var 84, .var 79] <|
    .prim (.app 3 56) [.var 85, .var 80] <|
    .prim .len [.var 83] <|
    .prim .len [.var 86] <|
    .prim (.bin .neq) [.var 87, .var 88] <|
    .ite (.var 89) (
     .ret [.one (.bol false)]) (
     .call F.penumbraref03_Zero [] [.agg 3] <|
     .loop [.bol false, .int .i64 (0), .var 83, .var 86, .var 90, .var 91, .var 92] (
      .prim .len [.var 2] <|
      .prim (.bin .lss) [.var 1, .var 7] <|
      .ite (.var 8) (
       .prim (.inb 3) [.var 2, .var 1] <|
       .prim (.get 3 0) [.var 2, .var 1] <|
       .prim (.get 3 1) [.var 2, .var 1] <|
       .prim (.get 3 2) [.var 2, .var 1] <|
       .call F.rat_Sign [.agg [.var 10, .var 11, .var 12]] [.one] <|
       .prim (.bin .lss) [.var 13, .int .i64 (0)] <|
       .ite (.var 14) (
        .ret [.one (.bol false)]) (
        .prim (.inb 3) [.var 2, .var 1] <|
        .prim (.get 3 0) [.var 2, .var 1] <|
        .prim (.get 3 1) [.var 2, .var 1] <|
        .prim (.get 3 2) [.var 2, .var 1] <|
        .call F.rat_Of [.one (.int .i64 (1)), .one (.int .i64 (1))] [.agg 3] <|
        .call F.rat_Cmp [.agg [.var 16, .var 17, .var 18], .agg [.var 19, .var 20, .var 21]] [.one] <|
        .prim (.bin .gtr) [.var 22, .int .i64 (0)] <|
        .ite (.var 23) (
         .ret [.one (.bol false)]) (
         .prim (.inb 3) [.var 2, .var 1] <|
         .prim (.get 3 0) [.var 2, .var 1] <|
         .prim (.get 3 1) [.var 2, .var 1] <|
         .prim (.get 3 2) [.var 2, .var 1] <|
         .call F.rat_Sign [.agg [.var 25, .var 26, .var 27]] [.one] <|
         .prim (.inb 3) [.var 3, .var 1] <|
         .prim (.get 3 0) [.var 3, .var 1] <|
         .prim (.get 3 1) [.var 3, .var 1] <|
         .prim (.get 3 2) [.var 3, .var 1] <|
         .call F.rat_Sign [.agg [.var 30, .var 31, .var 32]] [.one] <|
         .prim (.bin .neq) [.var 28, .var 33] <|
         .ite (.var 34) (
          .ret [.one (.bol false)]) (
          .prim (.inb 3) [.var 2, .var 1] <|
          .prim (.get 3 0) [.var 2, .var 1] <|
          .prim (.get 3 1) [.var 2, .var 1] <|
          .prim (.get 3 2) [.var 2, .var 1] <|
          .prim (.mk 2) [.var 4, .var 5, .var 6, .var 36, .var 37, .var 38] <|
          .call F.rat_Sum [.one (.var 39)] [.agg 3] <|
          .ite (.var 0) (
           .prim (.bin .add) [.var 1, .int .i64 (1)] <|
           .jump 0 [.bol true, .var 43, .var 2, .var 3, .var 40, .var 41, .var 42]) (
           .prim (.inb 3) [.var 3, .var 1] <|
           .prim (.get 3 0) [.var 3, .var 1] <|
           .prim (.get 3 1) [.var 3, .var 1] <|
           .prim (.get 3 2) [.var 3, .var 1] <|
           .call F.rat_Sign [.agg [.var 44, .var 45, .var 46]] [.one] <|
           .prim (.bin .neq) [.var 47, .int .i64 (0)] <|
           .prim (.bin .add) [.var 1, .int .i64 (1)] <|
           .jump 0 [.var 48, .var 49, .var 2, .var 3, .var 40, .var 41, .var 42]))))) (
       .ite (.var 0) (
        .call F.penumbraref03_One [] [.agg 3] <|
        .call F.penumbraref03_Is [.agg [.var 4, .var 5, .var 6], .agg [.var 9, .var 10, .var 11]] [.one] <|
        .ret [.one (.var 12)]) (
        .call F.penumbraref03_Zero [] [.agg 3] <|
        .call F.penumbraref03_Is [.agg [.var 4, .var 5, .var 6], .agg [.var 9, .var 10, .var 11]] [.one] <|
        .ret [.one (.var 12)])))))))

theorem tree_penumbralaw18_WeighOne : symFunc Go.Proofs.Try.prog ⟨fun f => [58].contains f, fun f i => if f = 3 ∧ i = 11 then [⟨[(7, .s (.one (.own 0))), (8, .s (.one (.own 1))), (9, .s (.one (.lp 2 0))), (10, .s (.one (.at (.var 0)))), (11, .s (.one (.at (.var 1))))], [], [(0, .own (.var 2) 3 24), (1, .own (.var 3) 3 24), (2, .box [.at (.var 4), .at (.var 5), .at (.var 6)] 24 false)], 3, 7⟩] else [], fun f i => [], fun f => [60, 61, 64, 65].contains f⟩ 400 F.penumbralaw18_WeighOne [.agg 71] = some ir_penumbralaw18_WeighOne := by kernel_rfl
end Go.Px
namespace Go.Px.Na
open Go.RowKit
open Go.Proofs.Try (prog)
theorem f_SignK {x : Rat} (hx : Sm KL x) : PureCalls prog F.rat_Sign [.agg (gD [x])] [.one (.int .i64 x.num.sign)] := by
  have h := c_sign (cr x) (cr_ok hx)
  rw [cr_v] at h
  exact h
theorem f_CmpK {x y : Rat} (hx : Sm KL x) (hy : Sm KL y) : PureCalls prog F.rat_Cmp [.agg (gD [x]), .agg (gD [y])] [.one (.int .i64 (cmpQ x y))] := by
  have h := c_cmpQ (cr x) (cr y) (cr_ok hx) (cr_ok hy)
  rw [cr_v, cr_v] at h
  exact h
theorem f_SumK2 {x y : Rat} (hx : Sm KL x) (hy : Sm KL y) (hz : Sm KL (x + y)) : PureCalls prog F.rat_Sum [.one (rw' [x, y])] [.agg (gD [x + y])] := by
  have e2 : sumR [x, y] = x + y := by show 0 + x + y = _; rw [Rat.zero_add]
  have h := f_SumK (l := [x, y]) (by simp) (fun z hz => by
    simp only [List.mem_cons, List.not_mem_nil, or_false] at hz
    rcases hz with rfl | rfl
    · exact hx
    · exact hy) (fun k => by
    match k with
    | 0 => exact Sm0.mono (by decide)
    | 1 => show Sm KL (0 + x); rw [Rat.zero_add]; exact hx
    | k + 2 => rw [List.take_of_length_le (by simp), e2]; exact hz)
  rw [e2] at h
  exact h
theorem sgn_nn {x : Rat} (h : 0 ≤ x) : 0 ≤ x.num.sign := Int.sign_nonneg_iff.2 (Rat.num_nonneg.2 h)
theorem sgn_np {x : Rat} (h : x ≤ 0) : x.num.sign ≤ 0 := by
  have := Rat.num_nonneg.2 (show 0 ≤ -x by grind)
  rw [Rat.neg_num] at this
  exact Int.sign_nonpos_iff.2 (by omega)
theorem cmp_le {x y : Rat} (h : x ≤ y) : cmpQ x y ≤ 0 := sgn_np (by grind)
theorem sgn_pos {x : Rat} (h : 0 < x) : x.num.sign = 1 := by
  have h1 := Rat.num_nonneg.2 (Rat.le_of_lt h)
  have h2 : x.num ≠ 0 := fun z => by rw [Rat.num_eq_zero] at z; grind
  exact Int.sign_eq_one_of_pos (by omega)
theorem nn_sgn {x : Rat} (h : ¬x.num.sign < 0) : 0 ≤ x := Rat.num_nonneg.1 (Int.sign_nonneg_iff.1 (by omega))
theorem div_sgn {x t : Rat} (h0 : 0 ≤ x) (h1 : x ≤ t) : (x / t).num.sign = x.num.sign := by
  by_cases c : x = 0
  · rw [c, Rat.div_def, Rat.zero_mul]
  · have hx : 0 < x := by grind
    have ht : 0 < t := by grind
    rw [sgn_pos hx, sgn_pos (by rw [Rat.div_def]; exact Rat.mul_pos hx (Rat.inv_pos.2 ht))]
theorem div_le1 {x t : Rat} (h0 : 0 ≤ x) (h1 : x ≤ t) : 0 ≤ x / t ∧ x / t ≤ 1 := by
  by_cases c : t = 0
  · rw [c, Rat.div_def, Rat.inv_zero, Rat.mul_zero]; exact ⟨Rat.le_refl, by decide⟩
  · have ht : 0 < t := by grind
    have hi := Rat.inv_pos.2 ht
    refine ⟨by rw [Rat.div_def]; exact Rat.mul_nonneg h0 (Rat.le_of_lt hi), ?_⟩
    have := Rat.mul_le_mul_of_nonneg_right h1 (Rat.le_of_lt hi)
    rw [Rat.mul_inv_cancel _ c] at this
    rw [Rat.div_def]; exact this
section
variable {r : RP} {p : Pa}
theorem J_facts (h : SPa 1048576 p) (hs : 0 ≤ p.start) : ∀ x ∈ p.J, Cl p.dD x ∧ 0 ≤ x := fun x hx => by
  unfold Pa.J at hx
  split at hx
  · rename_i c
    obtain ⟨i, _, rfl⟩ := List.mem_map.1 hx
    exact ⟨cl_q c.1.2 i, q_nn hs ⟨c.2.2.1.1, c.2.2.2.1⟩ i⟩
  · cases hx
theorem M_facts (h : SPa 1048576 p) (hs : 0 ≤ p.start) (hm : 0 ≤ p.merge) : ∀ x ∈ p.M, Cl p.dD x ∧ 0 ≤ x := fun x hx => by
  unfold Pa.M at hx
  split at hx
  · rename_i c
    obtain ⟨i, hi, rfl⟩ := List.mem_map.1 hx
    rw [List.mem_range] at hi
    exact ⟨cl_m c.1.2 (by omega), m_nn hs hm _⟩
  · cases hx
/-- How long the common denominator is at most. -/
@[irreducible] def LD : Nat := 1048576 + 15 * 1811941000 + (160000000 + 15 * 24827000000) + 3145728
theorem LD_eq : 1048576 + 15 * 1811941000 + (160000000 + 15 * 24827000000) + 3145728 = LD := by unfold LD; rfl
theorem LD_KL : 403000000000 + LD + 2 + 1 ≤ KL := by unfold LD; decide
theorem SPa.dD (h : SPa 1048576 p) : p.dD ≤ 4294967296 ^ LD :=
  dD_le' LD_eq h.start (fun i => (SS.ahd2 (h.s i) (h.s (i + 1)) (h.e i)).mono (by decide)) h.film (fun i => (SS.ahd2 (h.s _) (h.s _) (h.e _).inv).mono (by decide)) (h.merge.mono (by decide))
theorem pure_WeighOne (h : NP 1048576 r p) (hm : Num 1048576 r.merge p.merge) : PureCalls prog F.penumbralaw18_WeighOne [.agg r.c] [.one (.bool true)] := by
  refine symFunc_sound hmix tree_penumbralaw18_WeighOne (by kernel_rfl) rfl ?_
  unfold ir_penumbralaw18_WeighOne
  have k := f_Densities h
  have kw := f_Weights h
  have hS := h.sm
  have hst := h.start
  have a1 := J_len (p := p)
  have a2 := M_len (p := p)
  simp only [RP.c, RP.tl, RE.c, RCam.c] at k kw ⊢
  simp only [HH, gW, gD, V3.l, M4.l, Fr.l, Sp.l, RV.l, RM.l, RF.l, RS.l]
  refine call_step f_fixed18 rfl ?_
  try simp only [HH, gW, gD, V3.l, M4.l, Fr.l, Sp.l, RV.l, RM.l, RF.l, RS.l]
  refine primS (.bool false) rfl ?_
  refine itF rfl ?_
  refine call_step (f_rat_Sign hst (by decide)) rfl ?_
  simp only [HH, gW, gD, V3.l, M4.l, Fr.l, Sp.l, RV.l, RM.l, RF.l, RS.l]
  refine primS (.bool (decide _)) d_lss ?_
  refine itD rfl (fun c1 => ?_) (fun c1 => ?_)
  · refine call_step f_fixed18 rfl ?_
    try simp only [HH, gW, gD, V3.l, M4.l, Fr.l, Sp.l, RV.l, RM.l, RF.l, RS.l]
    exact ret_step rfl
  refine call_step (f_rat_Sign hm (by decide)) rfl ?_
  simp only [HH, gW, gD, V3.l, M4.l, Fr.l, Sp.l, RV.l, RM.l, RF.l, RS.l]
  refine primS (.bool (decide _)) d_lss ?_
  refine itD rfl (fun c2 => ?_) (fun c2 => ?_)
  · refine call_step f_fixed18 rfl ?_
    try simp only [HH, gW, gD, V3.l, M4.l, Fr.l, Sp.l, RV.l, RM.l, RF.l, RS.l]
    exact ret_step rfl
  have h1 : 0 ≤ p.start := nn_sgn c1
  have h2 : 0 ≤ p.merge := nn_sgn c2
  have fJ := J_facts hS h1
  have fM := M_facts hS h1 h2
  have sJ : ∀ x ∈ p.J, Sm 403000000000 x := fun x hx => (hS.J x hx).mono (by decide)
  have sM := hS.M
  have hDp : 0 < p.dD := dD_pos
  have hDl := hS.dD
  have hKL := LD_KL
  have hl : (p.J ++ p.M).length ≤ 34 := by rw [List.length_append]; omega
  have et : sumR (p.J ++ p.M) = p.t := by
    have key : ∀ (b : List Rat) (x : Rat), b.foldl (· + ·) x = x + sumR b := fun b => by
      induction b with
      | nil => intro x; exact (Rat.add_zero x).symm
      | cons y b ih =>
        intro x
        rw [sumR, List.foldl_cons, List.foldl_cons, ih, ih, Rat.zero_add, Rat.add_assoc]
    unfold Pa.t
    rw [sumR, List.foldl_append, key, ← sumR]
  have fl : ∀ x ∈ p.J ++ p.M, Cl p.dD x ∧ 0 ≤ x := fun x hx => (List.mem_append.1 hx).elim (fJ x) (fM x)
  have sl : ∀ x ∈ p.J ++ p.M, Sm 403000000000 x := fun x hx => (List.mem_append.1 hx).elim (sJ x) (sM x)
  have q1 := sums_sm (L := KL) (by omega) (fun x hx => (fJ x hx).1) sJ hDp hDl hKL
  have q2 := sums_sm (L := KL) (by omega) (fun x hx => (fM x hx).1) sM hDp hDl hKL
  have q3 := sums_sm (L := KL) hl (fun x hx => (fl x hx).1) sl hDp hDl hKL
  have q4 := quot_sm (L := KL) hl (fun x hx => (fl x hx).1) sl hDp hDl hKL
  have q5 := fun (g : 0 < sumR (p.J ++ p.M)) (x : Rat) (hx : x ∈ p.J ++ p.M) => each_sm (L := KL) hl (fun x hx => (fl x hx).1) sl hDp hDl hKL g hx
  have hle : (403000000000 : Nat) ≤ KL := by decide
  have q6 : Sm KL p.t := by
    have := q3 (p.J ++ p.M).length
    rwa [List.take_length, et] at this
  replace kw := kw (fun x hx => (sJ x hx).mono hle) q1 (fun x hx => (sM x hx).mono hle) q2 q6
  have hn0 : ∀ x ∈ p.J ++ p.M, 0 ≤ x := fun x hx => (fl x hx).2
  have slK : ∀ x ∈ p.J ++ p.M, Sm KL x := fun x hx => (sl x hx).mono hle
  clear q1 q2 fJ fM sJ sM hDl fl sl hKL
  refine call_step kw rfl ?_
  try simp only [HH, gW, gD, V3.l, M4.l, Fr.l, Sp.l, RV.l, RM.l, RF.l, RS.l]
  refine call_step k rfl ?_
  try simp only [HH, gW, gD, V3.l, M4.l, Fr.l, Sp.l, RV.l, RM.l, RF.l, RS.l]
  refine primS (rw' []) rfl ?_
  refine primS (rw' ([] ++ p.J.map (· / p.t))) (rw_app (by simp; omega)) ?_
  refine primS (rw' ([] ++ p.J.map (· / p.t) ++ p.M.map (· / p.t))) (rw_app (by simp; omega)) ?_
  refine primS (rw' []) rfl ?_
  refine primS (rw' ([] ++ p.J)) (rw_app (by simp; omega)) ?_
  refine primS (rw' ([] ++ p.J ++ p.M)) (rw_app (by simp; omega)) ?_
  rw [List.nil_append, List.nil_append, ← List.map_append]
  generalize p.J ++ p.M = l at *
  rw [← et] at *
  generalize hT : sumR l = t at *
  have hS0 := sum_nn hn0
  have hST : ∀ i, sumR (l.take i) ≤ t := fun i => by
    by_cases c : i ≤ l.length
    · have := sum_mono hn0 i l.length c
      rwa [List.take_length, hT] at this
    · rw [List.take_of_length_le (by omega), hT]; exact Rat.le_refl
  have hxt : ∀ (i : Nat) (g : i < l.length), l[i] ≤ t := fun i g => hT ▸ le_sum hn0 g
  have ht0 : 0 ≤ t := by have := hS0 l.length; rwa [List.take_length, hT] at this
  have w1 : ∀ (i : Nat) (g : i < l.length), Sm KL (l[i] / t) := fun i g => by
    by_cases c : t = 0
    · rw [c, Rat.div_def, Rat.inv_zero, Rat.mul_zero]; exact Sm0.mono (by decide)
    · exact q5 (by grind) _ (List.getElem_mem g)
  have w2 : ∀ i, Sm KL (sumR (l.take i) / t) := fun i => by
    by_cases c : t = 0
    · rw [c, Rat.div_def, Rat.inv_zero, Rat.mul_zero]; exact Sm0.mono (by decide)
    · exact q4 (by grind) i
  refine primS (.int .i64 (l.length : Int)) ((rw_len _).trans (by rw [List.length_map])) ?_
  refine primS (.int .i64 (l.length : Int)) (rw_len l) ?_
  refine primS (.bool false) (d_neq.trans (by rw [decide_eq_false (by omega)])) ?_
  refine itF rfl ?_
  refine call_step f_R3_Zero rfl ?_
  simp only [HH, gW, gD, V3.l, M4.l, Fr.l, Sp.l, RV.l, RM.l, RF.l, RS.l]
  refine loop_st (fun i : Nat => [.bool (decide (¬sumR (l.take i) = 0)), .int .i64 (i : Int), rw' (l.map (· / t)), rw' l] ++ gD [sumR (l.take i) / t]) (fun i => i ≤ l.length) (fun i => l.length - i) 0 (Nat.zero_le _) (by rw [show decide (¬sumR (l.take 0) = 0) = false from decide_eq_false (fun z => z rfl), show sumR (l.take 0) / t = 0 by rw [show sumR (l.take 0) = 0 from rfl, Rat.div_def, Rat.zero_mul]]; rfl) (fun _ => rfl) fun i hi X hX => ?_
  simp only [HH, gW, gD, V3.l, M4.l, Fr.l, Sp.l, RV.l, RM.l, RF.l, RS.l]
  refine primS (.int .i64 (l.length : Int)) ((rw_len _).trans (by rw [List.length_map])) ?_
  refine primS (.bool (decide _)) d_lss ?_
  refine itD rfl (fun c3 => ?_) (fun c3 => ?_)
  · have hlt : i < l.length := by omega
    have e1 : ((l.map (· / t)).map cr)[i]? = some (cr (l[i] / t)) := by simp [hlt]
    have e0 := rw_get hlt
    have x0 := hn0 _ (List.getElem_mem hlt)
    have x1 := hxt i hlt
    have sx := slK _ (List.getElem_mem hlt)
    have sw := w1 i hlt
    have sS := w2 i
    have sS1 := w2 (i + 1)
    have hX1 := hX (i + 1) (by omega) (by omega)
    have hS1 := sumR_succ hlt
    have hSi := hS0 i
    rw [hS1] at sS1 hX1
    generalize l[i] = x at *
    generalize sumR (l.take i) = S at *
    have ed : (S + x) / t = S / t + x / t := by rw [Rat.div_def, Rat.div_def, Rat.div_def, Rat.add_mul]
    rw [ed] at sS1 hX1
    have hw := div_le1 x0 x1
    have hsg := div_sgn x0 x1
    refine primS (.bool true) (rw_inb (by rw [List.length_map]; exact hlt)) ?_
    try simp only [HH, gW, gD, V3.l, M4.l, Fr.l, Sp.l, RV.l, RM.l, RF.l, RS.l]
    refine get_rr (x := .var 2) (i := .var 1) e1 (fun _ => rfl) (fun _ => rfl) ?_
    simp only [HH, gW, gD, V3.l, M4.l, Fr.l, Sp.l, RV.l, RM.l, RF.l, RS.l]
    refine call_step (f_SignK sw) rfl ?_
    simp only [HH, gW, gD, V3.l, M4.l, Fr.l, Sp.l, RV.l, RM.l, RF.l, RS.l]
    refine primS (.bool false) (d_lss.trans (by rw [decide_eq_false (by have := sgn_nn hw.1; omega)])) ?_
    refine itF rfl ?_
    refine primS (.bool true) (rw_inb (by rw [List.length_map]; exact hlt)) ?_
    try simp only [HH, gW, gD, V3.l, M4.l, Fr.l, Sp.l, RV.l, RM.l, RF.l, RS.l]
    refine get_rr (x := .var 2) (i := .var 1) e1 (fun _ => rfl) (fun _ => rfl) ?_
    simp only [HH, gW, gD, V3.l, M4.l, Fr.l, Sp.l, RV.l, RM.l, RF.l, RS.l]
    refine cs1 (n_rat_Of (k0 := 1) 1 1 (by decide) (by decide) (by decide) (by decide) (by decide +kernel)) ?_
    simp only [HH, gW, gD, V3.l, M4.l, Fr.l, Sp.l, RV.l, RM.l, RF.l, RS.l]
    refine call_step (f_CmpK sw (Sm1.mono (by decide))) rfl ?_
    simp only [HH, gW, gD, V3.l, M4.l, Fr.l, Sp.l, RV.l, RM.l, RF.l, RS.l]
    refine primS (.bool false) (d_gtr.trans (by rw [decide_eq_false (by have := cmp_le hw.2; omega)])) ?_
    refine itF rfl ?_
    refine primS (.bool true) (rw_inb (by rw [List.length_map]; exact hlt)) ?_
    try simp only [HH, gW, gD, V3.l, M4.l, Fr.l, Sp.l, RV.l, RM.l, RF.l, RS.l]
    refine get_rr (x := .var 2) (i := .var 1) e1 (fun _ => rfl) (fun _ => rfl) ?_
    simp only [HH, gW, gD, V3.l, M4.l, Fr.l, Sp.l, RV.l, RM.l, RF.l, RS.l]
    refine call_step (f_SignK sw) rfl ?_
    simp only [HH, gW, gD, V3.l, M4.l, Fr.l, Sp.l, RV.l, RM.l, RF.l, RS.l]
    refine primS (.bool true) (rw_inb hlt) ?_
    try simp only [HH, gW, gD, V3.l, M4.l, Fr.l, Sp.l, RV.l, RM.l, RF.l, RS.l]
    refine get_rr (x := .var 3) (i := .var 1) e0 (fun _ => rfl) (fun _ => rfl) ?_
    simp only [HH, gW, gD, V3.l, M4.l, Fr.l, Sp.l, RV.l, RM.l, RF.l, RS.l]
    refine call_step (f_SignK sx) rfl ?_
    simp only [HH, gW, gD, V3.l, M4.l, Fr.l, Sp.l, RV.l, RM.l, RF.l, RS.l]
    refine primS (.bool false) (d_neq.trans (by rw [decide_eq_false (by omega)])) ?_
    refine itF rfl ?_
    refine primS (.bool true) (rw_inb (by rw [List.length_map]; exact hlt)) ?_
    try simp only [HH, gW, gD, V3.l, M4.l, Fr.l, Sp.l, RV.l, RM.l, RF.l, RS.l]
    refine get_rr (x := .var 2) (i := .var 1) e1 (fun _ => rfl) (fun _ => rfl) ?_
    simp only [HH, gW, gD, V3.l, M4.l, Fr.l, Sp.l, RV.l, RM.l, RF.l, RS.l]
    refine primS (rw' [S / t, x / t]) rfl ?_
    refine call_step (f_SumK2 sS sw sS1) rfl ?_
    simp only [HH, gW, gD, V3.l, M4.l, Fr.l, Sp.l, RV.l, RM.l, RF.l, RS.l]
    refine itD rfl (fun c4 => ?_) (fun c4 => ?_)
    · refine primS (.int .i64 ((i + 1 : Nat) : Int)) ((d_add64 (by omega) (by omega)).trans (by simp)) ?_
      rw [decide_eq_true (show ¬S + x = 0 by grind)] at hX1
      exact jump_step rfl hX1
    · have hz : S = 0 := Classical.not_not.1 c4
      refine primS (.bool true) (rw_inb hlt) ?_
      try simp only [HH, gW, gD, V3.l, M4.l, Fr.l, Sp.l, RV.l, RM.l, RF.l, RS.l]
      refine get_rr (x := .var 3) (i := .var 1) e0 (fun _ => rfl) (fun _ => rfl) ?_
      simp only [HH, gW, gD, V3.l, M4.l, Fr.l, Sp.l, RV.l, RM.l, RF.l, RS.l]
      refine call_step (f_SignK sx) rfl ?_
      simp only [HH, gW, gD, V3.l, M4.l, Fr.l, Sp.l, RV.l, RM.l, RF.l, RS.l]
      have ez : decide (¬S + x = 0) = decide (¬x.num.sign = 0) := decide_eq_decide.2 (by rw [hz, Rat.zero_add, sign_zero])
      refine primS (.bool (decide (¬S + x = 0))) (d_neq.trans (by rw [ez])) ?_
      refine primS (.int .i64 ((i + 1 : Nat) : Int)) ((d_add64 (by omega) (by omega)).trans (by simp)) ?_
      exact jump_step rfl hX1
  · obtain rfl : i = l.length := by omega
    rw [List.take_length, hT]
    refine itD rfl (fun c4 => ?_) (fun c4 => ?_)
    · rw [show t / t = 1 by rw [Rat.div_def, Rat.mul_inv_cancel _ c4]]
      refine call_step f_R3_One rfl ?_
      simp only [HH, gW, gD, V3.l, M4.l, Fr.l, Sp.l, RV.l, RM.l, RF.l, RS.l]
      have n3 := Num.of Sm1
      refine call_step (f_Is_t rfl n3 n3 (by decide)) rfl ?_
      simp only [HH, gW, gD, V3.l, M4.l, Fr.l, Sp.l, RV.l, RM.l, RF.l, RS.l]
      exact ret_step rfl
    · have hz : t = 0 := Classical.not_not.1 c4
      rw [show t / t = 0 by rw [hz, Rat.div_def, Rat.zero_mul]]
      refine call_step f_R3_Zero rfl ?_
      simp only [HH, gW, gD, V3.l, M4.l, Fr.l, Sp.l, RV.l, RM.l, RF.l, RS.l]
      have n4 := Num.of Sm0
      refine call_step (f_Is_t rfl n4 n4 (by decide)) rfl ?_
      simp only [HH, gW, gD, V3.l, M4.l, Fr.l, Sp.l, RV.l, RM.l, RF.l, RS.l]
      exact ret_step rfl
end
end Go.Px.Na

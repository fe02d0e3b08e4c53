/- QWeighShares: what each way to find any path counts is as the document says. -/
import Derived.Test.YtkdppmbacjflaaaGreatWq
import Derived.Test.YtkdppmbacjflaaaGreatWd
set_option maxRecDepth 20000
set_option maxHeartbeats 40000000
set_option linter.unusedVariables false
set_option linter.unusedSimpArgs false
namespace Go.Px
open Go.RowKit
def ir_penumbralaw18_WeighShares : IR :=
 .call F.weigh_Weights [.agg [.var 0, .var 1, .var 2, .var 3, .var 4, .var 5, .var 6, .var 7, .var 8, .var 9, .var 10, .var 11, .var 12, .var 13, .var 14, .var 15, .var 16, .var 17, .var 18, .var 19, .var 20, .var 21, .var 22, .var 23, .var 24, .var 25, .var 26, .var 27, .var 28, .var 29, .var 30, .var 31, .var 32, .var 33, .var 34, .var 35, .var 36, .var 37, .var 38, .var 39, .var 40, .var 41, .var 42, .var 43, .var 44, .var 45, .var 46, .var 47, .var 48, .var 49, .var 50, .var 51, .var 52, .var 53, .var 54, .var 55, .var 56, .var 57, .var 58, .var 59, .var 60, .var 61, .var 62, .var 63, .var 64, .var 65, .var 66, .var 67, .var 68, .var 69, .var 70]] [.one, .one] <|
 .call F.penumbraref18_Weights [.agg [.var 0, .var 1, .var 2, .var 3, .var 4, .var 5, .var 6, .var 7, .var 8, .var 9, .var 10, .var 11, .var 12, .var 13, .var 14, .var 15, .var 16, .var 17, .var 18, .var 19, .var 20, .var 21, .var 22, .var 23, .var 24, .var 25, .var 26, .var 27, .var 28, .var 29, .var 30, .var 31, .var 32, .var 33, .var 34, .var 35, .var 36, .var 37, .var 38, .var 39, .var 40, .var 41, .var 42, .var 43, .var 44, .var 45, .var 46, .var 47, .var 48, .var 49, .var 50, .var 51, .var 52, .var 53, .var 54, .var 55, .var 56, .var 57, .var 58, .var 59, .var 60, .var 61, .var 62, .var 63, .var 64, .var 65, .var 66, .var 67, .var 68, .var 69, .var 70]] [.one, .one] <|
 .call F.penumbralaw18_fixed [] [.one] <|
 .ite (.var 75) (
  .call F.penumbraref09_Same [.one (.var 71), .one (.var 73)] [.one] <|
  .ite (.var 76) (
   .call F.penumbraref09_Same [.one (.var 72), .one (.var 74)] [.one] <|
   .ret [.one (.var 77)]) (
   .ret [.one (.bol false)])) (
  .ret [.one (.bol false)])

def ir_penumbraref03_Sum : IR :=
 .call F.penumbraref03_Zero [] [.agg 3] <|
 .loop [.var 0, .int .i64 (0), .var 1, .var 2, .var 3] (
  .prim .len [.var 0] <|
  .prim (.bin .lss) [.var 1, .var 5] <|
  .ite (.var 6) (
   .prim (.inb 3) [.var 0, .var 1] <|
   .prim (.get 3 0) [.var 0, .var 1] <|
   .prim (.get 3 1) [.var 0, .var 1] <|
   .prim (.get 3 2) [.var 0, .var 1] <|
   .call F.penumbraref03_Add [.agg [.var 2, .var 3, .var 4], .agg [.var 8, .var 9, .var 10]] [.agg 3] <|
   .prim (.bin .add) [.var 1, .int .i64 (1)] <|
   .jump 0 [.var 0, .var 14, .var 11, .var 12, .var 13]) (
   .ret [.agg [.var 2, .var 3, .var 4]]))

def ir_penumbraref18_All : IR :=
 .call F.penumbraref18_Densities [.agg [.var 0, .var 1, .var 2, .var 3, .var 4, .var 5, .var 6, .var 7, .var 8, .var 9, .var 10, .var 11, .var 12, .var 13, .var 14, .var 15, .var 16, .var 17, .var 18, .var 19, .var 20, .var 21, .var 22, .var 23, .var 24, .var 25, .var 26, .var 27, .var 28, .var 29, .var 30, .var 31, .var 32, .var 33, .var 34, .var 35, .var 36, .var 37, .var 38, .var 39, .var 40, .var 41, .var 42, .var 43, .var 44, .var 45, .var 46, .var 47, .var 48, .var 49, .var 50, .var 51, .var 52, .var 53, .var 54, .var 55, .var 56, .var 57, .var 58, .var 59, .var 60, .var 61, .var 62, .var 63, .var 64, .var 65, .var 66, .var 67, .var 68, .var 69, .var 70]] [.one, .one] <|
 .call F.penumbraref03_Sum [.one (.var 71)] [.agg 3] <|
 .call F.penumbraref03_Sum [.one (.var 72)] [.agg 3] <|
 .call F.penumbraref03_Add [.agg [.var 73, .var 74, .var 75], .agg [.var 76, .var 77, .var 78]] [.agg 3] <|
 .ret [.agg [.var 79, .var 80, .var 81]]

def ir_penumbraref18_Weights : IR :=
 .call F.penumbraref18_Densities [.agg [.var 0, .var 1, .var 2, .var 3, .var 4, .var 5, .var 6, .var 7, .var 8, .var 9, .var 10, .var 11, .var 12, .var 13, .var 14, .var 15, .var 16, .var 17, .var 18, .var 19, .var 20, .var 21, .var 22, .var 23, .var 24, .var 25, .var 26, .var 27, .var 28, .var 29, .var 30, .var 31, .var 32, .var 33, .var 34, .var 35, .var 36, .var 37, .var 38, .var 39, .var 40, .var 41, .var 42, .var 43, .var 44, .var 45, .var 46, .var 47, .var 48, .var 49, .var 50, .var 51, .var 52, .var 53, .var 54, .var 55, .var 56, .var 57, .var 58, .var 59, .var 60, .var 61, .var 62, .var 63, .var 64, .var 65, .var 66, .var 67, .var 68, .var 69, .var 70]] [.one, .one] <|
 .call F.penumbraref18_All [.agg [.var 0, .var 1, .var 2, .var 3, .var 4, .var 5, .var 6, .var 7, .var 8, .var 9, .var 10, .var 11, .var 12, .var 13, .var 14, .var 15, .var 16, .var 17, .var 18, .var 19, .var 20, .var 21, .var 22, .var 23, .var 24, .var 25, .var 26, .var 27, .var 28, .var 29, .var 30, .var 31, .var 32, .var 33, .var 34, .var 35, .var 36, .var 37, .var 38, .var 39, .var 40, .var 41, .var 42, .var 43, .var 44, .var 45, .var 46, .var 47, .var 48, .var 49, .var 50, .var 51, .var 52, .var 53, .var 54, .var 55, .var 56, .var 57, .var 58, .var 59, .var 60, .var 61, .var 62, .var 63, .var 64, .var 65, .var 66, .var 67, .var 68, .var 69, .var 70]] [.agg 3] <|
 .prim (.mk 0) [] <|
 .prim (.mk 0) [] <|
 .loop [.var 71, .var 72, .int .i64 (0), .var 73, .var 74, .var 75, .var 76, .var 77] (
  .prim .len [.var 0] <|
  .prim (.bin .lss) [.var 2, .var 8] <|
  .ite (.var 9) (
   .prim (.inb 3) [.var 0, .var 2] <|
   .prim (.get 3 0) [.var 0, .var 2] <|
   .prim (.get 3 1) [.var 0, .var 2] <|
   .prim (.get 3 2) [.var 0, .var 2] <|
   .call F.penumbraref03_Over [.agg [.var 11, .var 12, .var 13], .agg [.var 3, .var 4, .var 5]] [.agg 3] <|
   .prim (.mk 1) [.var 14, .var 15, .var 16] <|
   .prim (.app 3 56) [.var 6, .var 17] <|
   .prim (.bin .add) [.var 2, .int .i64 (1)] <|
   .jump 0 [.var 0, .var 1, .var 19, .var 3, .var 4, .var 5, .var 18, .var 7]) (
   .loop [.var 1, .int .i64 (0), .var 3, .var 4, .var 5, .var 6, .var 7] (
    .prim .len [.var 0] <|
    .prim (.bin .lss) [.var 1, .var 7] <|
    .ite (.var 8) (
     .prim (.inb 3) [.var 0, .var 1] <|
     .prim (.get 3 0) [.var 0, .var 1] <|
     .prim (.get 3 1) [.var 0, .var 1] <|
     .prim (.get 3 2) [.var 0, .var 1] <|
     .call F.penumbraref03_Over [.agg [.var 10, .var 11, .var 12], .agg [.var 2, .var 3, .var 4]] [.agg 3] <|
     .prim (.mk 1) [.var 13, .var 14, .var 15] <|
     .prim (.app 3 56) [.var 6, .var 16] <|
     .prim (.bin .add) [.var 1, .int .i64 (1)] <|
     .jump 1 [.var 0, .var 18, .var 2, .var 3, .var 4, .var 5, .var 17]) (
     .ret [.one (.var 5), .one (.var 6)]))))

theorem tree_penumbralaw18_WeighShares : symFunc Go.Proofs.Tryz.prog H0 400 F.penumbralaw18_WeighShares [.agg 71] = some ir_penumbralaw18_WeighShares := by kernel_rfl
theorem tree_penumbraref03_Sum : symFunc Go.Proofs.Tryz.prog ⟨fun f => [].contains f, fun f i => if f = 36 ∧ i = 3 then [⟨[(0, .s (.one (.at (.var 0)))), (2, .s (.one (.lp 0 0))), (3, .s (.one (.lp 1 0))), (4, .s (.one (.at (.var 1))))], [], [(0, .box [.at (.bol false), .nils, .nils] 24 false), (1, .box [.at (.var 2), .at (.var 3), .at (.var 4)] 24 false)], 2, 5⟩] else [], fun f i => [], fun f => [].contains f, fun f => none⟩ 400 F.penumbraref03_Sum [.one] = some ir_penumbraref03_Sum := by kernel_rfl
theorem tree_penumbraref18_All : symFunc Go.Proofs.Tryz.prog H0 400 F.penumbraref18_All [.agg 71] = some ir_penumbraref18_All := by kernel_rfl
theorem tree_penumbraref18_Weights : symFunc Go.Proofs.Tryz.prog ⟨fun f => [].contains f, fun f i => if f = 5 ∧ i = 6 then [⟨[(4, .s (.one (.at (.var 0)))), (5, .s (.one (.at (.var 1)))), (6, .s (.one (.lp 0 0))), (7, .s (.one (.own 1))), (8, .s (.one (.own 2))), (9, .s (.one (.at (.var 2))))], [], [(0, .box [.at (.var 3), .at (.var 4), .at (.var 5)] 24 false), (1, .own (.var 6) 3 24), (2, .own (.var 7) 3 24)], 3, 8⟩] else if f = 5 ∧ i = 10 then [⟨[(5, .s (.one (.at (.var 0)))), (6, .s (.one (.lp 0 0))), (7, .s (.one (.own 1))), (8, .s (.one (.own 2))), (10, .s (.one (.at (.var 1))))], [], [(0, .box [.at (.var 2), .at (.var 3), .at (.var 4)] 24 false), (1, .own (.var 5) 3 24), (2, .own (.var 6) 3 24)], 3, 7⟩] else [], fun f i => [], fun f => [].contains f, fun f => none⟩ 400 F.penumbraref18_Weights [.agg 71] = some ir_penumbraref18_Weights := by kernel_rfl
end Go.Px
namespace Go.Px.Na
open Go.RowKit
open Go.Proofs.Tryz (prog)
/-! ### The document's sums and quotients of long numbers -/
theorem fr_SumK {l : List Rat} (hl : l.length ≤ 1000) (h1 : ∀ x ∈ l, Sm KL x) (h2 : ∀ k, Sm KL (sumR (l.take k))) : PureCalls prog F.penumbraref03_Sum [.one (rw' l)] [.agg (gD [sumR l])] := by
  refine symFunc_sound hmix tree_penumbraref03_Sum (by kernel_rfl) rfl ?_
  unfold ir_penumbraref03_Sum
  try simp only [JJ]
  refine cs1 f_R3_Zero ?_
  simp only [JJ]
  refine loop_st (fun i : Nat => [rw' l, .int .i64 (i : Int)] ++ gD [sumR (l.take i)]) (fun i => i ≤ l.length) (fun i => l.length - i) 0 (Nat.zero_le _) rfl (fun _ => rfl) fun i hi X hX => ?_
  simp only [JJ]
  refine primS (.int .i64 (l.length : Int)) (rw_len l) ?_
  refine primS (.bool (decide _)) d_lss ?_
  refine itD rfl (fun c1 => ?_) (fun c1 => ?_)
  · have hlt : i < l.length := by omega
    refine primS (.bool true) (rw_inb hlt) ?_
    try simp only [JJ]
    refine get_rr (x := .var 0) (i := .var 1) (rw_get hlt) (fun _ => rfl) (fun _ => rfl) ?_
    simp only [JJ]
    have ka := cr_addQ (cr (sumR (l.take i))) (cr l[i]) (cr_ok (h2 i)) (cr_ok (h1 _ (List.getElem_mem hlt)))
    rw [cr_v, cr_v, ← sumR_succ hlt] at ka
    refine cs1 ka ?_
    simp only [JJ]
    refine primS (.int .i64 ((i + 1 : Nat) : Int)) ((d_add64 (by omega) (by omega)).trans (by simp)) ?_
    exact jump_step rfl (hX (i + 1) (by omega) (by omega))
  · obtain rfl : i = l.length := by omega
    rw [List.take_length]
    exact ret_step rfl
theorem fr_OverK {x y : Rat} (hx : Sm KL x) (hy : Sm KL y) : PureCalls prog F.penumbraref03_Over [.agg (gD [x]), .agg (gD [y])] [.agg (gD [x / y])] := by
  have h := cr_over (cr x) (cr y) (cr_ok hx) (cr_ok hy)
  rw [cr_v, cr_v] at h
  exact h
theorem fr_AddK {x y : Rat} (hx : Sm KL x) (hy : Sm KL y) : PureCalls prog F.penumbraref03_Add [.agg (gD [x]), .agg (gD [y])] [.agg (gD [x + y])] := by
  have h := cr_addQ (cr x) (cr y) (cr_ok hx) (cr_ok hy)
  rw [cr_v, cr_v] at h
  exact h
section
variable {r : RP} {p : Pa}
theorem fr_Dens (h : NP 1048576 r p) : PureCalls prog F.penumbraref18_Densities [.agg r.c] [.one (rw' p.J), .one (rw' p.M)] := by
  have k := fr_Densities h
  rw [show rl (if p.may then p.rowQ (p.n + 1) else []) = rw' p.J by unfold rw' Pa.J Pa.rowQ; split <;> simp [Function.comp_def], show rl (if p.may then p.rowM (p.n - 1) else []) = rw' p.M by unfold rw' Pa.M Pa.rowM; split <;> simp [Function.comp_def]] at k
  exact k
theorem fr_All (h : NP 1048576 r p) (h1 : ∀ x ∈ p.J, Sm KL x) (h2 : ∀ k, Sm KL (sumR (p.J.take k))) (h3 : ∀ x ∈ p.M, Sm KL x) (h4 : ∀ k, Sm KL (sumR (p.M.take k))) : PureCalls prog F.penumbraref18_All [.agg r.c] [.agg (gD [p.t])] := by
  refine symFunc_sound hmix tree_penumbraref18_All (by kernel_rfl) rfl ?_
  unfold ir_penumbraref18_All
  have k := fr_Dens h
  have a1 := J_len (p := p)
  have a2 := M_len (p := p)
  have s1 : Sm KL (sumR p.J) := by have := h2 p.J.length; rwa [List.take_length] at this
  have s2 : Sm KL (sumR p.M) := by have := h4 p.M.length; rwa [List.take_length] at this
  simp only [RP.c, RP.tl, RE.c, RCam.c] at k ⊢
  simp only [JJ]
  refine call_step k rfl ?_
  try simp only [JJ]
  refine cs1 (fr_SumK (by omega) h1 h2) ?_
  simp only [JJ]
  refine cs1 (fr_SumK (by omega) h3 h4) ?_
  simp only [JJ]
  refine cs1 (fr_AddK s1 s2) ?_
  simp only [JJ]
  exact ret_step rfl
theorem fr_Weights (h : NP 1048576 r p) (h1 : ∀ x ∈ p.J, Sm KL x) (h2 : ∀ k, Sm KL (sumR (p.J.take k))) (h3 : ∀ x ∈ p.M, Sm KL x) (h4 : ∀ k, Sm KL (sumR (p.M.take k))) (h5 : Sm KL p.t) :
    PureCalls prog F.penumbraref18_Weights [.agg r.c] [.one (rw' (p.J.map (· / p.t))), .one (rw' (p.M.map (· / p.t)))] := by
  refine symFunc_sound hmix tree_penumbraref18_Weights (by kernel_rfl) rfl ?_
  unfold ir_penumbraref18_Weights
  have k := fr_Dens h
  have ka := fr_All h h1 h2 h3 h4
  have a1 := J_len (p := p)
  have a2 := M_len (p := p)
  simp only [RP.c, RP.tl, RE.c, RCam.c] at k ka ⊢
  simp only [JJ]
  refine call_step k rfl ?_
  try simp only [JJ]
  refine cs1 ka ?_
  simp only [JJ]
  generalize p.J = l at *
  generalize p.M = m at *
  generalize p.t = d at *
  refine primS (rw' []) rfl ?_
  refine primS (rw' []) rfl ?_
  refine loop_st (fun i : Nat => [rw' l, rw' m, .int .i64 (i : Int)] ++ gD [d] ++ [rw' ((l.take i).map (· / d)), rw' []]) (fun i => i ≤ l.length) (fun i => l.length - i) 0 (Nat.zero_le _) rfl (fun _ => rfl) fun i hi X hX => ?_
  simp only [JJ]
  refine primS (.int .i64 (l.length : Int)) (rw_len l) ?_
  refine primS (.bool (decide _)) d_lss ?_
  refine itD rfl (fun c1 => ?_) (fun c1 => ?_)
  · have hlt : i < l.length := by omega
    refine primS (.bool true) (rw_inb hlt) ?_
    try simp only [JJ]
    refine get_rr (x := .var 0) (i := .var 2) (rw_get hlt) (fun _ => rfl) (fun _ => rfl) ?_
    simp only [JJ]
    refine cs1 (fr_OverK (h1 _ (List.getElem_mem hlt)) h5) ?_
    simp only [JJ]
    refine primS (rw' [l[i] / d]) rfl ?_
    refine primS (rw' ((l.take i).map (· / d) ++ [l[i] / d])) (rw_app (by rw [List.length_map, List.length_take]; simp; omega)) ?_
    rw [show (l.take i).map (· / d) ++ [l[i] / d] = (l.take (i + 1)).map (· / d) by rw [List.take_add_one, List.map_append, List.getElem?_eq_getElem hlt]; rfl]
    refine primS (.int .i64 ((i + 1 : Nat) : Int)) ((d_add64 (by omega) (by omega)).trans (by simp)) ?_
    exact jump_step rfl (hX (i + 1) (by omega) (by omega))
  · obtain rfl : i = l.length := by omega
    rw [List.take_length]
    refine loop_st (fun i : Nat => [rw' m, .int .i64 (i : Int)] ++ gD [d] ++ [rw' (l.map (· / d)), rw' ((m.take i).map (· / d))]) (fun i => i ≤ m.length) (fun i => m.length - i) 0 (Nat.zero_le _) rfl (fun _ => rfl) fun i hi Y hY => ?_
    simp only [JJ]
    refine primS (.int .i64 (m.length : Int)) (rw_len m) ?_
    refine primS (.bool (decide _)) d_lss ?_
    refine itD rfl (fun c1 => ?_) (fun c1 => ?_)
    · have hlt : i < m.length := by omega
      refine primS (.bool true) (rw_inb hlt) ?_
      try simp only [JJ]
      refine get_rr (x := .var 0) (i := .var 1) (rw_get hlt) (fun _ => rfl) (fun _ => rfl) ?_
      simp only [JJ]
      refine cs1 (fr_OverK (h3 _ (List.getElem_mem hlt)) h5) ?_
      simp only [JJ]
      refine primS (rw' [m[i] / d]) rfl ?_
      refine primS (rw' ((m.take i).map (· / d) ++ [m[i] / d])) (rw_app (by rw [List.length_map, List.length_take]; simp; omega)) ?_
      rw [show (m.take i).map (· / d) ++ [m[i] / d] = (m.take (i + 1)).map (· / d) by rw [List.take_add_one, List.map_append, List.getElem?_eq_getElem hlt]; rfl]
      refine primS (.int .i64 ((i + 1 : Nat) : Int)) ((d_add64 (by omega) (by omega)).trans (by simp)) ?_
      exact jump_step rfl (hY (i + 1) (by omega) (by omega))
    · obtain rfl : i = m.length := by omega
      rw [List.take_length]
      exact ret_step rfl

/-! ### How long the weights can be -/
theorem Pt.neg {D V : Nat} {x : Rat} (h : Pt D V x) : Pt D V (-x) := by
  obtain ⟨k, hk, h1⟩ := h
  exact ⟨-k, by rw [Rat.intCast_neg, ← hk, Rat.neg_mul], by rw [Int.natAbs_neg]; exact h1⟩
theorem any_sm {l : List Rat} {D L1 L2 L : Nat} (hl : l.length ≤ 34) (hc : ∀ x ∈ l, Cl D x) (hs : ∀ x ∈ l, Sm L1 x) (hD : 0 < D) (hD2 : D ≤ 4294967296 ^ L2) (hL : L1 + L2 + 2 + 1 ≤ L) {x : Rat} (hx : x ∈ l) : Sm L (x / sumR l) := by
  have h := sum_pt' (pt_all hc hs hD2) hl l.length
  rw [List.take_length] at h
  obtain ⟨k, h1, h2⟩ := pt_all hc hs hD2 x hx
  have g : Pt D (34 * 4294967296 ^ (L1 + (L2 + 1))) x := ⟨k, h1, Nat.le_trans h2 (Nat.le_mul_of_pos_left _ (by decide))⟩
  by_cases c0 : sumR l = 0
  · rw [c0, Rat.div_def, Rat.inv_zero, Rat.mul_zero]; exact Sm0.mono (by omega)
  · by_cases c1 : 0 < sumR l
    · exact g.div h hD c1 (pow34 hL) (pow34 hL) (by omega)
    · have e : x / sumR l = (-x) / (-sumR l) := by
        generalize sumR l = s at c0
        grind
      rw [e]
      exact g.neg.div h.neg hD (by grind) (pow34 hL) (pow34 hL) (by omega)
theorem J_cl : ∀ x ∈ p.J, Cl p.dD x := fun x hx => by
  unfold Pa.J at hx
  split at hx
  · rename_i c
    obtain ⟨i, _, rfl⟩ := List.mem_map.1 hx
    exact cl_q c.1.2 i
  · cases hx
theorem M_cl : ∀ x ∈ p.M, Cl p.dD x := fun x hx => by
  unfold Pa.M at hx
  split at hx
  · rename_i c
    obtain ⟨i, hi, rfl⟩ := List.mem_map.1 hx
    rw [List.mem_range] at hi
    exact cl_m c.1.2 (by omega)
  · cases hx
/-- How long the common denominator is at most. -/
@[irreducible] def LD : Nat := 1048576 + 15 * 1811941000 + (160000000 + 15 * 24827000000) + 3145728
theorem LD_eq : 1048576 + 15 * 1811941000 + (160000000 + 15 * 24827000000) + 3145728 = LD := by unfold LD; rfl
theorem LD_KL : 403000000000 + LD + 2 + 1 ≤ KL := by unfold LD; decide
theorem SPa.dD (h : SPa 1048576 p) : p.dD ≤ 4294967296 ^ LD :=
  dD_le' LD_eq h.start (fun i => (SS.ahd2 (h.s i) (h.s (i + 1)) (h.e i)).mono (by decide)) h.film (fun i => (SS.ahd2 (h.s _) (h.s _) (h.e _).inv).mono (by decide)) (h.merge.mono (by decide))
theorem pure_WeighShares (h : NP 1048576 r p) (hm : Num 1048576 r.merge p.merge) : PureCalls prog F.penumbralaw18_WeighShares [.agg r.c] [.one (.bool true)] := by
  refine symFunc_sound hmix tree_penumbralaw18_WeighShares (by kernel_rfl) rfl ?_
  unfold ir_penumbralaw18_WeighShares
  have hS := h.sm
  have a1 := J_len (p := p)
  have a2 := M_len (p := p)
  have sJ : ∀ x ∈ p.J, Sm 403000000000 x := fun x hx => (hS.J x hx).mono (by decide)
  have sM := hS.M
  have hDp : 0 < p.dD := dD_pos
  have hDl := hS.dD
  have hKL := LD_KL
  have hl : (p.J ++ p.M).length ≤ 34 := by rw [List.length_append]; omega
  have et : sumR (p.J ++ p.M) = p.t := by
    have key : ∀ (b : List Rat) (x : Rat), b.foldl (· + ·) x = x + sumR b := fun b => by
      induction b with
      | nil => intro x; exact (Rat.add_zero x).symm
      | cons y b ih =>
        intro x
        rw [sumR, List.foldl_cons, List.foldl_cons, ih, ih, Rat.zero_add, Rat.add_assoc]
    unfold Pa.t
    rw [sumR, List.foldl_append, key, ← sumR]
  have fl : ∀ x ∈ p.J ++ p.M, Cl p.dD x := fun x hx => (List.mem_append.1 hx).elim (J_cl x) (M_cl x)
  have sl : ∀ x ∈ p.J ++ p.M, Sm 403000000000 x := fun x hx => (List.mem_append.1 hx).elim (sJ x) (sM x)
  have q1 := sums_sm (L := KL) (by omega) J_cl sJ hDp hDl hKL
  have q2 := sums_sm (L := KL) (by omega) M_cl sM hDp hDl hKL
  have q3 := sums_sm (L := KL) hl fl sl hDp hDl hKL
  have q5 := fun (x : Rat) (hx : x ∈ p.J ++ p.M) => any_sm (L := KL) hl fl sl hDp hDl hKL hx
  rw [et] at q5
  have hle : (403000000000 : Nat) ≤ KL := by decide
  have q6 : Sm KL p.t := by
    have := q3 (p.J ++ p.M).length
    rwa [List.take_length, et] at this
  have kw := f_Weights h (fun x hx => (sJ x hx).mono hle) q1 (fun x hx => (sM x hx).mono hle) q2 q6
  have kr := fr_Weights h (fun x hx => (sJ x hx).mono hle) q1 (fun x hx => (sM x hx).mono hle) q2 q6
  have e1 := f_SameK (l := p.J.map (· / p.t)) (fun x hx => by obtain ⟨y, hy, rfl⟩ := List.mem_map.1 hx; exact q5 y (List.mem_append.2 (.inl hy))) (by rw [List.length_map]; omega)
  have e2 := f_SameK (l := p.M.map (· / p.t)) (fun x hx => by obtain ⟨y, hy, rfl⟩ := List.mem_map.1 hx; exact q5 y (List.mem_append.2 (.inr hy))) (by rw [List.length_map]; omega)
  clear q1 q2 q3 q5 sJ sM hDl fl sl hKL hDp
  simp only [RP.c, RP.tl, RE.c, RCam.c] at kw kr ⊢
  simp only [JJ]
  refine call_step kw rfl ?_
  try simp only [JJ]
  refine call_step kr rfl ?_
  try simp only [JJ]
  refine call_step f_fixed18 rfl ?_
  try simp only [JJ]
  refine itT rfl ?_
  refine call_step e1 rfl ?_
  try simp only [JJ]
  refine itT rfl ?_
  refine call_step e2 rfl ?_
  try simp only [JJ]
  exact ret_step rfl
end
end Go.Px.Na

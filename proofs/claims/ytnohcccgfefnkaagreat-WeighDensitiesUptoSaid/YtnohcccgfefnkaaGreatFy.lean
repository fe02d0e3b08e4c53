/- Fy: shares; rows that are the same; the answers that the document fixes. -/
import Derived.Test.YtnohcccgfefnkaaGreatFx
set_option maxRecDepth 20000
set_option maxHeartbeats 40000000
set_option linter.unusedVariables false
set_option linter.unusedSimpArgs false
namespace Go.Px
open Go.RowKit
def ir_weigh_Weights_1 : IR :=
 .prim .len [.var 0] <|
 .loop [.var 0, .var 4, .int .i64 (0), .var 1, .var 2, .var 3, .nil] (
  .prim (.bin .lss) [.var 2, .var 1] <|
  .ite (.var 7) (
   .prim (.inb 3) [.var 0, .var 2] <|
   .prim (.get 3 0) [.var 0, .var 2] <|
   .prim (.get 3 1) [.var 0, .var 2] <|
   .prim (.get 3 2) [.var 0, .var 2] <|
   .call F.rat_Div [.agg [.var 9, .var 10, .var 11], .agg [.var 3, .var 4, .var 5]] [.agg 3, .one] <|
   .prim (.mk 1) [.var 12, .var 13, .var 14] <|
   .prim (.app 3 56) [.var 6, .var 16] <|
   .prim (.bin .add) [.var 2, .int .i64 (1)] <|
   .jump 0 [.var 0, .var 1, .var 18, .var 3, .var 4, .var 5, .var 17]) (
   .ret [.one (.var 6)]))

def ir_weigh_Weights : IR :=
 .call F.weigh_Densities [.agg [.var 0, .var 1, .var 2, .var 3, .var 4, .var 5, .var 6, .var 7, .var 8, .var 9, .var 10, .var 11, .var 12, .var 13, .var 14, .var 15, .var 16, .var 17, .var 18, .var 19, .var 20, .var 21, .var 22, .var 23, .var 24, .var 25, .var 26, .var 27, .var 28, .var 29, .var 30, .var 31, .var 32, .var 33, .var 34, .var 35, .var 36, .var 37, .var 38, .var 39, .var 40, .var 41, .var 42, .var 43, .var 44, .var 45, .var 46, .var 47, .var 48, .var 49, .var 50, .var 51, .var 52, .var 53, .var 54, .var 55, .var 56, .var 57, .var 58, .var 59, .var 60, .var 61, .var 62, .var 63, .var 64, .var 65, .var 66, .var 67, .var 68, .var 69, .var 70]] [.one, .one] <|
 .call F.rat_Sum [.one (.var 71)] [.agg 3] <|
 .call F.rat_Sum [.one (.var 72)] [.agg 3] <|
 .prim (.mk 2) [.var 73, .var 74, .var 75, .var 76, .var 77, .var 78] <|
 .call F.rat_Sum [.one (.var 79)] [.agg 3] <|
 .call F.weigh_Weights_1 [.one (.var 71), .ref [.var 80, .var 81, .var 82]] [.one] <|
 .call F.weigh_Weights_1 [.one (.var 72), .ref [.var 80, .var 81, .var 82]] [.one] <|
 .ret [.one (.var 83), .one (.var 84)]

def ir_penumbraref09_Same : IR :=
 .prim .len [.var 0] <|
 .prim .len [.var 1] <|
 .prim (.bin .neq) [.var 2, .var 3] <|
 .ite (.var 4) (
  .ret [.one (.bol false)]) (
  .loop [.var 0, .var 1, .int .i64 (0)] (
   .prim .len [.var 0] <|
   .prim (.bin .lss) [.var 2, .var 3] <|
   .ite (.var 4) (
    .prim (.inb 3) [.var 0, .var 2] <|
    .prim (.get 3 0) [.var 0, .var 2] <|
    .prim (.get 3 1) [.var 0, .var 2] <|
    .prim (.get 3 2) [.var 0, .var 2] <|
    .prim (.inb 3) [.var 1, .var 2] <|
    .prim (.get 3 0) [.var 1, .var 2] <|
    .prim (.get 3 1) [.var 1, .var 2] <|
    .prim (.get 3 2) [.var 1, .var 2] <|
    .call F.penumbraref03_Is [.agg [.var 6, .var 7, .var 8], .agg [.var 10, .var 11, .var 12]] [.one] <|
    .prim .not [.var 13] <|
    .ite (.var 14) (
     .ret [.one (.bol false)]) (
     .prim (.bin .add) [.var 2, .int .i64 (1)] <|
     .jump 0 [.var 0, .var 1, .var 15])) (
    .ret [.one (.bol true)])))

def ir_penumbralaw18_middle : IR :=
 .call F.vec_Of [.one (.int .i64 (0)), .one (.int .i64 (0)), .one (.int .i64 (2))] [.agg 9] <|
 .call F.vec_Of [.one (.int .i64 (0)), .one (.int .i64 (0)), .one (.int .i64 (-1))] [.agg 9] <|
 .call F.rat_Of [.one (.int .i64 (1)), .one (.int .i64 (1))] [.agg 3] <|
 .call F.affine_Identity [] [.agg 36] <|
 .call F.rat_Of [.one (.int .i64 (1)), .one (.int .i64 (1))] [.agg 3] <|
 .call F.rat_Of [.one (.int .i64 (1)), .one (.int .i64 (8))] [.agg 3] <|
 .call F.vec_Of [.one (.int .i64 (0)), .one (.int .i64 (0)), .one (.int .i64 (0))] [.agg 9] <|
 .call F.vec_Of [.one (.int .i64 (0)), .one (.int .i64 (0)), .one (.int .i64 (1))] [.agg 9] <|
 .prim (.mk 1) [.var 64, .var 65, .var 66, .var 67, .var 68, .var 69, .var 70, .var 71, .var 72, .var 73, .var 74, .var 75, .var 76, .var 77, .var 78, .var 79, .var 80, .var 81] <|
 .call F.rat_Of [.one (.int .i64 (0)), .one (.int .i64 (1))] [.agg 3] <|
 .ret [.agg [.var 61, .var 62, .var 63, .var 82, .nil, .var 22, .var 23, .var 24, .var 25, .var 26, .var 27, .var 28, .var 29, .var 30, .var 31, .var 32, .var 33, .var 34, .var 35, .var 36, .var 37, .var 38, .var 39, .var 40, .var 41, .var 42, .var 43, .var 44, .var 45, .var 46, .var 47, .var 48, .var 49, .var 50, .var 51, .var 52, .var 53, .var 54, .var 55, .var 56, .var 57, .var 0, .var 58, .var 59, .var 60, .var 1, .var 2, .var 3, .var 4, .var 5, .var 6, .var 7, .var 8, .var 9, .var 10, .var 11, .var 12, .var 13, .var 14, .var 15, .var 16, .var 17, .var 18, .int .i64 (1), .int .i64 (1), .var 19, .var 20, .var 21, .var 83, .var 84, .var 85]]

def ir_penumbralaw18_fixed : IR :=
 .call F.penumbralaw18_middle [.one (.int .i64 (0))] [.agg 71] <|
 .call F.weigh_Densities [.agg [.var 0, .var 1, .var 2, .var 3, .var 4, .var 5, .var 6, .var 7, .var 8, .var 9, .var 10, .var 11, .var 12, .var 13, .var 14, .var 15, .var 16, .var 17, .var 18, .var 19, .var 20, .var 21, .var 22, .var 23, .var 24, .var 25, .var 26, .var 27, .var 28, .var 29, .var 30, .var 31, .var 32, .var 33, .var 34, .var 35, .var 36, .var 37, .var 38, .var 39, .var 40, .var 41, .var 42, .var 43, .var 44, .var 45, .var 46, .var 47, .var 48, .var 49, .var 50, .var 51, .var 52, .var 53, .var 54, .var 55, .var 56, .var 57, .var 58, .var 59, .var 60, .var 61, .var 62, .var 63, .var 64, .var 65, .var 66, .var 67, .var 68, .var 69, .var 70]] [.one, .one] <|
 .call F.penumbralaw18_middle [.one (.int .i64 (1))] [.agg 71] <|
 .call F.weigh_Weights [.agg [.var 73, .var 74, .var 75, .var 76, .var 77, .var 78, .var 79, .var 80, .var 81, .var 82, .var 83, .var 84, .var 85, .var 86, .var 87, .var 88, .var 89, .var 90, .var 91, .var 92, .var 93, .var 94, .var 95, .var 96, .var 97, .var 98, .var 99, .var 100, .var 101, .var 102, .var 103, .var 104, .var 105, .var 106, .var 107, .var 108, .var 109, .var 110, .var 111, .var 112, .var 113, .var 114, .var 115, .var 116, .var 117, .var 118, .var 119, .var 120, .var 121, .var 122, .var 123, .var 124, .var 125, .var 126, .var 127, .var 128, .var 129, .var 130, .var 131, .var 132, .var 133, .var 134, .var 135, .var 136, .var 137, .var 138, .var 139, .var 140, .var 141, .var 142, .var 143]] [.one, .one] <|
 .call F.weigh_Weights [.agg [.bol false, .nil, .nil, .nil, .nil, .bol false, .nil, .nil, .bol false, .nil, .nil, .bol false, .nil, .nil, .bol false, .nil, .nil, .bol false, .nil, .nil, .bol false, .nil, .nil, .bol false, .nil, .nil, .bol false, .nil, .nil, .bol false, .nil, .nil, .bol false, .nil, .nil, .bol false, .nil, .nil, .bol false, .nil, .nil, .int .i64 (0), .bol false, .nil, .nil, .bol false, .nil, .nil, .bol false, .nil, .nil, .bol false, .nil, .nil, .bol false, .nil, .nil, .bol false, .nil, .nil, .bol false, .nil, .nil, .int .i64 (0), .int .i64 (0), .bol false, .nil, .nil, .bol false, .nil, .nil]] [.one, .one] <|
 .prim .len [.var 71] <|
 .prim (.bin .neq) [.var 148, .int .i64 (2)] <|
 .ite (.var 149) (
  .ret [.one (.bol false)]) (
  .prim .len [.var 72] <|
  .prim (.bin .neq) [.var 150, .int .i64 (0)] <|
  .ite (.var 151) (
   .ret [.one (.bol false)]) (
   .prim .len [.var 144] <|
   .prim (.bin .neq) [.var 152, .int .i64 (2)] <|
   .ite (.var 153) (
    .ret [.one (.bol false)]) (
    .prim .len [.var 146] <|
    .prim (.bin .neq) [.var 154, .int .i64 (0)] <|
    .ite (.var 155) (
     .ret [.one (.bol false)]) (
     .prim (.inb 3) [.var 71, .int .i64 (0)] <|
     .prim (.get 3 0) [.var 71, .int .i64 (0)] <|
     .prim (.get 3 1) [.var 71, .int .i64 (0)] <|
     .prim (.get 3 2) [.var 71, .int .i64 (0)] <|
     .call F.penumbraref03_Of [.one (.int .i64 (1)), .one (.int .i64 (16))] [.agg 3] <|
     .call F.penumbraref03_Is [.agg [.var 157, .var 158, .var 159], .agg [.var 160, .var 161, .var 162]] [.one] <|
     .ite (.var 163) (
      .prim (.inb 3) [.var 71, .int .i64 (1)] <|
      .prim (.get 3 0) [.var 71, .int .i64 (1)] <|
      .prim (.get 3 1) [.var 71, .int .i64 (1)] <|
      .prim (.get 3 2) [.var 71, .int .i64 (1)] <|
      .call F.penumbraref03_Of [.one (.int .i64 (1)), .one (.int .i64 (8))] [.agg 3] <|
      .call F.penumbraref03_Is [.agg [.var 165, .var 166, .var 167], .agg [.var 168, .var 169, .var 170]] [.one] <|
      .ite (.var 171) (
       .prim (.inb 3) [.var 144, .int .i64 (0)] <|
       .prim (.get 3 0) [.var 144, .int .i64 (0)] <|
       .prim (.get 3 1) [.var 144, .int .i64 (0)] <|
       .prim (.get 3 2) [.var 144, .int .i64 (0)] <|
       .call F.penumbraref03_One [] [.agg 3] <|
       .call F.penumbraref03_Is [.agg [.var 173, .var 174, .var 175], .agg [.var 176, .var 177, .var 178]] [.one] <|
       .ite (.var 179) (
        .prim (.inb 3) [.var 144, .int .i64 (1)] <|
        .prim (.get 3 0) [.var 144, .int .i64 (1)] <|
        .prim (.get 3 1) [.var 144, .int .i64 (1)] <|
        .prim (.get 3 2) [.var 144, .int .i64 (1)] <|
        .call F.penumbraref03_Zero [] [.agg 3] <|
        .call F.penumbraref03_Is [.agg [.var 181, .var 182, .var 183], .agg [.var 184, .var 185, .var 186]] [.one] <|
        .ret [.one (.var 187)]) (
        .ret [.one (.bol false)])) (
       .ret [.one (.bol false)])) (
      .ret [.one (.bol false)])))))

theorem tree_weigh_Weights_1 : symFunc Go.Proofs.Tryz.prog ⟨fun f => [].contains f, fun f i => if f = 40 ∧ i = 3 then [⟨[(1, .s (.one (.lp 0 0))), (4, .s (.one (.own 1))), (9, .s (.one (.at (.var 0)))), (10, .s (.one (.at (.var 1)))), (11, .s (.one (.at (.var 2))))], [], [(0, .box [.at (.var 3), .at (.var 4), .at (.var 5)] 0 true), (1, .own (.var 6) 3 24)], 2, 7⟩] else [], fun f i => [], fun f => [].contains f, fun f => none⟩ 400 F.weigh_Weights_1 [.one, .ref 3 0] = some ir_weigh_Weights_1 := by kernel_rfl
theorem tree_weigh_Weights : symFunc Go.Proofs.Tryz.prog H0 400 F.weigh_Weights [.agg 71] = some ir_weigh_Weights := by kernel_rfl
theorem tree_penumbraref09_Same : symFunc Go.Proofs.Tryz.prog ⟨fun f => [].contains f, fun f i => if f = 7 ∧ i = 4 then [⟨[(0, .s (.one (.at (.var 0)))), (1, .s (.one (.at (.var 1)))), (5, .s (.one (.at (.var 2))))], [], [], 0, 3⟩] else [], fun f i => [], fun f => [].contains f, fun f => none⟩ 400 F.penumbraref09_Same [.one, .one] = some ir_penumbraref09_Same := by kernel_rfl
theorem tree_penumbralaw18_middle : symFunc Go.Proofs.Tryz.prog H0 400 F.penumbralaw18_middle [.one] = some ir_penumbralaw18_middle := by kernel_rfl
theorem tree_penumbralaw18_fixed : symFunc Go.Proofs.Tryz.prog H0 400 F.penumbralaw18_fixed [] = some ir_penumbralaw18_fixed := by kernel_rfl
end Go.Px
namespace Go.Px.Na
open Go.RowKit
open Go.Proofs.Tryz (prog)
/-- A row of numbers. -/
def rw' (l : List Rat) : DV := rl (l.map cr)
def sumR (l : List Rat) : Rat := l.foldl (· + ·) 0
theorem sumL_cr (l : List Rat) : sumL (l.map cr) = sumR l := by
  unfold sumL sumR
  rw [List.foldl_map]
  congr 1
  funext a b
  rw [cr_v]
theorem f_SumK {l : List Rat} (hl : l.length ≤ 1000) (h1 : ∀ x ∈ l, Sm KL x) (h2 : ∀ k, Sm KL (sumR (l.take k))) : PureCalls prog F.rat_Sum [.one (rw' l)] [.agg (gD [sumR l])] := by
  have h := c_sum (l.map cr) (by rw [List.length_map]; omega) (fun r hr => by obtain ⟨x, hx, rfl⟩ := List.mem_map.1 hr; exact cr_ok (h1 x hx)) (fun k => by rw [← List.map_take, sumL_cr]; exact h2 k)
  rw [sumL_cr] at h
  exact h
theorem f_DivK {x y : Rat} (hx : Sm KL x) (hy : Sm KL y) : PureCalls prog F.rat_Div [.agg (gD [x]), .agg (gD [y])] [.agg (gD [x / y]), .one (.bool (decide (¬y = 0)))] := by
  have h := c_div (cr x) (cr y) (cr_ok hx) (cr_ok hy)
  rw [cr_v, cr_v] at h
  by_cases c : y = 0
  · rw [decide_eq_false (fun z => z c), c, Rat.div_def, Rat.inv_zero, Rat.mul_zero]
    rw [c] at h
    simp only [divQ, if_true] at h
    rw [← c] at h ⊢
    rw [c] at h ⊢
    exact h
  · rw [decide_eq_true c]
    simp only [divQ, if_neg c] at h
    exact h
theorem rw_get {l : List Rat} {i : Nat} (h : i < l.length) : (l.map cr)[i]? = some (cr l[i]) := by simp [h]
theorem rw_inb {l : List Rat} {k : IntKind} {i : Nat} (hi : i < l.length) : Prim.den (.inb 3) [rw' l, .int k (i : Int)] = some (.bool true) := rl_inb (by rw [List.length_map]; exact hi)
theorem rw_app {a b : List Rat} (h : a.length + b.length ≤ 1000) : Prim.den (.app 3 56) [rw' a, rw' b] = some (rw' (a ++ b)) := by
  rw [rw', rw', rl_app (by rw [List.length_map, List.length_map]; exact h), rw', List.map_append]
theorem rw_len (l : List Rat) : Prim.den .len [rw' l] = some (.int .i64 (l.length : Int)) := by
  rw [rw', d_len3, List.length_map]
theorem f_share {l : List Rat} {d : Rat} (hl : l.length ≤ 900) (h1 : ∀ x ∈ l, Sm KL x) (hd : Sm KL d) : PureCalls prog F.weigh_Weights_1 [.one (rw' l), .ref (gD [d])] [.one (rw' (l.map (· / d)))] := by
  refine symFunc_sound hmix tree_weigh_Weights_1 (by kernel_rfl) rfl ?_
  unfold ir_weigh_Weights_1
  simp only [JJ]
  refine primS (.int .i64 (l.length : Int)) (rw_len l) ?_
  refine loop_st (fun i : Nat => [rw' l, .int .i64 (l.length : Int), .int .i64 (i : Int)] ++ gD [d] ++ [rw' ((l.take i).map (· / d))]) (fun i => i ≤ l.length) (fun i => l.length - i) 0 (Nat.zero_le _) rfl (fun _ => rfl) fun i hi X hX => ?_
  simp only [JJ]
  refine primS (.bool (decide _)) d_lss ?_
  refine itD rfl (fun c1 => ?_) (fun c1 => ?_)
  · have hlt : i < l.length := by omega
    refine primS (.bool true) (rw_inb hlt) ?_
    try simp only [JJ]
    refine get_rr (x := .var 0) (i := .var 2) (rw_get hlt) (fun _ => rfl) (fun _ => rfl) ?_
    simp only [JJ]
    refine call_step (f_DivK (h1 _ (List.getElem_mem hlt)) hd) rfl ?_
    simp only [JJ]
    refine primS (rw' [l[i] / d]) rfl ?_
    refine primS (rw' ((l.take i).map (· / d) ++ [l[i] / d])) (rw_app (by rw [List.length_map, List.length_take]; simp; omega)) ?_
    rw [show (l.take i).map (· / d) ++ [l[i] / d] = (l.take (i + 1)).map (· / d) by rw [List.take_add_one, List.map_append, List.getElem?_eq_getElem hlt]; rfl]
    refine primS (.int .i64 ((i + 1 : Nat) : Int)) ((d_add64 (by omega) (by omega)).trans (by simp)) ?_
    exact jump_step rfl (hX (i + 1) (by omega) (by omega))
  · obtain rfl : i = l.length := by omega
    rw [List.take_length]
    exact ret_step rfl
theorem f_Same_t {l : List Rat} (h1 : ∀ x ∈ l, Sm LL x) (hl : l.length ≤ 1000) : PureCalls prog F.penumbraref09_Same [.one (rw' l), .one (rw' l)] [.one (.bool true)] := by
  refine symFunc_sound hmix tree_penumbraref09_Same (by kernel_rfl) rfl ?_
  unfold ir_penumbraref09_Same
  try simp only [JJ]
  refine primS (.int .i64 (l.length : Int)) (rw_len l) ?_
  refine primS (.int .i64 (l.length : Int)) (rw_len l) ?_
  refine primS (.bool false) (d_neq.trans (by rw [decide_eq_false (by omega)])) ?_
  refine itF rfl ?_
  refine loop_st (fun i : Nat => [rw' l, rw' l, .int .i64 (i : Int)]) (fun i => i ≤ l.length) (fun i => l.length - i) 0 (Nat.zero_le _) rfl (fun _ => rfl) fun i hi X hX => ?_
  refine primS (.int .i64 (l.length : Int)) (rw_len l) ?_
  refine primS (.bool (decide _)) d_lss ?_
  refine itD rfl (fun c1 => ?_) (fun c1 => ?_)
  · have hlt : i < l.length := by omega
    refine primS (.bool true) (rw_inb hlt) ?_
    try simp only [JJ]
    refine get_rr (x := .var 0) (i := .var 2) (rw_get hlt) (fun _ => rfl) (fun _ => rfl) ?_
    simp only [JJ]
    refine primS (.bool true) (rw_inb hlt) ?_
    try simp only [JJ]
    refine get_rr (x := .var 1) (i := .var 2) (rw_get hlt) (fun _ => rfl) (fun _ => rfl) ?_
    simp only [JJ]
    have n := Num.of (h1 _ (List.getElem_mem hlt))
    refine call_step (f_Is_t rfl n n ⟨Nat.le_refl _, Nat.le_refl _⟩) rfl ?_
    simp only [JJ]
    refine primS (.bool false) rfl ?_
    refine itF rfl ?_
    refine primS (.int .i64 ((i + 1 : Nat) : Int)) ((d_add64 (by omega) (by omega)).trans (by simp)) ?_
    exact jump_step rfl (hX (i + 1) (by omega) (by omega))
  · exact ret_step rfl

/-! ### What each way counts -/
def Pa.J (p : Pa) : List Rat := if p.may then (List.range (p.n + 1)).map p.q else []
def Pa.M (p : Pa) : List Rat := if p.may then (List.range (p.n - 1)).map fun i => p.m (i + 1) else []
section
variable {r : RP} {p : Pa}
theorem J_len : p.J.length ≤ 17 := by
  unfold Pa.J
  split
  · rename_i h; rw [List.length_map, List.length_range]; have := h.1.2; omega
  · simp
theorem M_len : p.M.length ≤ 17 := by
  unfold Pa.M
  split
  · rename_i h; rw [List.length_map, List.length_range]; have := h.1.2; omega
  · simp
theorem f_Densities (h : NP 1048576 r p) : PureCalls prog F.weigh_Densities [.agg r.c] [.one (rw' p.J), .one (rw' p.M)] := by
  have k := f_weigh_Densities h
  rw [show rl (if p.may then p.rowQ (p.n + 1) else []) = rw' p.J by unfold rw' Pa.J Pa.rowQ; split <;> simp [Function.comp_def], show rl (if p.may then p.rowM (p.n - 1) else []) = rw' p.M by unfold rw' Pa.M Pa.rowM; split <;> simp [Function.comp_def]] at k
  exact k
def Pa.t (p : Pa) : Rat := sumR p.J + sumR p.M
theorem f_Weights (h : NP 1048576 r p) (h1 : ∀ x ∈ p.J, Sm KL x) (h2 : ∀ k, Sm KL (sumR (p.J.take k))) (h3 : ∀ x ∈ p.M, Sm KL x) (h4 : ∀ k, Sm KL (sumR (p.M.take k))) (h5 : Sm KL p.t) :
    PureCalls prog F.weigh_Weights [.agg r.c] [.one (rw' (p.J.map (· / p.t))), .one (rw' (p.M.map (· / p.t)))] := by
  refine symFunc_sound hmix tree_weigh_Weights (by kernel_rfl) rfl ?_
  unfold ir_weigh_Weights
  simp only [RP.c, RP.tl, RE.c, RCam.c]
  simp only [JJ]
  have a1 := J_len (p := p)
  have a2 := M_len (p := p)
  refine call_step (f_Densities h) rfl ?_
  try simp only [JJ]
  refine call_step (f_SumK (by omega) h1 h2) rfl ?_
  simp only [JJ]
  refine call_step (f_SumK (by omega) h3 h4) rfl ?_
  simp only [JJ]
  refine primS (rw' [sumR p.J, sumR p.M]) rfl ?_
  have s1 : Sm KL (sumR p.J) := by have := h2 p.J.length; rwa [List.take_length] at this
  have s2 : Sm KL (sumR p.M) := by have := h4 p.M.length; rwa [List.take_length] at this
  have e2 : sumR [sumR p.J, sumR p.M] = p.t := by show 0 + sumR p.J + sumR p.M = _; rw [Rat.zero_add]; rfl
  refine call_step (f_SumK (l := [sumR p.J, sumR p.M]) (by simp) (fun x hx => by
    simp only [List.mem_cons, List.not_mem_nil, or_false] at hx
    rcases hx with rfl | rfl
    · exact s1
    · exact s2) (fun k => by
    match k with
    | 0 => exact Sm0.mono (by decide)
    | 1 => show Sm KL (0 + sumR p.J); rw [Rat.zero_add]; exact s1
    | k + 2 => rw [List.take_of_length_le (by simp), e2]; exact h5)) rfl ?_
  rw [e2]
  simp only [JJ]
  refine call_step (f_share (by omega) h1 h5) rfl ?_
  try simp only [JJ]
  refine call_step (f_share (by omega) h3 h5) rfl ?_
  try simp only [JJ]
  exact ret_step rfl

/-! ### The answers that the document fixes -/
def rmid (k : Int) : RP := ⟨cr (1 / 8), [⟨cv v0, cv ⟨0, 0, 1⟩⟩], [], ⟨cm idm, k, cr 1⟩, ⟨cv ⟨0, 0, 2⟩, cv ⟨0, 0, -1⟩, 1, 1, cr 1⟩, cr 0⟩
def pmid (k : Int) : Pa := ⟨1 / 8, [⟨v0, ⟨0, 0, 1⟩⟩], [], ⟨idm, k⟩, ⟨⟨0, 0, 2⟩, ⟨0, 0, -1⟩, 1, 1, 1⟩, 0⟩
theorem Sm_k (x : Rat) (h : x.num.natAbs < 4294967296 ∧ x.den < 4294967296) : Sm 1 x := ⟨len_le_iff.2 (by simpa using h.1), len_le_iff.2 (by simpa using h.2)⟩
theorem np_mid (k : Int) : NP 1048576 (rmid k) (pmid k) where
  start := (Num.of (Sm_k (1 / 8) (by decide +kernel))).mono (by decide)
  spn := rfl
  sp := fun i a b ha hb => by
    match i with
    | 0 => cases ha; cases hb; exact ⟨(NV.of ⟨Sm_k _ (by decide +kernel), Sm_k _ (by decide +kernel), Sm_k _ (by decide +kernel)⟩).mono (by decide), (NV.of ⟨Sm_k _ (by decide +kernel), Sm_k _ (by decide +kernel), Sm_k _ (by decide +kernel)⟩).mono (by decide)⟩
    | i + 1 => cases ha
  edn := rfl
  ed := fun i a b ha hb => by cases ha
  last := ⟨(NM.of Sidm).mono (by decide), rfl⟩
  cam := ⟨(NV.of ⟨Sm_k _ (by decide +kernel), Sm_k _ (by decide +kernel), Sm_k _ (by decide +kernel)⟩).mono (by decide), (NV.of ⟨Sm_k _ (by decide +kernel), Sm_k _ (by decide +kernel), Sm_k _ (by decide +kernel)⟩).mono (by decide), rfl, rfl, (Num.of Sm1).mono (by decide)⟩
  merge := (Num.of Sm0).mono (by decide)
theorem f_middle (k : Int) : PureCalls prog F.penumbralaw18_middle [.one (.int .i64 k)] [.agg (rmid k).c] := by
  refine symFunc_sound hmix tree_penumbralaw18_middle (by kernel_rfl) rfl ?_
  unfold ir_penumbralaw18_middle
  try simp only [JJ]
  refine call_step (n_vec_Of (o0 := 0) (o1 := 0) (o2 := 2) 0 0 2 (by decide) (by decide) (by decide) (by decide) (by decide) (by decide) (by decide +kernel) (by decide +kernel) (by decide +kernel)) rfl ?_
  simp only [JJ]
  refine call_step (n_vec_Of (o0 := 0) (o1 := 0) (o2 := -1) 0 0 (-1) (by decide) (by decide) (by decide) (by decide) (by decide) (by decide) (by decide +kernel) (by decide +kernel) (by decide +kernel)) rfl ?_
  simp only [JJ]
  refine cs1 (n_rat_Of (k0 := 1) 1 1 (by decide) (by decide) (by decide) (by decide) (by decide +kernel)) ?_
  simp only [JJ]
  refine call_step f_affine_Identity rfl ?_
  simp only [JJ]
  refine cs1 (n_rat_Of (k0 := 1) 1 1 (by decide) (by decide) (by decide) (by decide) (by decide +kernel)) ?_
  simp only [JJ]
  refine cs1 (n_rat_Of (k0 := 1 / 8) 1 8 (by decide) (by decide) (by decide) (by decide) (by decide +kernel)) ?_
  simp only [JJ]
  refine call_step (n_vec_Of (o0 := 0) (o1 := 0) (o2 := 0) 0 0 0 (by decide) (by decide) (by decide) (by decide) (by decide) (by decide) (by decide +kernel) (by decide +kernel) (by decide +kernel)) rfl ?_
  simp only [JJ]
  refine call_step (n_vec_Of (o0 := 0) (o1 := 0) (o2 := 1) 0 0 1 (by decide) (by decide) (by decide) (by decide) (by decide) (by decide) (by decide +kernel) (by decide +kernel) (by decide +kernel)) rfl ?_
  simp only [JJ]
  refine primS (spl [⟨cv v0, cv ⟨0, 0, 1⟩⟩]) rfl ?_
  refine cs1 (n_rat_Of (k0 := 0) 0 1 (by decide) (by decide) (by decide) (by decide) (by decide +kernel)) ?_
  simp only [JJ]
  exact ret_step rfl
def rv0 : RV := ⟨rz, rz, rz⟩
def rno : RP := ⟨rz, [], [], ⟨⟨rv0, rv0, rv0, rv0⟩, 0, rz⟩, ⟨rv0, rv0, 0, 0, rz⟩, rz⟩
def pno : Pa := ⟨0, [], [], ⟨m0, 0⟩, ⟨v0, v0, 0, 0, 0⟩, 0⟩
theorem np_no : NP 1048576 rno pno :=
  have z : Num 1048576 rz 0 := Num.z0.mono (by decide)
  have w : NV 1048576 rv0 v0 := ⟨z, z, z⟩
  ⟨z, rfl, fun i a b ha hb => (by cases ha), rfl, fun i a b ha hb => (by cases ha), ⟨⟨w, w, w, w⟩, rfl⟩, ⟨w, w, rfl, rfl, z⟩, z.mono (by decide)⟩
theorem J_mid0 : (pmid 0).J = [1 / 16, 1 / 8] := by decide +kernel
theorem M_mid0 : (pmid 0).M = [] := by decide +kernel
theorem J_mid1 : (pmid 1).J = [1 / 16, 0] := by decide +kernel
theorem M_mid1 : (pmid 1).M = [] := by decide +kernel
theorem J_no : pno.J = [] := by decide +kernel
theorem M_no : pno.M = [] := by decide +kernel
theorem f_W1 : PureCalls prog F.weigh_Weights [.agg (rmid 1).c] [.one (rw' [1, 0]), .one (rw' [])] := by
  have t : (pmid 1).t = 1 / 16 := by rw [Pa.t, J_mid1, M_mid1]; decide +kernel
  have k := f_Weights (np_mid 1) (by rw [J_mid1]; intro x hx; simp only [List.mem_cons, List.not_mem_nil, or_false] at hx; rcases hx with rfl | rfl <;> exact (Sm_k _ (by decide +kernel)).mono (by decide))
    (by
      rw [J_mid1]; intro k
      match k with
      | 0 => exact Sm0.mono (by decide)
      | 1 => exact (Sm_k (sumR [1 / 16]) (by decide +kernel)).mono (by decide)
      | k + 2 => rw [List.take_of_length_le (by simp)]; exact (Sm_k (sumR [1 / 16, 0]) (by decide +kernel)).mono (by decide))
    (by rw [M_mid1]; intro x hx; cases hx) (by rw [M_mid1]; intro k; rw [List.take_nil]; exact Sm0.mono (by decide)) (by rw [t]; exact (Sm_k (1 / 16) (by decide +kernel)).mono (by decide))
  rw [J_mid1, M_mid1, t, show ([1 / 16, 0] : List Rat).map (· / (1 / 16)) = [1, 0] by decide +kernel] at k
  exact k
theorem f_W0 : PureCalls prog F.weigh_Weights [.agg rno.c] [.one (rw' []), .one (rw' [])] := by
  have t : pno.t = 0 := by rw [Pa.t, J_no, M_no]; decide +kernel
  have k := f_Weights np_no (by rw [J_no]; intro x hx; cases hx) (by rw [J_no]; intro k; rw [List.take_nil]; exact Sm0.mono (by decide)) (by rw [M_no]; intro x hx; cases hx) (by rw [M_no]; intro k; rw [List.take_nil]; exact Sm0.mono (by decide)) (by rw [t]; exact Sm0.mono (by decide))
  rw [J_no, M_no] at k
  exact k
theorem f_fixed18 : PureCalls prog F.penumbralaw18_fixed [] [.one (.bool true)] := by
  refine symFunc_sound hmix tree_penumbralaw18_fixed (by kernel_rfl) rfl ?_
  unfold ir_penumbralaw18_fixed
  have k := f_Densities (np_mid 0)
  rw [J_mid0, M_mid0] at k
  try simp only [JJ]
  refine call_step (f_middle 0) rfl ?_
  simp only [RP.c, RP.tl, RE.c, RCam.c, rmid]
  try simp only [JJ]
  refine call_step k rfl ?_
  try simp only [JJ]
  refine call_step (f_middle 1) rfl ?_
  simp only [RP.c, RP.tl, RE.c, RCam.c, rmid]
  try simp only [JJ]
  refine call_step f_W1 rfl ?_
  try simp only [JJ]
  refine call_step f_W0 rfl ?_
  try simp only [JJ]
  refine primS (.int .i64 2) rfl ?_
  refine primS (.bool false) rfl ?_
  refine itF rfl ?_
  refine primS (.int .i64 0) rfl ?_
  refine primS (.bool false) rfl ?_
  refine itF rfl ?_
  refine primS (.int .i64 2) rfl ?_
  refine primS (.bool false) rfl ?_
  refine itF rfl ?_
  refine primS (.int .i64 0) rfl ?_
  refine primS (.bool false) rfl ?_
  refine itF rfl ?_
  refine primS (.bool true) (rw_inb (i := 0) (by decide)) ?_
  try simp only [JJ]
  refine get_rr (x := .var 71) (i := .int .i64 0) (j := 0) (rs := [1 / 16, 1 / 8].map cr) (r := cr (1 / 16)) rfl (fun _ => rfl) (fun _ => rfl) ?_
  simp only [JJ]
  refine cs1 (n_penumbraref03_Of (k0 := 1 / 16) 1 16 (by decide) (by decide) (by decide) (by decide) (by decide +kernel)) ?_
  simp only [JJ]
  have n1 := Num.of (Sm_k (1 / 16) (by decide +kernel))
  refine call_step (f_Is_t rfl n1 n1 (by decide)) rfl ?_
  simp only [JJ]
  refine itT rfl ?_
  refine primS (.bool true) (rw_inb (i := 1) (by decide)) ?_
  try simp only [JJ]
  refine get_rr (x := .var 71) (i := .int .i64 1) (j := 1) (rs := [1 / 16, 1 / 8].map cr) (r := cr (1 / 8)) rfl (fun _ => rfl) (fun _ => rfl) ?_
  simp only [JJ]
  refine cs1 (n_penumbraref03_Of (k0 := 1 / 8) 1 8 (by decide) (by decide) (by decide) (by decide) (by decide +kernel)) ?_
  simp only [JJ]
  have n2 := Num.of (Sm_k (1 / 8) (by decide +kernel))
  refine call_step (f_Is_t rfl n2 n2 (by decide)) rfl ?_
  simp only [JJ]
  refine itT rfl ?_
  refine primS (.bool true) (rw_inb (i := 0) (by decide)) ?_
  try simp only [JJ]
  refine get_rr (x := .var 144) (i := .int .i64 0) (j := 0) (rs := [1, 0].map cr) (r := cr 1) rfl (fun _ => rfl) (fun _ => rfl) ?_
  simp only [JJ]
  refine call_step f_R3_One rfl ?_
  simp only [JJ]
  have n3 := Num.of Sm1
  refine call_step (f_Is_t rfl n3 n3 (by decide)) rfl ?_
  simp only [JJ]
  refine itT rfl ?_
  refine primS (.bool true) (rw_inb (i := 1) (by decide)) ?_
  try simp only [JJ]
  refine get_rr (x := .var 144) (i := .int .i64 1) (j := 1) (rs := [1, 0].map cr) (r := cr 0) rfl (fun _ => rfl) (fun _ => rfl) ?_
  simp only [JJ]
  refine call_step f_R3_Zero rfl ?_
  simp only [JJ]
  have n4 := Num.of Sm0
  refine call_step (f_Is_t rfl n4 n4 (by decide)) rfl ?_
  simp only [JJ]
  exact ret_step rfl
end
end Go.Px.Na

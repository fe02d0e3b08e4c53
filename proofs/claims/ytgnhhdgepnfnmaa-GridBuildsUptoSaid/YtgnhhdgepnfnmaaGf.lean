/- Gf: the calls whose answers the document fixes; every play's answer. -/
import Derived.Test.YtgnhhdgepnfnmaaGp
set_option maxRecDepth 20000
set_option maxHeartbeats 40000000
set_option linter.unusedVariables false
set_option linter.unusedSimpArgs false
namespace Go.Px
open Go.RowKit
def ir_penumbralaw21_three : IR :=
 .call F.vec_Of [.one (.int .i64 (0)), .one (.int .i64 (0)), .one (.int .i64 (0))] [.agg 9] <|
 .call F.vec_Of [.one (.int .i64 (1)), .one (.int .i64 (0)), .one (.int .i64 (0))] [.agg 9] <|
 .call F.rat_Of [.one (.int .i64 (5)), .one (.int .i64 (2))] [.agg 3] <|
 .call F.rat_Of [.one (.int .i64 (0)), .one (.int .i64 (1))] [.agg 3] <|
 .call F.rat_Of [.one (.int .i64 (0)), .one (.int .i64 (1))] [.agg 3] <|
 .prim (.mk 3) [.var 0, .var 1, .var 2, .var 3, .var 4, .var 5, .var 6, .var 7, .var 8, .var 9, .var 10, .var 11, .var 12, .var 13, .var 14, .var 15, .var 16, .var 17, .var 18, .var 19, .var 20, .var 21, .var 22, .var 23, .var 24, .var 25, .var 26] <|
 .ret [.one (.var 27)]

def ir_penumbralaw21_fixed : IR :=
 .call F.penumbralaw21_three [] [.one] <|
 .call F.rat_Of [.one (.int .i64 (1)), .one (.int .i64 (1))] [.agg 3] <|
 .call F.grid_Build [.one (.var 0), .agg [.var 1, .var 2, .var 3], .one (.int .i64 (2))] [.agg 2, .one] <|
 .call F.penumbralaw21_three [] [.one] <|
 .call F.rat_Of [.one (.int .i64 (1)), .one (.int .i64 (1))] [.agg 3] <|
 .call F.grid_Play [.one (.var 7), .agg [.var 8, .var 9, .var 10], .one (.int .i64 (2)), .one (.int .i64 (1)), .one (.nil)] [.agg 2, .one, .one] <|
 .call F.vec_Of [.one (.int .i64 (0)), .one (.int .i64 (0)), .one (.int .i64 (0))] [.agg 9] <|
 .call F.rat_Of [.one (.int .i64 (0)), .one (.int .i64 (1))] [.agg 3] <|
 .call F.grid_Slot [.agg [.var 15, .var 16, .var 17, .var 18, .var 19, .var 20, .var 21, .var 22, .var 23], .agg [.var 24, .var 25, .var 26], .one (.int .i64 (2))] [.one, .one] <|
 .prim (.mk 2) [.int .i64 (2), .int .i64 (1)] <|
 .prim (.mk 3) [.int .i64 (-1), .int .i64 (-1), .int .i64 (0)] <|
 .ite (.var 6) (
  .call F.penumbraref21_Is [.agg [.var 4, .var 5], .agg [.var 29, .var 30]] [.one] <|
  .ite (.var 31) (
   .ite (.var 14) (
    .call F.penumbraref21_Is [.agg [.var 11, .var 12], .agg [.var 29, .var 30]] [.one] <|
    .ite (.var 32) (
     .prim (.bin .eql) [.var 13, .int .i64 (12)] <|
     .ite (.var 33) (
      .prim .not [.var 28] <|
      .ite (.var 34) (
       .call F.penumbralaw21_three [] [.one] <|
       .call F.rat_Of [.one (.int .i64 (1)), .one (.int .i64 (1))] [.agg 3] <|
       .call F.grid_Check [.agg [.var 29, .var 30], .one (.var 35), .agg [.var 36, .var 37, .var 38], .one (.int .i64 (2))] [.one] <|
       .ret [.one (.var 39)]) (
       .ret [.one (.bol false)])) (
      .ret [.one (.bol false)])) (
     .ret [.one (.bol false)])) (
    .ret [.one (.bol false)])) (
   .ret [.one (.bol false)])) (
  .ret [.one (.bol false)])

theorem tree_penumbralaw21_three : symFunc Go.Proofs.Try.prog ⟨fun f => [115].contains f, fun f i => [], fun f i => [], fun f => [144, 145].contains f⟩ 400 F.penumbralaw21_three [] = some ir_penumbralaw21_three := by kernel_rfl
theorem tree_penumbralaw21_fixed : symFunc Go.Proofs.Try.prog ⟨fun f => [115].contains f, fun f i => [], fun f i => [], fun f => [144, 145].contains f⟩ 400 F.penumbralaw21_fixed [] = some ir_penumbralaw21_fixed := by kernel_rfl
end Go.Px
namespace Go.Px.Na
open Go.RowKit
open Go.Proofs.Try (prog)
/-- A play's answer. -/
structure PlayIs (ps : List V3) (s : Rat) (n W : Nat) (picks : List Int) (K : Nat) : Prop where
  hK : can ps.length (itw (slots ps s n) picks ps.length (w0 n ps.length W) K) = []
  hj : ∀ j, j < K → can ps.length (itw (slots ps s n) picks ps.length (w0 n ps.length W) j) ≠ []
  hpf : ∀ k, k ≤ K → PF n ps.length W (slots ps s n) (itw (slots ps s n) picks ps.length (w0 n ps.length W) k)
  lo : 4 * ps.length ≤ K
  hi : K ≤ ps.length * (3 * W + 1)
  hb : K ≤ 1099511627776
  good : Good (itw (slots ps s n) picks ps.length (w0 n ps.length W) K).heads (itw (slots ps s n) picks ps.length (w0 n ps.length W) K).next (slots ps s n)
  one : W = 1 → (itw (slots ps s n) picks ps.length (w0 n ps.length W) K).heads = bh n (slots ps s n) ps.length ∧ (itw (slots ps s n) picks ps.length (w0 n ps.length W) K).next = bn n (slots ps s n) ps.length
theorem play_ex {ps : List V3} {s : Rat} {n W : Nat} (picks : List Int) (h : pmay ps s n W) : ∃ K, PlayIs ps s n W picks K := by
  obtain ⟨c, hN, hW1, hW2⟩ := h
  obtain ⟨K, h1, h2, h3, h4, h5, h6, h7⟩ := play_all (n := n) (N := ps.length) (W := W) (ss := slots ps s n) (picks := picks) (by omega) (slots_rng c)
  have h8 : ps.length * (3 * W + 1) ≤ 1000 * 193 := Nat.mul_le_mul hN (by omega)
  exact ⟨K, h1, h2, h3, h4, h5, by omega, h6, h7⟩
/-- What is built fits. -/
theorem built_fits {ps : List V3} {s : Rat} {n : Nat} (c : gmay s n) (hN : ps.length ≤ 1000) : fits (bh n (slots ps s n) ps.length) (bn n (slots ps s n) ps.length) ps s n := by
  obtain ⟨K, h⟩ := play_ex (n := n) (W := 1) [] ⟨c, hN, by omega, by omega⟩
  obtain ⟨e1, e2⟩ := h.one rfl
  have hg := h.good
  rw [e1, e2] at hg
  exact ⟨c, by rw [bh_len], by rw [bn_len], hg⟩
theorem play_fits {ps : List V3} {s : Rat} {n W K : Nat} {picks : List Int} (c : gmay s n) (h : PlayIs ps s n W picks K) : fits (itw (slots ps s n) picks ps.length (w0 n ps.length W) K).heads (itw (slots ps s n) picks ps.length (w0 n ps.length W) K).next ps s n := by
  have hp := h.hpf K (Nat.le_refl _)
  exact ⟨c, by rw [hp.hl], hp.nl, h.good⟩
def three_r : List RV := [cv o3, cv e1, cv ⟨5 / 2, 0, 0⟩]
def three_v : List V3 := [o3, e1, ⟨5 / 2, 0, 0⟩]
theorem S52 : SV 1 ⟨5 / 2, 0, 0⟩ := ⟨Smc (by decide +kernel) (by decide +kernel), Sm0, Sm0⟩
theorem three_nv : NVs 1 three_r three_v := ⟨rfl, fun i r p hr hp => by
  match i with
  | 0 => cases hr; cases hp; exact .of So3
  | 1 => cases hr; cases hp; exact .of Se1
  | 2 => cases hr; cases hp; exact .of S52
  | i + 3 => cases hr⟩
theorem three_s : slots three_v 1 (2 : Nat) = [0, 1, 0] := by decide +kernel
theorem f_three : PureCalls prog F.penumbralaw21_three [] [.one (vl three_r)] := by
  refine symFunc_sound hmix tree_penumbralaw21_three (by kernel_rfl) rfl ?_
  unfold ir_penumbralaw21_three
  try simp only [HH, gW, gD, V3.l, M4.l, Fr.l, Sp.l, RV.l, RM.l, RF.l, RS.l]
  refine cs3 (n_vec_Of (o0 := 0) (o1 := 0) (o2 := 0) 0 0 0 (by decide) (by decide) (by decide) (by decide) (by decide) (by decide) (by decide +kernel) (by decide +kernel) (by decide +kernel)) ?_
  try simp only [HH, gW, gD, V3.l, M4.l, Fr.l, Sp.l, RV.l, RM.l, RF.l, RS.l]
  refine cs3 (n_vec_Of (o0 := 1) (o1 := 0) (o2 := 0) 1 0 0 (by decide) (by decide) (by decide) (by decide) (by decide) (by decide) (by decide +kernel) (by decide +kernel) (by decide +kernel)) ?_
  try simp only [HH, gW, gD, V3.l, M4.l, Fr.l, Sp.l, RV.l, RM.l, RF.l, RS.l]
  refine cs1 (n_rat_Of (k0 := 5 / 2) 5 2 (by decide) (by decide) (by decide) (by decide) (by decide +kernel)) ?_
  try simp only [HH, gW, gD, V3.l, M4.l, Fr.l, Sp.l, RV.l, RM.l, RF.l, RS.l]
  refine cs1 (n_rat_Of (k0 := 0) 0 1 (by decide) (by decide) (by decide) (by decide) (by decide +kernel)) ?_
  try simp only [HH, gW, gD, V3.l, M4.l, Fr.l, Sp.l, RV.l, RM.l, RF.l, RS.l]
  refine cs1 (n_rat_Of (k0 := 0) 0 1 (by decide) (by decide) (by decide) (by decide) (by decide +kernel)) ?_
  try simp only [HH, gW, gD, V3.l, M4.l, Fr.l, Sp.l, RV.l, RM.l, RF.l, RS.l]
  refine primS (vl three_r) rfl ?_
  exact ret_step rfl
theorem f_fixed21 : PureCalls prog F.penumbralaw21_fixed [] [.one (.bool true)] := by
  have m1 : Num 1 (cr 1) 1 := .of Sm1
  have m0 : Num 1 (cr 0) 0 := .of Sm0
  have c1 : gmay 1 ((2 : Nat) : Int) := ⟨by decide +kernel, by decide, by decide⟩
  have c0 : ¬gmay 0 ((2 : Nat) : Int) := fun h => absurd h.1 (by decide)
  have hb1 : bh 2 (slots three_v 1 (2 : Nat)) 3 = [2, 1] := by rw [three_s]; decide
  have hb2 : bn 2 (slots three_v 1 (2 : Nat)) 3 = [-1, -1, 0] := by rw [three_s]; decide
  obtain ⟨K, hp⟩ := play_ex (ps := three_v) (s := 1) (n := 2) (W := 1) [] ⟨c1, by decide, by decide, by decide⟩
  have hK : K = 12 := by have h1 := hp.lo; have h2 := hp.hi; have : three_v.length = 3 := rfl; rw [this] at h1 h2; omega
  obtain ⟨e1, e2⟩ := hp.one rfl
  have kp := f_Play_t (rs := three_r) (rsd := cr 1) (picks := []) ⟨c1, by decide, by decide, by decide⟩ three_nv m1 (by decide) (by decide) hp.hK hp.hj hp.hpf hp.hb
  rw [e1, e2, show three_v.length = 3 from rfl, hb1, hb2, hK] at kp
  have kb := f_grid_Build (rs := three_r) (n := ((2 : Nat) : Int)) three_nv m1 (by decide) (by decide)
  rw [bres, if_pos ⟨c1, by decide⟩, show three_v.length = 3 from rfl, Int.toNat_natCast, hb1, hb2] at kb
  have hf := built_fits (ps := three_v) c1 (by decide)
  rw [show three_v.length = 3 from rfl, hb1, hb2] at hf
  have kc := f_grid_Check (heads := [2, 1]) (next := [-1, -1, 0]) (rs := three_r) (n := ((2 : Nat) : Int)) three_nv m1 (by decide) (by decide)
  rw [@decide_eq_true _ (Classical.propDecidable _) hf] at kc
  have ki := f_ref21_Is [2, 1] [-1, -1, 0] [2, 1] [-1, -1, 0] (by decide) (by decide)
  rw [decide_eq_true ⟨rfl, rfl⟩] at ki
  have ks := f_grid_Slot (rp := cv o3) (p := o3) (n := ((2 : Nat) : Int)) (.of So3) m0 (by decide)
  rw [if_neg c0, decide_eq_false c0] at ks
  refine symFunc_sound hmix tree_penumbralaw21_fixed (by kernel_rfl) rfl ?_
  unfold ir_penumbralaw21_fixed
  try simp only [HH, gW, gD, V3.l, M4.l, Fr.l, Sp.l, RV.l, RM.l, RF.l, RS.l]
  refine call_step f_three rfl ?_
  try simp only [HH, gW, gD, V3.l, M4.l, Fr.l, Sp.l, RV.l, RM.l, RF.l, RS.l]
  refine cs1 (n_rat_Of (k0 := 1) 1 1 (by decide) (by decide) (by decide) (by decide) (by decide +kernel)) ?_
  try simp only [HH, gW, gD, V3.l, M4.l, Fr.l, Sp.l, RV.l, RM.l, RF.l, RS.l]
  refine call_step kb rfl ?_
  simp only [gd2]
  try simp only [HH, gW, gD, V3.l, M4.l, Fr.l, Sp.l, RV.l, RM.l, RF.l, RS.l]
  refine call_step f_three rfl ?_
  try simp only [HH, gW, gD, V3.l, M4.l, Fr.l, Sp.l, RV.l, RM.l, RF.l, RS.l]
  refine cs1 (n_rat_Of (k0 := 1) 1 1 (by decide) (by decide) (by decide) (by decide) (by decide +kernel)) ?_
  try simp only [HH, gW, gD, V3.l, M4.l, Fr.l, Sp.l, RV.l, RM.l, RF.l, RS.l]
  refine call_step kp rfl ?_
  simp only [gd2]
  try simp only [HH, gW, gD, V3.l, M4.l, Fr.l, Sp.l, RV.l, RM.l, RF.l, RS.l]
  refine cs3 (n_vec_Of (o0 := 0) (o1 := 0) (o2 := 0) 0 0 0 (by decide) (by decide) (by decide) (by decide) (by decide) (by decide) (by decide +kernel) (by decide +kernel) (by decide +kernel)) ?_
  try simp only [HH, gW, gD, V3.l, M4.l, Fr.l, Sp.l, RV.l, RM.l, RF.l, RS.l]
  refine cs1 (n_rat_Of (k0 := 0) 0 1 (by decide) (by decide) (by decide) (by decide) (by decide +kernel)) ?_
  try simp only [HH, gW, gD, V3.l, M4.l, Fr.l, Sp.l, RV.l, RM.l, RF.l, RS.l]
  refine call_step ks rfl ?_
  try simp only [HH, gW, gD, V3.l, M4.l, Fr.l, Sp.l, RV.l, RM.l, RF.l, RS.l]
  refine primS (il [2, 1]) rfl ?_
  refine primS (il [-1, -1, 0]) rfl ?_
  refine itT rfl ?_
  refine call_step ki rfl ?_
  try simp only [HH, gW, gD, V3.l, M4.l, Fr.l, Sp.l, RV.l, RM.l, RF.l, RS.l]
  refine itT rfl ?_
  refine itT rfl ?_
  refine call_step ki rfl ?_
  try simp only [HH, gW, gD, V3.l, M4.l, Fr.l, Sp.l, RV.l, RM.l, RF.l, RS.l]
  refine itT rfl ?_
  refine primS (.bool true) rfl ?_
  refine itT rfl ?_
  refine primS (.bool true) rfl ?_
  refine itT rfl ?_
  refine call_step f_three rfl ?_
  try simp only [HH, gW, gD, V3.l, M4.l, Fr.l, Sp.l, RV.l, RM.l, RF.l, RS.l]
  refine cs1 (n_rat_Of (k0 := 1) 1 1 (by decide) (by decide) (by decide) (by decide) (by decide +kernel)) ?_
  try simp only [HH, gW, gD, V3.l, M4.l, Fr.l, Sp.l, RV.l, RM.l, RF.l, RS.l]
  refine call_step kc rfl ?_
  try simp only [HH, gW, gD, V3.l, M4.l, Fr.l, Sp.l, RV.l, RM.l, RF.l, RS.l]
  exact ret_step rfl
end Go.Px.Na

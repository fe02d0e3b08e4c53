/- Gb2: grids built: the document's answer. -/
import Derived.Test.YtgnhhdgepnfnmaaGb
set_option maxRecDepth 20000
set_option maxHeartbeats 4000000
set_option linter.unusedVariables false
set_option linter.unusedSimpArgs false
namespace Go.Px
open Go.RowKit
def ir_penumbraref21_Build : IR :=
 .call F.penumbraref21_may [.agg [.var 1, .var 2, .var 3], .one (.var 4)] [.one] <|
 .prim .not [.var 5] <|
 .ite (.var 6) (
  .ret [.agg [.nil, .nil], .one (.bol false)]) (
  .prim .len [.var 0] <|
  .prim (.bin .gtr) [.var 7, .int .i64 (1000)] <|
  .ite (.var 8) (
   .ret [.agg [.nil, .nil], .one (.bol false)]) (
   .loop [.var 0, .var 4, .int .i64 (0), .var 1, .var 2, .var 3, .nil] (
    .prim (.bin .lss) [.var 2, .var 1] <|
    .ite (.var 7) (
     .prim (.mk 1) [.int .i64 (-1)] <|
     .prim (.app 1 8) [.var 6, .var 8] <|
     .prim (.bin .add) [.var 2, .int .i64 (1)] <|
     .jump 0 [.var 0, .var 1, .var 10, .var 3, .var 4, .var 5, .var 9]) (
     .loop [.var 0, .var 1, .int .i64 (0), .var 3, .var 4, .var 5, .var 6, .nil] (
      .prim .len [.var 0] <|
      .prim (.bin .lss) [.var 2, .var 8] <|
      .ite (.var 9) (
       .prim (.inb 9) [.var 0, .var 2] <|
       .prim (.get 9 0) [.var 0, .var 2] <|
       .prim (.get 9 1) [.var 0, .var 2] <|
       .prim (.get 9 2) [.var 0, .var 2] <|
       .prim (.get 9 3) [.var 0, .var 2] <|
       .prim (.get 9 4) [.var 0, .var 2] <|
       .prim (.get 9 5) [.var 0, .var 2] <|
       .prim (.get 9 6) [.var 0, .var 2] <|
       .prim (.get 9 7) [.var 0, .var 2] <|
       .prim (.get 9 8) [.var 0, .var 2] <|
       .call F.penumbraref21_Slot [.agg [.var 11, .var 12, .var 13, .var 14, .var 15, .var 16, .var 17, .var 18, .var 19], .agg [.var 3, .var 4, .var 5], .one (.var 1)] [.one, .one] <|
       .prim (.inb 1) [.var 6, .var 20] <|
       .prim (.get 1 0) [.var 6, .var 20] <|
       .prim (.mk 1) [.var 23] <|
       .prim (.app 1 8) [.var 7, .var 24] <|
       .prim (.inb 1) [.var 6, .var 20] <|
       .prim (.setl 1 0) [.var 6, .var 20, .var 2] <|
       .prim (.bin .add) [.var 2, .int .i64 (1)] <|
       .jump 1 [.var 0, .var 1, .var 28, .var 3, .var 4, .var 5, .var 27, .var 25]) (
       .ret [.agg [.var 6, .var 7], .one (.bol true)]))))))

theorem tree_penumbraref21_Build : symFunc Go.Proofs.Try.prog ⟨fun f => [115].contains f, fun f i => if f = 58 ∧ i = 5 then [⟨[(0, .s (.one (.at (.var 0)))), (2, .s (.one (.at (.var 1)))), (4, .s (.one (.lp 0 0))), (6, .s (.one (.lp 1 0))), (8, .s (.one (.lp 2 0))), (9, .s (.one (.at (.var 2))))], [], [(0, .box [.at (.var 3), .at (.var 4), .at (.var 5)] 24 false), (1, .box [.nils, .nils] 83 false), (2, .box [.own 3, .nils] 83 false), (3, .own (.var 6) 1 3)], 4, 7⟩] else if f = 58 ∧ i = 9 then [⟨[(0, .s (.one (.at (.var 0)))), (2, .s (.one (.at (.var 1)))), (4, .s (.one (.lp 0 0))), (6, .s (.one (.lp 1 0))), (8, .s (.one (.lp 2 0))), (10, .s (.one (.at (.var 2))))], [], [(0, .box [.at (.var 3), .at (.var 4), .at (.var 5)] 24 false), (1, .box [.nils, .nils] 83 false), (2, .box [.own 3, .own 4] 83 false), (3, .own (.var 6) 1 3), (4, .own (.var 7) 1 3)], 5, 8⟩] else [], fun f i => [], fun f => [144, 145].contains f⟩ 400 F.penumbraref21_Build [.one, .agg 3, .one] = some ir_penumbraref21_Build := by kernel_rfl
end Go.Px
namespace Go.Px.Na
open Go.RowKit
open Go.Proofs.Try (prog)
section
variable {L M : Nat} {rsd : RR} {s : Rat} {n : Int} {rs : List RV} {ps : List V3}
theorem f_ref21_Build (hp : NVs L rs ps) (g : Num M rsd s) (hN : ps.length ≤ 1048576) (hl : L ≤ 10000000000 ∧ M ≤ 10000000000) : PureCalls prog F.penumbraref21_Build [.one (vl rs), .agg (gW [rsd]), .one (.int .i64 n)] (bres ps s n) := by
  have hlen := hp.len
  refine symFunc_sound hmix tree_penumbraref21_Build (by kernel_rfl) rfl ?_
  unfold ir_penumbraref21_Build
  try simp only [HH, gW, gD, V3.l, M4.l, Fr.l, Sp.l, RV.l, RM.l, RF.l, RS.l]
  refine call_step (f_ref21_may g (Nat.le_trans hl.2 (by decide))) rfl ?_
  try simp only [HH, gW, gD, V3.l, M4.l, Fr.l, Sp.l, RV.l, RM.l, RF.l, RS.l]
  refine primS (.bool (!_)) rfl ?_
  refine itN rfl (fun c => ?_) (fun c => ?_)
  · refine ret_step ?_
    unfold bres; rw [if_neg (fun h => c h.1)]; rfl
  refine primS (.int .i64 (rs.length : Int)) rfl ?_
  refine primS (.bool (decide _)) d_gtr ?_
  refine itD rfl (fun c2 => ?_) (fun c2 => ?_)
  · refine ret_step ?_
    unfold bres; rw [if_neg (fun h => by have := h.2; omega)]; rfl
  unfold bres
  rw [if_pos ⟨c, by omega⟩]
  obtain ⟨m, rfl⟩ : ∃ m : Nat, n = (m : Int) := ⟨n.toNat, by have := c.2.1; omega⟩
  have hm := c.2
  rw [Int.toNat_natCast]
  generalize hss : slots ps s (m : Int) = ss
  refine loop_st (fun i : Nat => [vl rs, .int .i64 (m : Int), .int .i64 (i : Int), .bool rsd.neg, nl rsd.num, nl rsd.den, il (List.replicate i (-1))]) (fun i => i ≤ m) (fun i => m - i) 0 (Nat.zero_le _) rfl (fun _ => rfl) fun i hi X hX => ?_
  by_cases hlt : i < m
  · refine primS (.bool true) (d_lss.trans (by rw [decide_eq_true (by omega)])) ?_
    refine itT rfl ?_
    refine primS (il [-1]) rfl ?_
    refine primS (il (List.replicate i (-1) ++ [-1])) (il_app (by simp; omega)) ?_
    refine primS (.int .i64 ((i + 1 : Nat) : Int)) ((d_add64 (by omega) (by omega)).trans (by simp)) ?_
    have := hX (i + 1) (by omega) (by omega)
    rw [List.replicate_succ'] at this
    exact jump_step rfl this
  obtain rfl : i = m := by omega
  refine primS (.bool false) (d_lss.trans (by rw [decide_eq_false (by omega)])) ?_
  refine itF rfl ?_
  refine loop_st (fun j : Nat => [vl rs, .int .i64 (i : Int), .int .i64 (j : Int), .bool rsd.neg, nl rsd.num, nl rsd.den, il (bh i ss j), il (bn i ss j)]) (fun j => j ≤ rs.length) (fun j => rs.length - j) 0 (Nat.zero_le _) rfl (fun _ => rfl) fun j hj Y hY => ?_
  refine primS (.int .i64 (rs.length : Int)) rfl ?_
  by_cases hlt : j < rs.length
  · obtain ⟨r, hr⟩ : ∃ r, rs[j]? = some r := ⟨_, List.getElem?_eq_getElem hlt⟩
    obtain ⟨p, hpp⟩ : ∃ p, ps[j]? = some p := ⟨_, List.getElem?_eq_getElem (by omega)⟩
    have hrng := slot_rng (p := p) c
    have hsl : ss.getD j 0 = slot p s i := by rw [← hss]; exact slots_get hpp
    refine primS (.bool true) (d_lss.trans (by rw [decide_eq_true (by omega)])) ?_
    refine itT rfl ?_
    refine primS (.bool true) (fm_inb gV_len (by omega) (by omega)) ?_
    refine get_pt (x := .var 0) (i := .var 2) hr (fun _ => rfl) (fun _ => rfl) ?_
    try simp only [HH, gW, gD, V3.l, M4.l, Fr.l, Sp.l, RV.l, RM.l, RF.l, RS.l]
    refine call_step (f_ref21_Slot (hp.at_ j r p hr hpp) g hl) rfl ?_
    try simp only [HH, gW, gD, V3.l, M4.l, Fr.l, Sp.l, RV.l, RM.l, RF.l, RS.l]
    rw [if_pos c, decide_eq_true c]
    refine primS (.bool true) (il_inb hrng.1 (by rw [bh_len]; exact hrng.2)) ?_
    refine primS _ (il_get hrng.1 (by rw [bh_len]; exact hrng.2)) ?_
    refine primS (il [(bh i ss j).getD (slot p s i).toNat 0]) rfl ?_
    refine primS _ (il_app (by simp [bn_len]; omega)) ?_
    refine primS (.bool true) (il_inb hrng.1 (by rw [bh_len]; exact hrng.2)) ?_
    refine primS _ (il_set hrng.1 (by rw [bh_len]; exact hrng.2)) ?_
    refine primS (.int .i64 ((j + 1 : Nat) : Int)) ((d_add64 (by omega) (by omega)).trans (by simp)) ?_
    have := hY (j + 1) hlt (by omega)
    rw [show bh i ss (j + 1) = (bh i ss j).set (ss.getD j 0).toNat j from rfl, show bn i ss (j + 1) = bn i ss j ++ [(bh i ss j).getD (ss.getD j 0).toNat 0] from rfl, hsl] at this
    exact jump_step rfl this
  · obtain rfl : j = rs.length := by omega
    refine primS (.bool false) (d_lss.trans (by rw [decide_eq_false (by omega)])) ?_
    refine itF rfl ?_
    refine ret_step ?_
    rw [← hlen]; rfl
end
end Go.Px.Na

/- QGridSlots: the slot of any point in any grid, and whether any grid fits any points, is as the document says. -/
import Derived.Test.YtgnhhdgepnfnmaaGf
set_option maxRecDepth 20000
set_option maxHeartbeats 40000000
set_option linter.unusedVariables false
set_option linter.unusedSimpArgs false
namespace Go.Px
open Go.RowKit
def ir_penumbralaw21_GridSlots : IR :=
 .loop [.var 2, .var 6, .int .i64 (0), .var 0, .var 1, .var 3, .var 4, .var 5] (
  .prim .len [.var 0] <|
  .prim (.bin .lss) [.var 2, .var 8] <|
  .ite (.var 9) (
   .prim (.inb 9) [.var 0, .var 2] <|
   .prim (.get 9 0) [.var 0, .var 2] <|
   .prim (.get 9 1) [.var 0, .var 2] <|
   .prim (.get 9 2) [.var 0, .var 2] <|
   .prim (.get 9 3) [.var 0, .var 2] <|
   .prim (.get 9 4) [.var 0, .var 2] <|
   .prim (.get 9 5) [.var 0, .var 2] <|
   .prim (.get 9 6) [.var 0, .var 2] <|
   .prim (.get 9 7) [.var 0, .var 2] <|
   .prim (.get 9 8) [.var 0, .var 2] <|
   .call F.grid_Slot [.agg [.var 11, .var 12, .var 13, .var 14, .var 15, .var 16, .var 17, .var 18, .var 19], .agg [.var 5, .var 6, .var 7], .one (.var 1)] [.one, .one] <|
   .prim (.inb 9) [.var 0, .var 2] <|
   .prim (.get 9 0) [.var 0, .var 2] <|
   .prim (.get 9 1) [.var 0, .var 2] <|
   .prim (.get 9 2) [.var 0, .var 2] <|
   .prim (.get 9 3) [.var 0, .var 2] <|
   .prim (.get 9 4) [.var 0, .var 2] <|
   .prim (.get 9 5) [.var 0, .var 2] <|
   .prim (.get 9 6) [.var 0, .var 2] <|
   .prim (.get 9 7) [.var 0, .var 2] <|
   .prim (.get 9 8) [.var 0, .var 2] <|
   .call F.penumbraref21_Slot [.agg [.var 23, .var 24, .var 25, .var 26, .var 27, .var 28, .var 29, .var 30, .var 31], .agg [.var 5, .var 6, .var 7], .one (.var 1)] [.one, .one] <|
   .prim (.bin .neq) [.var 20, .var 32] <|
   .ite (.var 34) (
    .ret [.one (.bol false)]) (
    .prim (.beq true) [.var 21, .var 33] <|
    .ite (.var 35) (
     .ret [.one (.bol false)]) (
     .prim (.bin .add) [.var 2, .int .i64 (1)] <|
     .jump 0 [.var 0, .var 1, .var 36, .var 3, .var 4, .var 5, .var 6, .var 7]))) (
   .call F.penumbralaw21_fixed [] [.one] <|
   .ite (.var 10) (
    .call F.grid_Check [.agg [.var 3, .var 4], .one (.var 0), .agg [.var 5, .var 6, .var 7], .one (.var 1)] [.one] <|
    .call F.penumbraref21_Check [.agg [.var 3, .var 4], .one (.var 0), .agg [.var 5, .var 6, .var 7], .one (.var 1)] [.one] <|
    .prim (.beq false) [.var 11, .var 12] <|
    .ret [.one (.var 13)]) (
    .ret [.one (.bol false)])))

theorem tree_penumbralaw21_GridSlots : symFunc Go.Proofs.Try.prog ⟨fun f => [115].contains f, fun f i => if f = 11 ∧ i = 3 then [⟨[(2, .s (.one (.lp 0 0))), (5, .s (.one (.at (.var 0)))), (6, .s (.one (.lp 1 0))), (7, .s (.one (.at (.var 1)))), (8, .s (.one (.at (.var 2))))], [], [(0, .box [.at (.var 3), .at (.var 4)] 83 false), (1, .box [.at (.var 5), .at (.var 6), .at (.var 7)] 24 false)], 2, 8⟩] else [], fun f i => [], fun f => [144, 145].contains f⟩ 400 F.penumbralaw21_GridSlots [.agg 2, .agg 7] = some ir_penumbralaw21_GridSlots := by kernel_rfl
end Go.Px
namespace Go.Px.Na
open Go.RowKit
open Go.Proofs.Try (prog)
open Classical in
theorem pure_GridSlots {rs : List RV} {ps : List V3} {rsd : RR} {s : Rat} {n W : Int} {picks heads next : List Int} (hp : NVs 1048576 rs ps) (g : Num 1048576 rsd s) (hN : ps.length ≤ 1048576) (hpk : picks.length ≤ 1048576) (ha : heads.length ≤ 1048576) (hb : next.length ≤ 1048576) :
    PureCalls prog F.penumbralaw21_GridSlots [.agg [il heads, il next], .agg [vl rs, .bool rsd.neg, nl rsd.num, nl rsd.den, .int .i64 n, .int .i64 W, il picks]] [.one (.bool true)] := by
  have hl : (1048576 : Nat) ≤ 10000000000 ∧ (1048576 : Nat) ≤ 10000000000 := ⟨by decide, by decide⟩
  have hlen := hp.len
  refine symFunc_sound hmix tree_penumbralaw21_GridSlots (by kernel_rfl) rfl ?_
  unfold ir_penumbralaw21_GridSlots
  try simp only [HH, gW, gD, V3.l, M4.l, Fr.l, Sp.l, RV.l, RM.l, RF.l, RS.l]
  refine loop_st (fun i : Nat => [vl rs, .int .i64 n, .int .i64 (i : Int), il heads, il next, .bool rsd.neg, nl rsd.num, nl rsd.den]) (fun i => i ≤ rs.length) (fun i => rs.length - i) 0 (Nat.zero_le _) rfl (fun _ => rfl) fun i hi X hX => ?_
  refine primS (.int .i64 (rs.length : Int)) rfl ?_
  by_cases hlt : i < rs.length
  · obtain ⟨r, hr⟩ : ∃ r, rs[i]? = some r := ⟨_, List.getElem?_eq_getElem hlt⟩
    obtain ⟨p, hpp⟩ : ∃ p, ps[i]? = some p := ⟨_, List.getElem?_eq_getElem (by omega)⟩
    refine primS (.bool true) (d_lss.trans (by rw [decide_eq_true (by omega)])) ?_
    refine itT rfl ?_
    refine primS (.bool true) (fm_inb gV_len (by omega) (by omega)) ?_
    refine get_pt (x := .var 0) (i := .var 2) hr (fun _ => rfl) (fun _ => rfl) ?_
    try simp only [HH, gW, gD, V3.l, M4.l, Fr.l, Sp.l, RV.l, RM.l, RF.l, RS.l]
    refine call_step (f_grid_Slot (n := n) (hp.at_ i r p hr hpp) g (by decide)) rfl ?_
    try simp only [HH, gW, gD, V3.l, M4.l, Fr.l, Sp.l, RV.l, RM.l, RF.l, RS.l]
    refine primS (.bool true) (fm_inb gV_len (by omega) (by omega)) ?_
    refine get_pt (x := .var 0) (i := .var 2) hr (fun _ => rfl) (fun _ => rfl) ?_
    try simp only [HH, gW, gD, V3.l, M4.l, Fr.l, Sp.l, RV.l, RM.l, RF.l, RS.l]
    refine call_step (f_ref21_Slot (n := n) (hp.at_ i r p hr hpp) g hl) rfl ?_
    try simp only [HH, gW, gD, V3.l, M4.l, Fr.l, Sp.l, RV.l, RM.l, RF.l, RS.l]
    refine primS (.bool false) (d_neq.trans (by rw [decide_eq_false (fun h => h rfl)])) ?_
    refine itF rfl ?_
    refine primS (.bool false) (d_beqt.trans (by cases decide (gmay s n) <;> rfl)) ?_
    refine itF rfl ?_
    refine primS (.int .i64 ((i + 1 : Nat) : Int)) ((d_add64 (by omega) (by omega)).trans (by simp)) ?_
    exact jump_step rfl (hX (i + 1) hlt (by omega))
  · refine primS (.bool false) (d_lss.trans (by rw [decide_eq_false (by omega)])) ?_
    refine itF rfl ?_
    refine call_step f_fixed21 rfl ?_
    try simp only [HH, gW, gD, V3.l, M4.l, Fr.l, Sp.l, RV.l, RM.l, RF.l, RS.l]
    refine itT rfl ?_
    refine call_step (f_grid_Check (n := n) (heads := heads) (next := next) hp g hN hl) rfl ?_
    try simp only [HH, gW, gD, V3.l, M4.l, Fr.l, Sp.l, RV.l, RM.l, RF.l, RS.l]
    refine call_step (f_ref21_Check (n := n) (heads := heads) (next := next) hp g hN hl) rfl ?_
    try simp only [HH, gW, gD, V3.l, M4.l, Fr.l, Sp.l, RV.l, RM.l, RF.l, RS.l]
    refine primS (.bool true) (d_beqf.trans (by cases decide (fits heads next ps s n) <;> rfl)) ?_
    exact ret_step rfl
end Go.Px.Na

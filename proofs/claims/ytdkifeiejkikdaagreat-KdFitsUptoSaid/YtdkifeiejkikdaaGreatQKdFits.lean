/- QKdFits: what is built of any points fits them, and is not deep; built again it is the same. -/
import Derived.Test.YtdkifeiejkikdaaGreatKq
set_option maxRecDepth 40000
set_option maxHeartbeats 40000000
set_option linter.unusedVariables false
set_option linter.unusedSimpArgs false
namespace Go.Px
open Go.RowKit
def ir_penumbralaw23_KdFits : IR :=
 .prim .len [.var 0] <|
 .prim (.bin .gtr) [.var 1, .int .i64 (300)] <|
 .ite (.var 2) (
  .call F.penumbralaw23_fixed [] [.one] <|
  .ret [.one (.var 3)]) (
  .call F.kd_Build [.one (.var 0)] [.agg 1, .one] <|
  .call F.kd_Build [.one (.var 0)] [.agg 1, .one] <|
  .call F.penumbralaw23_fixed [] [.one] <|
  .prim .not [.var 7] <|
  .ite (.var 8) (
   .ret [.one (.bol false)]) (
   .prim .not [.var 4] <|
   .ite (.var 9) (
    .ret [.one (.bol false)]) (
    .prim .not [.var 6] <|
    .ite (.var 10) (
     .ret [.one (.bol false)]) (
     .call F.penumbraref23_Check [.agg [.var 3], .one (.var 0)] [.one] <|
     .prim .not [.var 11] <|
     .ite (.var 12) (
      .ret [.one (.bol false)]) (
      .call F.penumbraref23_Depth [.agg [.var 3]] [.one] <|
      .prim (.bin .gtr) [.var 13, .int .i64 (10)] <|
      .ite (.var 14) (
       .ret [.one (.bol false)]) (
       .prim .len [.var 5] <|
       .prim .len [.var 3] <|
       .prim (.bin .neq) [.var 15, .var 16] <|
       .ite (.var 17) (
        .ret [.one (.bol false)]) (
        .loop [.int .i64 (0), .var 3, .var 5] (
         .prim .len [.var 1] <|
         .prim (.bin .lss) [.var 0, .var 3] <|
         .ite (.var 4) (
          .prim (.inb 4) [.var 1, .var 0] <|
          .prim (.get 4 0) [.var 1, .var 0] <|
          .prim (.get 4 1) [.var 1, .var 0] <|
          .prim (.get 4 2) [.var 1, .var 0] <|
          .prim (.get 4 3) [.var 1, .var 0] <|
          .prim (.inb 4) [.var 2, .var 0] <|
          .prim (.get 4 0) [.var 2, .var 0] <|
          .prim (.get 4 1) [.var 2, .var 0] <|
          .prim (.get 4 2) [.var 2, .var 0] <|
          .prim (.get 4 3) [.var 2, .var 0] <|
          .prim (.nes [false, false, false, false]) [.var 6, .var 7, .var 8, .var 9, .var 11, .var 12, .var 13, .var 14] <|
          .ite (.var 15) (
           .ret [.one (.bol false)]) (
           .prim (.bin .add) [.var 0, .int .i64 (1)] <|
           .jump 0 [.var 16, .var 1, .var 2])) (
          .ret [.one (.bol true)])))))))))

theorem tree_penumbralaw23_KdFits : symFunc Go.Proofs.Tryz.prog ⟨fun f => [71, 50, 24, 69].contains f, fun f i => if f = 6 ∧ i = 8 then [⟨[(3, .s (.one (.lp 0 0))), (5, .s (.one (.lp 1 0))), (7, .s (.one (.at (.var 0))))], [], [(0, .box [.at (.var 1)] 45 false), (1, .box [.at (.var 2)] 45 false)], 2, 3⟩] else [], fun f i => [], fun f => [23, 96].contains f, fun f => if f = 45 then some ([.row 4 51, .pl], [.row 1 3, .pl], 1) else if f = 63 then some ([.pl, .pl, .pl, .pl, .pl, .pl, .pl, .pl, .pl, .pl, .pl, .pl, .row 4 99, .row 1 4, .row 1 4], [.pl], 0) else if f = 126 then some ([.pl, .pl, .pl, .pl, .pl, .pl, .pl, .pl, .pl, .pl, .pl, .pl, .row 4 99, .row 1 4, .row 1 4], [], 0) else if f = 127 then some ([.pl, .pl, .pl, .pl, .pl, .pl, .pl, .pl, .pl, .pl, .pl, .pl, .row 4 99, .row 1 4, .row 1 4], [], 0) else none⟩ 400 F.penumbralaw23_KdFits [.one] = some ir_penumbralaw23_KdFits := by kernel_rfl
end Go.Px
namespace Go.Px.Na
open Go.RowKit
open Go.Proofs.Tryz (prog)
theorem pure_KdFits {rs : List RV} {ps : List V3} (hp : NVs 1048576 rs ps) : PureCalls prog F.penumbralaw23_KdFits [.one (vl rs)] [.one (.bool true)] := by
  have hlen := hp.len
  refine symFunc_sound hmix tree_penumbralaw23_KdFits (by kernel_rfl) rfl ?_
  unfold ir_penumbralaw23_KdFits
  try simp only [HH, gW, gD, V3.l, M4.l, Fr.l, Sp.l, RV.l, RM.l, RF.l, RS.l]
  refine primS (.int .i64 (rs.length : Int)) rfl ?_
  refine primS (.bool (decide ((300 : Int) < (rs.length : Int)))) d_gtr ?_
  refine itD rfl (fun c => ?_) (fun c => ?_)
  · refine call_step f_fixed23 rfl ?_
    try simp only [HH, gW, gD, V3.l, M4.l, Fr.l, Sp.l, RV.l, RM.l, RF.l, RS.l]
    exact ret_step rfl
  have k1 := f_Build hp (by decide) (by omega)
  have hFit := tre_fits (ps := ps) (by omega)
  have kr := f_RCheck (ns := tre ps) hp (by decide)
  rw [tbT hFit] at kr
  have kD := f_R23_Depth (ns := tre ps) (m := ps.length) hFit.2.1 hFit.1 hFit.2.2.1.1
  have hd := tre_dep (ps := ps) (by omega)
  have htl := tre_len ps
  generalize tre ps = t at k1 kr kD hd htl
  generalize dep t ps.length 0 = dp at kD hd
  refine call_step k1 rfl ?_
  try simp only [HH, gW, gD, V3.l, M4.l, Fr.l, Sp.l, RV.l, RM.l, RF.l, RS.l]
  refine call_step k1 rfl ?_
  try simp only [HH, gW, gD, V3.l, M4.l, Fr.l, Sp.l, RV.l, RM.l, RF.l, RS.l]
  refine call_step f_fixed23 rfl ?_
  try simp only [HH, gW, gD, V3.l, M4.l, Fr.l, Sp.l, RV.l, RM.l, RF.l, RS.l]
  refine primS (.bool false) rfl ?_
  refine itF rfl ?_
  refine primS (.bool false) rfl ?_
  refine itF rfl ?_
  refine primS (.bool false) rfl ?_
  refine itF rfl ?_
  try simp only [HH, gW, gD, V3.l, M4.l, Fr.l, Sp.l, RV.l, RM.l, RF.l, RS.l]
  refine call_step kr rfl ?_
  try simp only [HH, gW, gD, V3.l, M4.l, Fr.l, Sp.l, RV.l, RM.l, RF.l, RS.l]
  refine primS (.bool false) rfl ?_
  refine itF rfl ?_
  refine call_step kD rfl ?_
  try simp only [HH, gW, gD, V3.l, M4.l, Fr.l, Sp.l, RV.l, RM.l, RF.l, RS.l]
  refine primS (.bool false) (d_gtr.trans (by rw [decide_eq_false (by omega)])) ?_
  refine itF rfl ?_
  refine primS (.int .i64 (t.length : Int)) rfl ?_
  refine primS (.int .i64 (t.length : Int)) rfl ?_
  refine primS (.bool false) (d_neq.trans (by rw [decide_eq_false (by simp)])) ?_
  refine itF rfl ?_
  try simp only [List.cons_append, List.nil_append]
  refine loop_st (fun i : Nat => [.int .i64 (i : Int), kl t, kl t]) (fun i => i ≤ t.length) (fun i => t.length - i) 0 (Nat.zero_le _) rfl (fun _ => rfl) fun i hi X hX => ?_
  refine primS (.int .i64 (t.length : Int)) rfl ?_
  by_cases hlt : i < t.length
  · refine primS (.bool true) (d_lss.trans (by rw [decide_eq_true (by omega)])) ?_
    refine itT rfl ?_
    obtain ⟨n, hn⟩ : ∃ n, t[i]? = some n := ⟨_, List.getElem?_eq_getElem hlt⟩
    refine primS (.bool true) (kl_inb (by omega) (by omega)) ?_
    try simp only [List.cons_append, List.nil_append]
    refine get_kn hn (fun _ => rfl) (fun _ => rfl) ?_
    simp only [KN.l, List.cons_append, List.nil_append]
    refine primS (.bool true) (kl_inb (by omega) (by omega)) ?_
    try simp only [List.cons_append, List.nil_append]
    refine get_kn hn (fun _ => rfl) (fun _ => rfl) ?_
    simp only [KN.l, List.cons_append, List.nil_append]
    refine primS (.bool false) (by simp [Prim.den, Px.A.ev, eqDVs]) ?_
    refine itF rfl ?_
    refine primS (.int .i64 ((i + 1 : Nat) : Int)) ((d_add64 (by omega) (by omega)).trans (by simp)) ?_
    exact jump_step rfl (hX (i + 1) (by omega) (by omega))
  · refine primS (.bool false) (d_lss.trans (by rw [decide_eq_false (by omega)])) ?_
    refine itF rfl ?_
    exact ret_step rfl
end Go.Px.Na

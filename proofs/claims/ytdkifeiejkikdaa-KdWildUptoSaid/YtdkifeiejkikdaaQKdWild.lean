/- QKdWild: of any tree at all, also one that does not fit, what is told are numbers of points, none twice, not more than were asked for. -/
import Derived.Test.YtdkifeiejkikdaaKq
import Derived.Test.YtdkifeiejkikdaaJw
set_option maxRecDepth 40000
set_option maxHeartbeats 40000000
set_option linter.unusedVariables false
set_option linter.unusedSimpArgs false
namespace Go.Px
open Go.RowKit
def ir_penumbralaw23_KdWild : IR :=
 .prim .len [.var 0] <|
 .prim (.bin .gtr) [.var 12, .int .i64 (200)] <|
 .ite (.var 13) (
  .call F.penumbralaw23_fixed [] [.one] <|
  .ret [.one (.var 14)]) (
  .prim .len [.var 1] <|
  .prim (.bin .gtr) [.var 14, .int .i64 (200)] <|
  .ite (.var 15) (
   .call F.penumbralaw23_fixed [] [.one] <|
   .ret [.one (.var 16)]) (
   .call F.kd_Nearest [.agg [.var 0], .one (.var 1), .agg [.var 2, .var 3, .var 4, .var 5, .var 6, .var 7, .var 8, .var 9, .var 10], .one (.var 11)] [.one] <|
   .call F.kd_Depth [.agg [.var 0]] [.one] <|
   .prim .len [.var 1] <|
   .prim (.make 1) [.var 18, .var 18, .bol false] <|
   .loop [.var 1, .var 11, .var 16, .int .i64 (0), .var 19] (
    .prim .len [.var 2] <|
    .prim (.bin .lss) [.var 3, .var 5] <|
    .ite (.var 6) (
     .prim (.inb 1) [.var 2, .var 3] <|
     .prim (.get 1 0) [.var 2, .var 3] <|
     .prim (.bin .lss) [.var 8, .int .i64 (0)] <|
     .ite (.var 9) (
      .ret [.one (.bol false)]) (
      .prim (.inb 1) [.var 2, .var 3] <|
      .prim (.get 1 0) [.var 2, .var 3] <|
      .prim .len [.var 0] <|
      .prim (.bin .geq) [.var 11, .var 12] <|
      .ite (.var 13) (
       .ret [.one (.bol false)]) (
       .prim (.inb 1) [.var 2, .var 3] <|
       .prim (.get 1 0) [.var 2, .var 3] <|
       .prim (.inb 1) [.var 4, .var 15] <|
       .prim (.get 1 0) [.var 4, .var 15] <|
       .ite (.var 17) (
        .ret [.one (.bol false)]) (
        .prim (.inb 1) [.var 2, .var 3] <|
        .prim (.get 1 0) [.var 2, .var 3] <|
        .prim (.inb 1) [.var 4, .var 19] <|
        .prim (.setl 1 0) [.var 4, .var 19, .bol true] <|
        .prim (.bin .add) [.var 3, .int .i64 (1)] <|
        .jump 0 [.var 0, .var 1, .var 2, .var 22, .var 21])))) (
     .call F.penumbralaw23_fixed [] [.one] <|
     .ite (.var 7) (
      .prim .len [.var 2] <|
      .prim .max2 [.int .i64 (0), .var 1] <|
      .prim (.bin .leq) [.var 8, .var 9] <|
      .ret [.one (.var 10)]) (
      .ret [.one (.bol false)])))))

theorem tree_penumbralaw23_KdWild : symFunc Go.Proofs.Try.prog ⟨fun f => [69, 46, 23, 61].contains f, fun f i => if f = 7 ∧ i = 8 then [⟨[(5, .s (.one (.at (.var 0)))), (7, .s (.one (.at (.var 1)))), (8, .s (.one (.at (.var 2)))), (9, .s (.one (.own 0))), (10, .s (.one (.at (.var 3))))], [], [(0, .own (.var 4) 1 4)], 1, 5⟩] else [], fun f i => [], fun f => [22, 64].contains f, fun f => if f = 35 then some ([.row 4 92, .pl], [.row 1 3, .pl], 1) else if f = 38 then some ([.pl, .pl, .pl, .pl, .pl, .pl, .pl, .pl, .pl, .pl, .pl, .pl, .row 4 87, .row 1 4, .row 1 4], [.pl], 0) else if f = 89 then some ([.pl, .pl, .pl, .pl, .pl, .pl, .pl, .pl, .pl, .pl, .pl, .pl, .row 4 87, .row 1 4, .row 1 4], [], 0) else if f = 90 then some ([.pl, .pl, .pl, .pl, .pl, .pl, .pl, .pl, .pl, .pl, .pl, .pl, .row 4 87, .row 1 4, .row 1 4], [], 0) else none⟩ 400 F.penumbralaw23_KdWild [.agg 1, .agg 11] = some ir_penumbralaw23_KdWild := by kernel_rfl
end Go.Px
namespace Go.Px.Na
open Go.RowKit
open Go.Proofs.Try (prog)
theorem pure_KdWild {ns : List KN} {rs : List RV} {ps : List V3} {rc : RV} {c : V3} {k : Int} (hp : NVs 1048576 rs ps) (hc : NV 1048576 rc c) :
    PureCalls prog F.penumbralaw23_KdWild [.agg [kl ns], .agg [vl rs, .bool rc.x.neg, nl rc.x.num, nl rc.x.den, .bool rc.y.neg, nl rc.y.num, nl rc.y.den, .bool rc.z.neg, nl rc.z.num, nl rc.z.den, .int .i64 k]] [.one (.bool true)] := by
  have hlen := hp.len
  refine symFunc_sound hmix tree_penumbralaw23_KdWild (by kernel_rfl) rfl ?_
  unfold ir_penumbralaw23_KdWild
  try simp only [HH, gW, gD, V3.l, M4.l, Fr.l, Sp.l, RV.l, RM.l, RF.l, RS.l]
  refine primS (.int .i64 (ns.length : Int)) rfl ?_
  refine primS (.bool (decide ((200 : Int) < (ns.length : Int)))) d_gtr ?_
  refine itD rfl (fun c1 => ?_) (fun c1 => ?_)
  · refine call_step f_fixed23 rfl ?_
    try simp only [HH, gW, gD, V3.l, M4.l, Fr.l, Sp.l, RV.l, RM.l, RF.l, RS.l]
    exact ret_step rfl
  refine primS (.int .i64 (rs.length : Int)) rfl ?_
  refine primS (.bool (decide ((200 : Int) < (rs.length : Int)))) d_gtr ?_
  refine itD rfl (fun c2 => ?_) (fun c2 => ?_)
  · refine call_step f_fixed23 rfl ?_
    try simp only [HH, gW, gD, V3.l, M4.l, Fr.l, Sp.l, RV.l, RM.l, RF.l, RS.l]
    exact ret_step rfl
  have kN := f_near (ns := ns) (k := k) hp hc (by decide) (by decide) (by omega) (by omega)
  obtain ⟨w1, w2, w3⟩ := near_wild (ns := ns) (ps := ps) (c := c) (k := k)
  generalize nearF ns ps c k = A at kN w1 w2 w3
  refine call_step kN rfl ?_
  simp only [HH, gW, gD, V3.l, M4.l, Fr.l, Sp.l, RV.l, RM.l, RF.l, RS.l]
  refine call_step (f_Depth (ns := ns) (by omega)) rfl ?_
  simp only [HH, gW, gD, V3.l, M4.l, Fr.l, Sp.l, RV.l, RM.l, RF.l, RS.l]
  refine primS (.int .i64 (rs.length : Int)) rfl ?_
  refine primS (bl (mrk [] rs.length)) (by rw [mrk_nil]; exact bl_make _ (by omega)) ?_
  try simp only [List.cons_append, List.nil_append]
  have hA : A.length ≤ 200 := by
    have h1 : (A.map Int.toNat).Nodup := by
      rw [List.nodup_iff_pairwise_ne, List.pairwise_map]
      refine List.Pairwise.imp_of_mem (fun {a b} ha hb hne => ?_) w1
      have := w2 a ha; have := w2 b hb
      omega
    have h2 := nd_le rs.length (A.map Int.toNat) h1 fun x hx => by
      obtain ⟨y, hy, rfl⟩ := List.mem_map.1 hx
      have := w2 y hy; omega
    rw [List.length_map] at h2
    omega
  refine loop_st (fun i : Nat => [vl rs, .int .i64 k, il A, .int .i64 (i : Int), bl (mrk (A.take i) rs.length)]) (fun i => i ≤ A.length) (fun i => A.length - i) 0 (Nat.zero_le _) rfl (fun _ => rfl) fun i hi X hX => ?_
  refine primS (.int .i64 (A.length : Int)) rfl ?_
  by_cases hlt : i < A.length
  · refine primS (.bool true) (d_lss.trans (by rw [decide_eq_true (by omega)])) ?_
    refine itT rfl ?_
    obtain ⟨x, hx⟩ : ∃ x, A[i]? = some x := ⟨_, List.getElem?_eq_getElem hlt⟩
    have hxr := w2 x (List.mem_of_getElem? hx)
    have hg : Prim.den (.get 1 0) [il A, .int .i64 (i : Int)] = some (.int .i64 x) := by
      rw [il_get (by omega) (by omega), Int.toNat_natCast, List.getD_eq_getElem?_getD, hx]; rfl
    refine primS (.bool true) (il_inb (by omega) (by omega)) ?_
    refine primS (.int .i64 x) hg ?_
    refine primS (.bool false) (d_lss.trans (by rw [decide_eq_false (by omega)])) ?_
    try simp only [List.cons_append, List.nil_append]
    refine itF rfl ?_
    refine primS (.bool true) (il_inb (by omega) (by omega)) ?_
    refine primS (.int .i64 x) hg ?_
    refine primS (.int .i64 (rs.length : Int)) rfl ?_
    try simp only [List.cons_append, List.nil_append]
    refine primS (.bool false) (d_geq.trans (by rw [decide_eq_false (by omega)])) ?_
    refine itF rfl ?_
    refine primS (.bool true) (il_inb (by omega) (by omega)) ?_
    refine primS (.int .i64 x) hg ?_
    refine primS (.bool true) (bl_inb (by omega) (by rw [mrk_len]; omega)) ?_
    try simp only [List.cons_append, List.nil_append]
    refine primS (.bool false) ((bl_get (by omega) (by rw [mrk_len]; omega)).trans (by rw [mrk_get (by omega), Int.toNat_of_nonneg (by omega), decide_eq_false (tk_nd hx w1)])) ?_
    refine itF rfl ?_
    refine primS (.bool true) (il_inb (by omega) (by omega)) ?_
    refine primS (.int .i64 x) hg ?_
    refine primS (.bool true) (bl_inb (by omega) (by rw [mrk_len]; omega)) ?_
    try simp only [List.cons_append, List.nil_append]
    refine primS (bl (mrk (A.take i ++ [x]) rs.length)) ((bl_set (by omega) (by rw [mrk_len]; omega)).trans (by rw [mrk_add (by omega) (by omega)])) ?_
    refine primS (.int .i64 ((i + 1 : Nat) : Int)) ((d_add64 (by omega) (by omega)).trans (by simp)) ?_
    have := hX (i + 1) (by omega) (by omega)
    rw [tk1 hx] at this
    exact jump_step rfl this
  · refine primS (.bool false) (d_lss.trans (by rw [decide_eq_false (by omega)])) ?_
    try simp only [List.cons_append, List.nil_append]
    refine itF rfl ?_
    refine call_step f_fixed23 rfl ?_
    simp only [HH, gW, gD, V3.l, M4.l, Fr.l, Sp.l, RV.l, RM.l, RF.l, RS.l]
    refine itT rfl ?_
    refine primS (.int .i64 (A.length : Int)) rfl ?_
    refine primS (.int .i64 (if k > 0 then k else 0)) d_max ?_
    refine primS (.bool true) (d_leq.trans (by rw [decide_eq_true w3])) ?_
    try simp only [List.cons_append, List.nil_append]
    exact ret_step rfl
end Go.Px.Na

/- Ko: the nearest points, by a tree: what the heap holds, sorted. -/
import Derived.Test.YtejnnginkadecaaGreatKk
import Derived.Test.YtejnnginkadecaaGreatKn
set_option maxRecDepth 40000
set_option maxHeartbeats 40000000
set_option linter.unusedVariables false
set_option linter.unusedSimpArgs false
namespace Go.Px
open Go.RowKit
def ir_kd_Nearest : IR :=
 .prim (.bin .lss) [.var 11, .int .i64 (1)] <|
 .ite (.var 12) (
  .ret [.one (.nil)]) (
  .prim .len [.var 0] <|
  .prim (.make 1) [.var 13, .var 13, .bol false] <|
  .prim .len [.var 1] <|
  .prim (.make 1) [.var 15, .var 15, .bol false] <|
  .turn F.__kd_seeker__node [.pl, .pl, .pl, .pl, .pl, .pl, .pl, .pl, .pl, .pl, .pl, .pl, .row 4 59, .row 1 4, .row 1 4] [.pl] 0 [.var 0, .var 1, .var 2, .var 3, .var 4, .var 5, .var 6, .var 7, .var 8, .var 9, .var 10, .var 11, .nil, .var 14, .var 16, .int .i64 (0)] <|
  .sortc F.slices_SortFunc___kd_found_kd_found_ 4 59 F.kd_Nearest_1 [] (.var 29) <|
  .prim .len [.var 32] <|
  .loop [.var 33, .int .i64 (0), .nil, .var 32] (
   .prim (.bin .lss) [.var 1, .var 0] <|
   .ite (.var 4) (
    .prim (.inb 4) [.var 3, .var 1] <|
    .prim (.get 4 0) [.var 3, .var 1] <|
    .prim (.get 4 1) [.var 3, .var 1] <|
    .prim (.get 4 2) [.var 3, .var 1] <|
    .prim (.get 4 3) [.var 3, .var 1] <|
    .prim (.mk 1) [.var 6] <|
    .prim (.app 1 8) [.var 2, .var 10] <|
    .prim (.bin .add) [.var 1, .int .i64 (1)] <|
    .jump 0 [.var 0, .var 12, .var 11, .var 3]) (
    .ret [.one (.var 2)])))

theorem tree_kd_Nearest : symFunc Go.Proofs.Tryz.prog ⟨fun f => [28].contains f, fun f i => if f = 8 ∧ i = 8 then [⟨[(10, .s (.one (.own 0))), (38, .s (.one (.own 1))), (39, .s (.one (.at (.var 0)))), (40, .s (.one (.at (.var 1))))], [], [(0, .own (.var 2) 1 3), (1, .own (.var 3) 4 59)], 2, 4⟩] else [], fun f i => [], fun f => [33].contains f, fun f => if f = 14 then some ([.row 4 63, .pl], [.row 1 3, .pl], 1) else if f = 17 then some ([.pl, .pl, .pl, .pl, .pl, .pl, .pl, .pl, .pl, .pl, .pl, .pl, .row 4 59, .row 1 4, .row 1 4], [.pl], 0) else if f = 49 then some ([.pl, .pl, .pl, .pl, .pl, .pl, .pl, .pl, .pl, .pl, .pl, .pl, .row 4 59, .row 1 4, .row 1 4], [], 0) else if f = 50 then some ([.pl, .pl, .pl, .pl, .pl, .pl, .pl, .pl, .pl, .pl, .pl, .pl, .row 4 59, .row 1 4, .row 1 4], [], 0) else none⟩ 400 F.kd_Nearest [.agg 1, .one, .agg 9, .one] = some ir_kd_Nearest := by kernel_rfl
end Go.Px
namespace Go.Px.Na
open Go.RowKit
open Go.Proofs.Tryz (prog)
/-- What a seeker holds at first. -/
def sk0 (n m : Nat) : SK := ⟨[], List.replicate n false, List.replicate m false⟩
/-- What its heap holds at last. -/
def hpF (ns : List KN) (ps : List V3) (c : V3) (k : Int) : List FD := (seek ns ps c k ns.length (sk0 ns.length ps.length) 0).heap
theorem sk0_ok {L : Nat} {ns : List KN} {m : Nat} : OkS L ns m (sk0 ns.length m) := ⟨by simp [sk0], by simp [sk0], by simp [sk0], fun f hf => by simp [sk0] at hf⟩
theorem hpF_ok {L M : Nat} {rs : List RV} {ps : List V3} {ns : List KN} {rc : RV} {c : V3} {k : Int} (H : NVs L rs ps) (hc : NV M rc c) (hk : 0 < k) : OkS (6 * (M + L + 1) + 2) ns ps.length (seek ns ps c k ns.length (sk0 ns.length ps.length) 0) := by
  refine OkS.seek rfl hk (fun j hj => ?_) _ _ _ sk0_ok
  exact Sm_far (nvs_at H (by rw [H.len]; exact hj)).sm hc.sm
theorem f_Nearest {L M : Nat} {rs : List RV} {ps : List V3} {ns : List KN} {rc : RV} {c : V3} {k : Int} (H : NVs L rs ps) (hc : NV M rc c) (hl : L ≤ 10000000000) (hM : M ≤ 10000000000) (hk : 0 < k) (hn1 : ns.length ≤ 100000) (hr1 : rs.length ≤ 90000)
    {h : List FD} (hlen : h.length = (hpF ns ps c k).length) (hs : SortCalls prog F.slices_SortFunc___kd_found_kd_found_ 4 59 F.kd_Nearest_1 [] (hpF ns ps c k).length ((hpF ns ps c k).flatMap FD.l) (h.flatMap FD.l)) :
    PureCalls prog F.kd_Nearest [.agg [kl ns], .one (vl rs), .agg (gW rc.l), .one (.int .i64 k)] [.one (il (h.map FD.pt))] := by
  have hrl := H.len
  have hsm : (hpF ns ps c k).length ≤ 100000 := by have := (hpF_ok (ns := ns) H hc hk).small; unfold hpF; omega
  refine symFunc_sound hmix tree_kd_Nearest (by kernel_rfl) rfl ?_
  unfold ir_kd_Nearest
  try simp only [HH, gW, gD, V3.l, M4.l, Fr.l, Sp.l, RV.l, RM.l, RF.l, RS.l]
  refine primS (.bool false) (d_lss.trans (by rw [decide_eq_false (by omega)])) ?_
  refine itF rfl ?_
  refine primS (.int .i64 (ns.length : Int)) rfl ?_
  refine primS (bl (List.replicate ns.length false)) (bl_make _ (by omega)) ?_
  refine primS (.int .i64 (rs.length : Int)) rfl ?_
  try simp only [List.cons_append, List.nil_append]
  refine primS (bl (List.replicate rs.length false)) (bl_make _ (by omega)) ?_
  try simp only [List.cons_append, List.nil_append]
  have ks := f_seek H hc hl hM hk hn1 hr1 ns.length (sk0 ns.length rs.length) 0 sk0_ok (by omega) (by omega)
  rw [hrl] at ks ⊢
  refine turn_step ks ?_
  have e : (seek ns ps c k ns.length (sk0 ns.length ps.length) 0).heap = hpF ns ps c k := rfl
  simp only [skS, skc, e, List.cons_append, List.nil_append]
  generalize hpF ns ps c k = hp at hlen hs hsm ⊢
  generalize (seek ns ps c k ns.length (sk0 ns.length ps.length) 0).seen = z1
  generalize (seek ns ps c k ns.length (sk0 ns.length ps.length) 0).has = z2
  refine sortc_step (n := hp.length) (cs := hp.flatMap FD.l) (cs' := h.flatMap FD.l) rfl hs ?_
  rw [show DV.list hp.length (h.flatMap FD.l) = fl h by unfold fl; rw [hlen]]
  refine primS (.int .i64 (h.length : Int)) rfl ?_
  try simp only [List.cons_append, List.nil_append]
  refine loop_st (fun i : Nat => [.int .i64 (h.length : Int), .int .i64 (i : Int), il ((h.take i).map FD.pt), fl h]) (fun i => i ≤ h.length) (fun i => h.length - i) 0 (Nat.zero_le _) rfl (fun _ => rfl) fun i hi X hX => ?_
  by_cases hlt : i < h.length
  · refine primS (.bool true) (d_lss.trans (by rw [decide_eq_true (by omega)])) ?_
    refine itT rfl ?_
    have hf := fd_at hlt
    refine primS (.bool true) (fl_inb (by omega) (by omega)) ?_
    try simp only [List.cons_append, List.nil_append]
    refine get_fd (j := (i : Int)) (by omega) (by rw [Int.toNat_natCast]; exact hf) (fun _ => rfl) (fun _ => rfl) ?_
    simp only [FD.l, gD, List.cons_append, List.nil_append]
    refine primS (il [(h.getD i default).pt]) rfl ?_
    refine primS (il ((h.take i).map FD.pt ++ [(h.getD i default).pt])) (il_app (by simp; omega)) ?_
    refine primS (.int .i64 ((i + 1 : Nat) : Int)) ((d_add64 (by omega) (by omega)).trans (by simp)) ?_
    try simp only [List.cons_append, List.nil_append]
    have := hX (i + 1) (by omega) (by omega)
    rw [tk1 hf, List.map_append] at this
    exact jump_step rfl this
  · obtain rfl : i = h.length := by omega
    refine primS (.bool false) (d_lss.trans (by rw [decide_eq_false (by omega)])) ?_
    refine itF rfl ?_
    refine ret_step ?_
    rw [List.take_length]
    rfl
theorem f_Nearest_no {rs : List RV} {ns : List KN} {rc : RV} {k : Int} (hk : k < 1) : PureCalls prog F.kd_Nearest [.agg [kl ns], .one (vl rs), .agg (gW rc.l), .one (.int .i64 k)] [.one (il [])] := by
  refine symFunc_sound hmix tree_kd_Nearest (by kernel_rfl) rfl ?_
  unfold ir_kd_Nearest
  try simp only [HH, gW, gD, V3.l, M4.l, Fr.l, Sp.l, RV.l, RM.l, RF.l, RS.l]
  refine primS (.bool true) (d_lss.trans (by rw [decide_eq_true hk])) ?_
  refine itT rfl ?_
  exact ret_step rfl
end Go.Px.Na

/- Gr: plays: the document's, step by step. -/
import Derived.Test.YtlhkacaiiplhhaaGp
set_option maxRecDepth 20000
set_option maxHeartbeats 40000000
set_option linter.unusedVariables false
set_option linter.unusedSimpArgs false
namespace Go.Px
open Go.RowKit
def ir_penumbraref21_Picked : IR :=
 .prim .len [.var 0] <|
 .prim (.bin .geq) [.var 1, .var 3] <|
 .ite (.var 4) (
  .ret [.one (.int .i64 (0))]) (
  .prim (.inb 1) [.var 0, .var 1] <|
  .prim (.get 1 0) [.var 0, .var 1] <|
  .prim (.bin .rem) [.var 6, .var 2] <|
  .prim (.bin .add) [.var 7, .var 2] <|
  .prim (.bin .rem) [.var 8, .var 2] <|
  .ret [.one (.var 9)])

def ir_penumbraref21_Play : IR :=
 .call F.penumbraref21_may [.agg [.var 1, .var 2, .var 3], .one (.var 4)] [.one] <|
 .prim .not [.var 7] <|
 .ite (.var 8) (
  .ret [.agg [.nil, .nil], .one (.int .i64 (0)), .one (.bol false)]) (
  .prim .len [.var 0] <|
  .prim (.bin .gtr) [.var 9, .int .i64 (1000)] <|
  .ite (.var 10) (
   .ret [.agg [.nil, .nil], .one (.int .i64 (0)), .one (.bol false)]) (
   .prim (.bin .lss) [.var 5, .int .i64 (1)] <|
   .ite (.var 11) (
    .ret [.agg [.nil, .nil], .one (.int .i64 (0)), .one (.bol false)]) (
    .prim (.bin .gtr) [.var 5, .int .i64 (64)] <|
    .ite (.var 12) (
     .ret [.agg [.nil, .nil], .one (.int .i64 (0)), .one (.bol false)]) (
     .prim (.make 24) [.var 5, .var 5, .int .i64 (0), .int .i64 (0), .int .i64 (0)] <|
     .loop [.var 0, .var 4, .var 6, .int .i64 (0), .var 1, .var 2, .var 3, .nil, .var 13] (
      .prim (.bin .lss) [.var 3, .var 1] <|
      .ite (.var 9) (
       .prim (.mk 1) [.int .i64 (-1)] <|
       .prim (.app 1 8) [.var 7, .var 10] <|
       .prim (.bin .add) [.var 3, .int .i64 (1)] <|
       .jump 0 [.var 0, .var 1, .var 2, .var 12, .var 4, .var 5, .var 6, .var 11, .var 8]) (
       .loop [.var 0, .var 1, .var 2, .int .i64 (0), .var 4, .var 5, .var 6, .var 7, .nil, .nil, .var 8] (
        .prim .len [.var 0] <|
        .prim (.bin .lss) [.var 3, .var 11] <|
        .ite (.var 12) (
         .prim (.inb 9) [.var 0, .var 3] <|
         .prim (.get 9 0) [.var 0, .var 3] <|
         .prim (.get 9 1) [.var 0, .var 3] <|
         .prim (.get 9 2) [.var 0, .var 3] <|
         .prim (.get 9 3) [.var 0, .var 3] <|
         .prim (.get 9 4) [.var 0, .var 3] <|
         .prim (.get 9 5) [.var 0, .var 3] <|
         .prim (.get 9 6) [.var 0, .var 3] <|
         .prim (.get 9 7) [.var 0, .var 3] <|
         .prim (.get 9 8) [.var 0, .var 3] <|
         .call F.penumbraref21_Slot [.agg [.var 14, .var 15, .var 16, .var 17, .var 18, .var 19, .var 20, .var 21, .var 22], .agg [.var 4, .var 5, .var 6], .one (.var 1)] [.one, .one] <|
         .prim (.mk 1) [.var 23] <|
         .prim (.app 1 8) [.var 9, .var 25] <|
         .prim (.mk 1) [.int .i64 (-1)] <|
         .prim (.app 1 8) [.var 8, .var 27] <|
         .prim (.bin .add) [.var 3, .int .i64 (1)] <|
         .jump 1 [.var 0, .var 1, .var 2, .var 29, .var 4, .var 5, .var 6, .var 7, .var 28, .var 26, .var 10]) (
         .prim (.mk 0) [] <|
         .loop [.int .i64 (0), .var 2, .var 13, .var 7, .var 8, .var 9, .var 10] (
          .prim .len [.var 6] <|
          .prim (.bin .lss) [.var 0, .var 7] <|
          .ite (.var 8) (
           .prim (.inb 3) [.var 6, .var 0] <|
           .prim (.get 3 0) [.var 6, .var 0] <|
           .prim (.bin .neq) [.var 10, .int .i64 (0)] <|
           .ite (.var 11) (
            .prim (.mk 1) [.var 0] <|
            .prim (.app 1 8) [.var 2, .var 12] <|
            .prim (.bin .add) [.var 0, .int .i64 (1)] <|
            .jump 2 [.var 14, .var 1, .var 13, .var 3, .var 4, .var 5, .var 6]) (
            .prim .len [.var 5] <|
            .prim (.bin .lss) [.int .i64 (0), .var 12] <|
            .ite (.var 13) (
             .prim (.mk 1) [.var 0] <|
             .prim (.app 1 8) [.var 2, .var 14] <|
             .prim (.bin .add) [.var 0, .int .i64 (1)] <|
             .jump 2 [.var 16, .var 1, .var 15, .var 3, .var 4, .var 5, .var 6]) (
             .prim (.bin .add) [.var 0, .int .i64 (1)] <|
             .jump 2 [.var 14, .var 1, .var 2, .var 3, .var 4, .var 5, .var 6]))) (
           .loop [.var 1, .int .i64 (0), .int .i64 (0), .var 2, .var 3, .var 4, .var 5, .var 6] (
            .prim .len [.var 3] <|
            .prim (.bin .gtr) [.var 8, .int .i64 (0)] <|
            .ite (.var 9) (
             .join (
              .prim .len [.var 3] <|
              .call F.penumbraref21_Picked [.one (.var 0), .one (.var 1), .one (.var 10)] [.one] <|
              .prim (.inb 1) [.var 3, .var 11] <|
              .prim (.get 1 0) [.var 3, .var 11] <|
              .prim (.inb 3) [.var 7, .var 13] <|
              .prim (.get 3 0) [.var 7, .var 13] <|
              .prim (.get 3 1) [.var 7, .var 13] <|
              .prim (.get 3 2) [.var 7, .var 13] <|
              .join (
               .prim (.bin .eql) [.var 15, .int .i64 (0)] <|
               .ite (.var 18) (
                .prim (.bin .add) [.var 2, .int .i64 (1)] <|
                .jump 5 [.var 13, .var 0, .var 1, .var 19, .int .i64 (1), .var 2, .var 17, .var 4, .var 5, .var 6, .var 7]) (
                .prim (.bin .eql) [.var 15, .int .i64 (1)] <|
                .ite (.var 19) (
                 .prim (.inb 1) [.var 6, .var 16] <|
                 .prim (.get 1 0) [.var 6, .var 16] <|
                 .prim (.inb 1) [.var 4, .var 21] <|
                 .prim (.get 1 0) [.var 4, .var 21] <|
                 .jump 5 [.var 13, .var 0, .var 1, .var 2, .int .i64 (2), .var 16, .var 23, .var 4, .var 5, .var 6, .var 7]) (
                 .prim (.bin .eql) [.var 15, .int .i64 (2)] <|
                 .ite (.var 20) (
                  .prim (.inb 1) [.var 5, .var 16] <|
                  .prim (.setl 1 0) [.var 5, .var 16, .var 17] <|
                  .jump 5 [.var 13, .var 0, .var 1, .var 2, .int .i64 (3), .var 16, .var 17, .var 4, .var 22, .var 6, .var 7]) (
                  .prim (.bin .eql) [.var 15, .int .i64 (3)] <|
                  .ite (.var 21) (
                   .prim (.inb 1) [.var 6, .var 16] <|
                   .prim (.get 1 0) [.var 6, .var 16] <|
                   .prim (.inb 1) [.var 4, .var 23] <|
                   .prim (.get 1 0) [.var 4, .var 23] <|
                   .prim (.bin .eql) [.var 25, .var 17] <|
                   .ite (.var 26) (
                    .prim (.inb 1) [.var 4, .var 23] <|
                    .prim (.setl 1 0) [.var 4, .var 23, .var 16] <|
                    .jump 5 [.var 13, .var 0, .var 1, .var 2, .int .i64 (0), .var 16, .var 17, .var 28, .var 5, .var 6, .var 7]) (
                    .jump 5 [.var 13, .var 0, .var 1, .var 2, .int .i64 (1), .var 16, .var 17, .var 4, .var 5, .var 6, .var 7])) (
                   .jump 5 [.var 13, .var 0, .var 1, .var 2, .var 15, .var 16, .var 17, .var 4, .var 5, .var 6, .var 7]))))) (
               .prim (.inb 3) [.var 10, .var 0] <|
               .prim (.setl 3 0) [.var 10, .var 0, .var 4, .var 5, .var 6] <|
               .jump 4 [.var 1, .var 2, .var 3, .var 7, .var 8, .var 9, .var 12])) (
              .prim (.bin .add) [.var 1, .int .i64 (1)] <|
              .prim (.mk 0) [] <|
              .loop [.int .i64 (0), .var 0, .var 7, .var 2, .var 8, .var 3, .var 4, .var 5, .var 6] (
               .prim .len [.var 8] <|
               .prim (.bin .lss) [.var 0, .var 9] <|
               .ite (.var 10) (
                .prim (.inb 3) [.var 8, .var 0] <|
                .prim (.get 3 0) [.var 8, .var 0] <|
                .prim (.bin .neq) [.var 12, .int .i64 (0)] <|
                .ite (.var 13) (
                 .prim (.mk 1) [.var 0] <|
                 .prim (.app 1 8) [.var 4, .var 14] <|
                 .prim (.bin .add) [.var 0, .int .i64 (1)] <|
                 .jump 4 [.var 16, .var 1, .var 2, .var 3, .var 15, .var 5, .var 6, .var 7, .var 8]) (
                 .prim .len [.var 7] <|
                 .prim (.bin .lss) [.var 3, .var 14] <|
                 .ite (.var 15) (
                  .prim (.mk 1) [.var 0] <|
                  .prim (.app 1 8) [.var 4, .var 16] <|
                  .prim (.bin .add) [.var 0, .int .i64 (1)] <|
                  .jump 4 [.var 18, .var 1, .var 2, .var 3, .var 17, .var 5, .var 6, .var 7, .var 8]) (
                  .prim (.bin .add) [.var 0, .int .i64 (1)] <|
                  .jump 4 [.var 16, .var 1, .var 2, .var 3, .var 4, .var 5, .var 6, .var 7, .var 8]))) (
                .jump 3 [.var 1, .var 2, .var 3, .var 4, .var 5, .var 6, .var 7, .var 8])))) (
             .ret [.agg [.var 4, .var 5], .one (.var 1), .one (.bol true)]))))))))))))

theorem tree_penumbraref21_Picked : symFunc Go.Proofs.Try.prog ⟨fun f => [58].contains f, fun f i => [], fun f i => [], fun f => [60, 61, 64, 65].contains f⟩ 400 F.penumbraref21_Picked [.one, .one, .one] = some ir_penumbraref21_Picked := by kernel_rfl
theorem tree_penumbraref21_Play : symFunc Go.Proofs.Try.prog ⟨fun f => [58].contains f, fun f i => if f = 24 ∧ i = 5 then [⟨[(0, .s (.one (.at (.var 0)))), (2, .s (.one (.at (.var 1)))), (4, .s (.one (.at (.var 2)))), (6, .s (.one (.lp 0 0))), (10, .s (.one (.lp 1 0))), (13, .s (.one (.lp 2 0))), (14, .s (.one (.at (.var 3))))], [], [(0, .box [.at (.var 4), .at (.var 5), .at (.var 6)] 24 false), (1, .box [.nils, .nils] 59 false), (2, .box [.own 3, .nils, .nils, .at (.int .i64 (0)), .own 4] 114 false), (3, .own (.var 7) 1 3), (4, .own (.var 8) 3 143)], 5, 9⟩] else if f = 24 ∧ i = 9 then [⟨[(0, .s (.one (.at (.var 0)))), (2, .s (.one (.at (.var 1)))), (4, .s (.one (.at (.var 2)))), (6, .s (.one (.lp 0 0))), (10, .s (.one (.lp 1 0))), (13, .s (.one (.lp 2 0))), (15, .s (.one (.at (.var 3))))], [], [(0, .box [.at (.var 4), .at (.var 5), .at (.var 6)] 24 false), (1, .box [.nils, .nils] 59 false), (2, .box [.own 3, .own 4, .own 5, .at (.int .i64 (0)), .own 6] 114 false), (3, .own (.var 7) 1 3), (4, .own (.var 8) 1 3), (5, .own (.var 9) 1 3), (6, .own (.var 10) 3 143)], 7, 11⟩] else if f = 64 ∧ i = 3 then [⟨[(0, .s (.one (.lp 0 0))), (3, .s (.one (.own 1))), (4, .s (.one (.at (.var 0))))], [[(4, .s (.one (.at (.var 1)))), (10, .s (.one (.lp 2 0))), (13, .s (.one (.lp 0 0))), (18, .s (.one (.at (.int .i64 (0)))))]], [(0, .box [.own 3, .own 4, .own 5, .at (.int .i64 (0)), .own 6] 114 false), (1, .own (.var 2) 1 3), (2, .box [.nils, .nils] 59 false), (3, .own (.var 3) 1 3), (4, .own (.var 4) 1 3), (5, .own (.var 5) 1 3), (6, .own (.var 6) 3 143)], 7, 7⟩, ⟨[(0, .s (.one (.lp 0 0))), (3, .s (.one (.own 1))), (4, .s (.one (.at (.var 0))))], [[(4, .s (.one (.at (.var 1)))), (10, .s (.one (.lp 2 0))), (13, .s (.one (.lp 0 0))), (18, .s (.one (.at (.var 2))))]], [(0, .box [.own 3, .own 4, .own 5, .at (.var 3), .own 6] 114 false), (1, .own (.var 4) 1 3), (2, .box [.nils, .nils] 59 false), (3, .own (.var 5) 1 3), (4, .own (.var 6) 1 3), (5, .own (.var 7) 1 3), (6, .own (.var 8) 3 143)], 7, 9⟩] else if f = 24 ∧ i = 16 then [⟨[(4, .s (.one (.at (.var 0)))), (10, .s (.one (.lp 0 0))), (13, .s (.one (.lp 1 0))), (18, .s (.one (.at (.var 1)))), (19, .s (.one (.own 2)))], [], [(0, .box [.nils, .nils] 59 false), (1, .box [.own 3, .own 4, .own 5, .at (.var 2), .own 6] 114 false), (2, .own (.var 3) 1 3), (3, .own (.var 4) 1 3), (4, .own (.var 5) 1 3), (5, .own (.var 6) 1 3), (6, .own (.var 7) 3 143)], 7, 8⟩] else [], fun f i => if f = 65 ∧ i = 18 then [⟨[(0, .s (.one (.lp 0 0))), (1, .s (.one (.at (.var 0)))), (4, .s (.one (.lp 1 0)))], [[(4, .s (.one (.at (.var 1)))), (10, .s (.one (.lp 2 0))), (13, .s (.one (.lp 0 0))), (18, .s (.one (.at (.var 2))))]], [(0, .box [.own 3, .own 4, .own 5, .at (.var 3), .own 6] 114 false), (1, .box [.at (.var 4), .at (.var 5), .at (.var 6)] 143 false), (2, .box [.nils, .nils] 59 false), (3, .own (.var 7) 1 3), (4, .own (.var 8) 1 3), (5, .own (.var 9) 1 3), (6, .own (.var 10) 3 143)], 7, 11⟩] else if f = 24 ∧ i = 18 then [⟨[(4, .s (.one (.at (.var 0)))), (10, .s (.one (.lp 0 0))), (13, .s (.one (.lp 1 0))), (18, .s (.one (.at (.var 1))))], [], [(0, .box [.nils, .nils] 59 false), (1, .box [.own 2, .own 3, .own 4, .at (.var 2), .own 5] 114 false), (2, .own (.var 3) 1 3), (3, .own (.var 4) 1 3), (4, .own (.var 5) 1 3), (5, .own (.var 6) 3 143)], 6, 7⟩] else [], fun f => [60, 61, 64, 65].contains f⟩ 400 F.penumbraref21_Play [.one, .agg 3, .one, .one, .one] = some ir_penumbraref21_Play := by kernel_rfl
end Go.Px
namespace Go.Px.Na
open Go.RowKit
open Go.Proofs.Try (prog)
theorem f_Picked {picks : List Int} {k m : Nat} (hm : 0 < m) (hb : m ≤ 1099511627776) : PureCalls prog F.penumbraref21_Picked [.one (il picks), .one (.int .i64 (k : Int)), .one (.int .i64 (m : Int))] [.one (.int .i64 ((pk picks k m : Nat) : Int))] := by
  refine symFunc_sound hmix tree_penumbraref21_Picked (by kernel_rfl) rfl ?_
  unfold ir_penumbraref21_Picked
  try simp only [HH, gW, gD, V3.l, M4.l, Fr.l, Sp.l, RV.l, RM.l, RF.l, RS.l]
  refine primS (.int .i64 (picks.length : Int)) rfl ?_
  refine primS (.bool (decide _)) d_geq ?_
  refine itD rfl (fun d => ?_) (fun d => ?_)
  · refine ret_step ?_
    rw [pk, if_neg (by omega)]; rfl
  · have hr := tm_rng (a := picks.getD k 0) (m := (m : Int)) (by omega)
    refine primS (.bool true) (il_inb (by omega) (by omega)) ?_
    refine primS _ (il_get (by omega) (by omega)) ?_
    rw [Int.toNat_natCast]
    refine primS _ (d_remz (by omega)) ?_
    simp only [List.cons_append, List.nil_append]
    refine primS _ (d_add64 (by omega) (by omega)) ?_
    refine primS (.int .i64 ((pk picks k m : Nat) : Int)) ((d_remz (by omega)).trans (by
      rw [tm_emod (by omega), pk, if_pos (by omega)]
      have := Int.emod_nonneg (picks.getD k 0) (b := (m : Int)) (by omega)
      rw [Int.toNat_of_nonneg this])) ?_
    exact ret_step rfl
section
variable {L M : Nat} {rsd : RR} {s : Rat} {n W : Int} {rs : List RV} {ps : List V3} {picks : List Int}
theorem fr_Play_n (h : ¬pmay ps s n W) (hp : NVs L rs ps) (g : Num M rsd s) (hl : L ≤ 10000000000 ∧ M ≤ 10000000000) : PureCalls prog F.penumbraref21_Play [.one (vl rs), .agg (gW [rsd]), .one (.int .i64 n), .one (.int .i64 W), .one (il picks)] [gd2 [] [], .one (.int .i64 0), .one (.bool false)] := by
  have hlen := hp.len
  refine symFunc_sound hmix tree_penumbraref21_Play (by kernel_rfl) rfl ?_
  unfold ir_penumbraref21_Play
  try simp only [HH, gW, gD, V3.l, M4.l, Fr.l, Sp.l, RV.l, RM.l, RF.l, RS.l]
  refine call_step (f_ref21_may g (Nat.le_trans hl.2 (by decide))) rfl ?_
  try simp only [HH, gW, gD, V3.l, M4.l, Fr.l, Sp.l, RV.l, RM.l, RF.l, RS.l]
  refine primS (.bool (!_)) rfl ?_
  refine itN rfl (fun c1 => ?_) (fun c1 => ?_)
  · exact ret_step rfl
  refine primS (.int .i64 (rs.length : Int)) rfl ?_
  refine primS (.bool (decide _)) d_gtr ?_
  refine itD rfl (fun c2 => ?_) (fun c2 => ?_)
  · exact ret_step rfl
  refine primS (.bool (decide _)) d_lss ?_
  refine itD rfl (fun c3 => ?_) (fun c3 => ?_)
  · exact ret_step rfl
  refine primS (.bool (decide _)) d_gtr ?_
  refine itD rfl (fun c4 => ?_) (fun c4 => ?_)
  · exact ret_step rfl
  exact absurd ⟨c1, by omega, by omega, by omega⟩ h
/-- The document's loop that looks which workers can make a step. -/
theorem fr_Play_t {n W K : Nat} (h : pmay ps s n W) (hp : NVs L rs ps) (g : Num M rsd s) (hl : L ≤ 10000000000 ∧ M ≤ 10000000000) (hpk : picks.length ≤ 1048576)
    (hK : can ps.length (itw (slots ps s n) picks ps.length (w0 n ps.length W) K) = []) (hj : ∀ j, j < K → can ps.length (itw (slots ps s n) picks ps.length (w0 n ps.length W) j) ≠ [])
    (hpf : ∀ k, k ≤ K → PF n ps.length W (slots ps s n) (itw (slots ps s n) picks ps.length (w0 n ps.length W) k)) (hKb : K ≤ 1099511627776) :
    PureCalls prog F.penumbraref21_Play [.one (vl rs), .agg (gW [rsd]), .one (.int .i64 n), .one (.int .i64 W), .one (il picks)] [gd2 (itw (slots ps s n) picks ps.length (w0 n ps.length W) K).heads (itw (slots ps s n) picks ps.length (w0 n ps.length W) K).next, .one (.int .i64 (K : Int)), .one (.bool true)] := by
  have hlen := hp.len
  obtain ⟨c, hN, hW1, hW2⟩ := h
  have hm := c.2
  refine symFunc_sound hmix tree_penumbraref21_Play (by kernel_rfl) rfl ?_
  unfold ir_penumbraref21_Play
  try simp only [HH, gW, gD, V3.l, M4.l, Fr.l, Sp.l, RV.l, RM.l, RF.l, RS.l]
  refine call_step (f_ref21_may g (Nat.le_trans hl.2 (by decide))) rfl ?_
  try simp only [HH, gW, gD, V3.l, M4.l, Fr.l, Sp.l, RV.l, RM.l, RF.l, RS.l]
  rw [decide_eq_true c]
  refine primS (.bool false) rfl ?_
  refine itF rfl ?_
  refine primS (.int .i64 (rs.length : Int)) rfl ?_
  refine primS (.bool false) (d_gtr.trans (by rw [decide_eq_false (by omega)])) ?_
  refine itF rfl ?_
  refine primS (.bool false) (d_lss.trans (by rw [decide_eq_false (by omega)])) ?_
  refine itF rfl ?_
  refine primS (.bool false) (d_gtr.trans (by rw [decide_eq_false (by omega)])) ?_
  refine itF rfl ?_
  refine primS _ (wk_make (by omega)) ?_
  refine loop_st (fun i : Nat => [vl rs, .int .i64 (n : Int), il picks, .int .i64 (i : Int), .bool rsd.neg, nl rsd.num, nl rsd.den, il (List.replicate i (-1)), wkl (List.replicate W ⟨0, 0, 0⟩)]) (fun i => i ≤ n) (fun i => n - i) 0 (Nat.zero_le _) rfl (fun _ => rfl) fun m hi X hX => ?_
  by_cases hlt : m < n
  · refine primS (.bool true) (d_lss.trans (by rw [decide_eq_true (by omega)])) ?_
    refine itT rfl ?_
    refine primS (il [-1]) rfl ?_
    refine primS (il (List.replicate m (-1) ++ [-1])) (il_app (by simp; omega)) ?_
    refine primS (.int .i64 ((m + 1 : Nat) : Int)) ((d_add64 (by omega) (by omega)).trans (by simp)) ?_
    simp only [List.cons_append, List.nil_append]
    have := hX (m + 1) (by omega) (by omega)
    rw [List.replicate_succ'] at this
    exact jump_step rfl this
  obtain rfl : m = n := by omega
  clear hX
  refine primS (.bool false) (d_lss.trans (by rw [decide_eq_false (by omega)])) ?_
  refine itF rfl ?_
  have hsr := slots_rng (ps := ps) c
  have hsl := slots_len (ps := ps) (s := s) (n := (m : Int))
  have hsg : ∀ {i : Nat} {p : V3}, ps[i]? = some p → (slots ps s m)[i]? = some (slot p s m) := fun h => by simp [slots, h]
  generalize slots ps s (m : Int) = ss at *
  generalize hNN : ps.length = N at *
  refine loop_st (fun i : Nat => [vl rs, .int .i64 (m : Int), il picks, .int .i64 (i : Int), .bool rsd.neg, nl rsd.num, nl rsd.den, il (List.replicate m (-1)), il (List.replicate i (-1)), il (ss.take i), wkl (List.replicate W ⟨0, 0, 0⟩)])
    (fun i => i ≤ N) (fun i => N - i) 0 (Nat.zero_le _) rfl (fun _ => rfl) fun i hi X2 hX => ?_
  refine primS (.int .i64 (N : Int)) (by show some (DV.int .i64 ((rs.length : Nat) : Int)) = _; rw [hlen]) ?_
  by_cases hlt : i < N
  · obtain ⟨r, hr⟩ : ∃ r, rs[i]? = some r := ⟨_, List.getElem?_eq_getElem (by omega)⟩
    obtain ⟨p, hpp⟩ : ∃ p, ps[i]? = some p := ⟨_, List.getElem?_eq_getElem (by omega)⟩
    refine primS (.bool true) (d_lss.trans (by rw [decide_eq_true (by omega)])) ?_
    refine itT rfl ?_
    refine primS (.bool true) (fm_inb gV_len (by omega) (by omega)) ?_
    refine get_pt (x := .var 0) (i := .var 3) hr (fun _ => rfl) (fun _ => rfl) ?_
    try simp only [HH, gW, gD, V3.l, M4.l, Fr.l, Sp.l, RV.l, RM.l, RF.l, RS.l]
    refine call_step (f_ref21_Slot (hp.at_ i r p hr hpp) g hl) rfl ?_
    try simp only [HH, gW, gD, V3.l, M4.l, Fr.l, Sp.l, RV.l, RM.l, RF.l, RS.l]
    rw [if_pos c, decide_eq_true c]
    refine primS (il [slot p s m]) rfl ?_
    refine primS (il (ss.take i ++ [slot p s m])) (il_app (by rw [List.length_take]; simp; omega)) ?_
    refine primS (il [-1]) rfl ?_
    simp only [List.cons_append, List.nil_append]
    refine primS (il (List.replicate i (-1) ++ [-1])) (il_app (by simp; omega)) ?_
    refine primS (.int .i64 ((i + 1 : Nat) : Int)) ((d_add64 (by omega) (by omega)).trans (by simp)) ?_
    have := hX (i + 1) hlt (by omega)
    rw [List.take_add_one, hsg hpp, List.replicate_succ'] at this
    exact jump_step rfl this
  obtain rfl : i = N := by omega
  clear hX
  refine primS (.bool false) (d_lss.trans (by rw [decide_eq_false (by omega)])) ?_
  simp only [List.cons_append, List.nil_append]
  refine itF rfl ?_
  rw [List.take_of_length_le (by omega)]
  refine primS (il []) rfl ?_
  try simp only [List.cons_append, List.nil_append]
  have hW0 : ∀ j, j < W → (List.replicate W (⟨0, 0, 0⟩ : Wk))[j]? = some ⟨0, 0, 0⟩ := fun j hj => by simp [hj]
  have happ : ∀ (l : List Nat) (j : Nat), il (ci l ++ [(j : Int)]) = il (ci (l ++ [j])) := fun l j => by simp [ci]
  refine loop_st (fun j : Nat => [.int .i64 (j : Int), il picks, il (ci (canTo i (w0 m i W) j)), il (List.replicate m (-1)), il (List.replicate i (-1)), il ss, wkl (List.replicate W ⟨0, 0, 0⟩)])
    (fun j => j ≤ W) (fun j => W - j) 0 (Nat.zero_le _) rfl (fun _ => rfl) fun j hjW Z hZ => ?_
  have hcl := canTo_len (N := i) (w := w0 m i W) (i := j)
  refine primS (.int .i64 (W : Int)) (by show some (DV.int .i64 (((List.replicate W (⟨0, 0, 0⟩ : Wk)).length : Nat) : Int)) = _; rw [List.length_replicate]) ?_
  by_cases hlt : j < W
  · have hen := ena_st (N := i) (w := w0 m i W) (hW0 j hlt)
    have hZ2 := hZ (j + 1) hlt (by omega)
    rw [canTo_succ, hen] at hZ2
    refine primS (.bool true) (d_lss.trans (by rw [decide_eq_true (by omega)])) ?_
    refine itT rfl ?_
    refine primS (.bool true) (wk_inb (by simp [hlt])) ?_
    refine primS (.int .i64 0) (wk_get (hW0 j hlt) (by decide) rfl) ?_
    refine primS (.bool false) (d_neq.trans rfl) ?_
    simp only [List.cons_append, List.nil_append]
    refine itF rfl ?_
    refine primS (.int .i64 (i : Int)) (by show some (DV.int .i64 ((ss.length : Nat) : Int)) = _; rw [hsl]) ?_
    refine primS (.bool (decide _)) d_lss ?_
    refine itD rfl (fun d2 => ?_) (fun d2 => ?_)
    · rw [decide_eq_false (by decide), decide_eq_true (show (w0 m i W).ctr < i from Int.ofNat_lt.1 d2), Bool.false_or, if_pos rfl] at hZ2
      refine primS (il [(j : Int)]) rfl ?_
      refine primS (il (ci (canTo i (w0 m i W) j ++ [j]))) ((il_app (by rw [ci_len]; simp; omega)).trans (by rw [happ])) ?_
      refine primS (.int .i64 ((j + 1 : Nat) : Int)) ((d_add64 (by omega) (by omega)).trans (by simp)) ?_
      simp only [List.cons_append, List.nil_append]
      exact jump_step rfl hZ2
    · rw [decide_eq_false (by decide), decide_eq_false (show ¬(w0 m i W).ctr < i from fun z => d2 (Int.ofNat_lt.2 z)), Bool.false_or, if_neg (by decide), List.append_nil] at hZ2
      refine primS (.int .i64 ((j + 1 : Nat) : Int)) ((d_add64 (by omega) (by omega)).trans (by simp)) ?_
      exact jump_step rfl hZ2
  obtain rfl : j = W := by omega
  clear hZ
  have hcan0 : canTo i (w0 m i j) j = can i (w0 m i j) := by unfold can; simp [w0]
  rw [hcan0]
  refine primS (.bool false) (d_lss.trans (by rw [decide_eq_false (by omega)])) ?_
  refine itF rfl ?_
  refine loop_st (fun k : Nat => [il picks, .int .i64 (k : Int), .int .i64 ((itw ss picks i (w0 m i j) k).ctr : Int), il (ci (can i (itw ss picks i (w0 m i j) k))), il (itw ss picks i (w0 m i j) k).heads, il (itw ss picks i (w0 m i j) k).next, il ss, wkl (itw ss picks i (w0 m i j) k).ws])
    (fun k => k ≤ K) (fun k => K - k) 0 (Nat.zero_le _) rfl (fun _ => rfl) fun k hk Y hY => ?_
  have hw := hpf k hk
  have hnx : itw ss picks i (w0 m i j) (k + 1) = nxt ss picks i (itw ss picks i (w0 m i j) k) k := rfl
  have hend : can i (itw ss picks i (w0 m i j) k) = [] → k = K := fun h => Classical.byContradiction fun hne => hj k (by omega) h
  have hgo : can i (itw ss picks i (w0 m i j) k) ≠ [] → k < K := fun h => Classical.byContradiction fun hne => h (by rw [show k = K by omega]; exact hK)
  have hfin : k = K → itw ss picks i (w0 m i j) K = itw ss picks i (w0 m i j) k := fun h => by rw [h]
  have hw' : k < K → PF m i j ss (itw ss picks i (w0 m i j) (k + 1)) := fun h => hpf (k + 1) h
  have hY2 := fun h => hY (k + 1) h
  clear hY hcan0 hcl
  generalize itw ss picks i (w0 m i j) k = w at *
  generalize itw ss picks i (w0 m i j) (k + 1) = w' at *
  refine primS (.int .i64 ((can i w).length : Int)) (by show some (DV.int .i64 (((ci (can i w)).length : Nat) : Int)) = _; rw [ci_len]) ?_
  refine primS (.bool (decide _)) d_gtr ?_
  refine itD rfl (fun d => ?gpos) (fun d => ?gneg)
  case gneg =>
    have hk' := hend (List.eq_nil_of_length_eq_zero (by omega))
    refine ret_step ?_
    rw [hfin hk', ← hk']; rfl
  have hne : can i w ≠ [] := fun h => by rw [h] at d; simp at d
  have hkK := hgo hne
  have hY3 := hY2 hkK (by omega)
  replace hw' := hw' hkK
  have hpos : 0 < (can i w).length := by omega
  have hpl := pk_lt (picks := picks) (k := k) hpos
  have hcanl : (can i w).length ≤ j := by have := canTo_len (N := i) (w := w) (i := w.ws.length); rw [hw.wl] at this; unfold can; rw [hw.wl]; exact this
  refine join_step (fun ds => ds = [il picks, .int .i64 (k : Int), .int .i64 (w'.ctr : Int), il w'.heads, il w'.next, il ss, wkl w'.ws]) ?_ ?_
  · have hmem : (can i w).getD (pk picks k (can i w).length) 0 ∈ can i w := by
      rw [List.getD_eq_getElem?_getD, List.getElem?_eq_getElem hpl]; exact List.getElem_mem hpl
    obtain ⟨h1, h2⟩ := can_mem hmem
    obtain ⟨x, hx⟩ : ∃ x, w.ws[(can i w).getD (pk picks k (can i w).length) 0]? = some x := ⟨_, List.getElem?_eq_getElem h1⟩
    unfold nxt at hnx
    refine primS (.int .i64 ((can i w).length : Int)) (by show some (DV.int .i64 (((ci (can i w)).length : Nat) : Int)) = _; rw [ci_len]) ?_
    refine call_step (f_Picked hpos (by omega)) rfl ?_
    try simp only [HH, gW, gD, V3.l, M4.l, Fr.l, Sp.l, RV.l, RM.l, RF.l, RS.l]
    refine primS (.bool true) (il_inb (by omega) (by rw [ci_len]; omega)) ?_
    refine primS (.int .i64 (((can i w).getD (pk picks k (can i w).length) 0 : Nat) : Int)) ((il_get (by omega) (by rw [ci_len]; omega)).trans (by rw [Int.toNat_natCast, ci_get hpl])) ?_
    generalize (can i w).getD (pk picks k (can i w).length) 0 = q at *
    obtain ⟨hs, hpt⟩ := hw.wk q x hx
    refine primS (.bool true) (wk_inb h1) ?_
    simp only [List.cons_append, List.nil_append]
    refine primS (.int .i64 (x.st : Int)) (wk_get hx (by decide) rfl) ?_
    refine primS (.int .i64 (x.pt : Int)) (wk_get hx (by decide) rfl) ?_
    refine primS (.int .i64 x.no) (wk_get hx (by decide) rfl) ?_
    simp only [List.cons_append, List.nil_append]
    try simp only [List.cons_append, List.nil_append]
    refine join_step (fun ds => ∃ y : Wk, w'.ws = w.ws.set q y ∧ ds = [.int .i64 (q : Int), il picks, .int .i64 (k : Int), .int .i64 (w'.ctr : Int), .int .i64 (y.st : Int), .int .i64 (y.pt : Int), .int .i64 y.no, il w'.heads, il w'.next, il ss, wkl w.ws]) ?_ ?_
    · refine primS (.bool (decide _)) d_eql ?_
      refine itD rfl (fun d0 => ?_) (fun d0 => ?_)
      · have e : stp ss w q = ⟨w.heads, w.next, w.ctr + 1, w.ws.set q ⟨1, w.ctr, x.no⟩⟩ := by unfold stp; simp only [hx]; rw [if_pos (by omega)]
        rw [e] at hnx
        subst hnx
        refine primS (.int .i64 ((w.ctr + 1 : Nat) : Int)) ((d_add64 (by omega) (by have := hw.cl; omega)).trans (by simp)) ?_
        exact jump_step rfl ⟨_, rfl, rfl⟩
      have hp3 := hpt (by omega)
      have hpi : x.pt < i := Nat.lt_of_lt_of_le hp3 hw.cl
      obtain ⟨hs1, hs2⟩ := hsr x.pt hpi
      refine primS (.bool (decide _)) d_eql ?_
      refine itD rfl (fun d1 => ?_) (fun d1 => ?_)
      · have e : stp ss w q = ⟨w.heads, w.next, w.ctr, w.ws.set q ⟨2, x.pt, w.heads.getD (sl ss x.pt) 0⟩⟩ := by unfold stp; simp only [hx]; rw [if_neg (by omega), if_pos (by omega)]
        rw [e] at hnx
        subst hnx
        refine primS (.bool true) (il_inb (by omega) (by omega)) ?_
        refine primS (.int .i64 ((sl ss x.pt : Nat) : Int)) ((il_get (by omega) (by omega)).trans (by rw [Int.toNat_natCast, hs2])) ?_
        refine primS (.bool true) (il_inb (by omega) (by rw [hw.hl]; omega)) ?_
        simp only [List.cons_append, List.nil_append]
        refine primS (.int .i64 (w.heads.getD (sl ss x.pt) 0)) ((il_get (by omega) (by rw [hw.hl]; omega)).trans (by rw [Int.toNat_natCast])) ?_
        exact jump_step rfl ⟨_, rfl, rfl⟩
      refine primS (.bool (decide _)) d_eql ?_
      refine itD rfl (fun d2 => ?_) (fun d2 => ?_)
      · have e : stp ss w q = ⟨w.heads, w.next.set x.pt x.no, w.ctr, w.ws.set q ⟨3, x.pt, x.no⟩⟩ := by unfold stp; simp only [hx]; rw [if_neg (by omega), if_neg (by omega), if_pos (by omega)]
        rw [e] at hnx
        subst hnx
        refine primS (.bool true) (il_inb (by omega) (by rw [hw.nl]; omega)) ?_
        refine primS (il (w.next.set x.pt x.no)) ((il_set (by omega) (by rw [hw.nl]; omega)).trans (by rw [Int.toNat_natCast])) ?_
        exact jump_step rfl ⟨_, rfl, rfl⟩
      refine primS (.bool true) (d_eql.trans (by rw [decide_eq_true (by omega)])) ?_
      simp only [List.cons_append, List.nil_append]
      refine itT rfl ?_
      have e0 : stp ss w q = if w.heads.getD (sl ss x.pt) 0 = x.no then ⟨w.heads.set (sl ss x.pt) x.pt, w.next, w.ctr, w.ws.set q ⟨0, x.pt, x.no⟩⟩ else ⟨w.heads, w.next, w.ctr, w.ws.set q ⟨1, x.pt, x.no⟩⟩ := by unfold stp; simp only [hx]; rw [if_neg (by omega), if_neg (by omega), if_neg (by omega)]
      rw [e0] at hnx
      refine primS (.bool true) (il_inb (by omega) (by omega)) ?_
      refine primS (.int .i64 ((sl ss x.pt : Nat) : Int)) ((il_get (by omega) (by omega)).trans (by rw [Int.toNat_natCast, hs2])) ?_
      refine primS (.bool true) (il_inb (by omega) (by rw [hw.hl]; omega)) ?_
      simp only [List.cons_append, List.nil_append]
      refine primS (.int .i64 (w.heads.getD (sl ss x.pt) 0)) ((il_get (by omega) (by rw [hw.hl]; omega)).trans (by rw [Int.toNat_natCast])) ?_
      refine primS (.bool (decide _)) d_eql ?_
      refine itD rfl (fun d3 => ?_) (fun d3 => ?_)
      · rw [if_pos d3] at hnx
        subst hnx
        refine primS (.bool true) (il_inb (by omega) (by rw [hw.hl]; omega)) ?_
        refine primS (il (w.heads.set (sl ss x.pt) x.pt)) ((il_set (by omega) (by rw [hw.hl]; omega)).trans (by rw [Int.toNat_natCast])) ?_
        exact jump_step rfl ⟨_, rfl, rfl⟩
      · rw [if_neg d3] at hnx
        subst hnx
        exact jump_step rfl ⟨⟨1, x.pt, x.no⟩, rfl, rfl⟩
    · rintro ds ⟨y, hy, rfl⟩
      refine primS (.bool true) (wk_inb h1) ?_
      refine primS (wkl (w.ws.set q y)) (wk_set (y := y) hx (Nat.le_of_ble_eq_true rfl) rfl) ?_
      rw [← hy]
      exact jump_step rfl rfl
  rintro ds rfl
  refine primS (.int .i64 ((k + 1 : Nat) : Int)) ((d_add64 (by omega) (by omega)).trans (by simp)) ?_
  simp only [List.cons_append, List.nil_append]
  refine primS (il []) rfl ?_
  try simp only [List.cons_append, List.nil_append]
  refine loop_st (fun t : Nat => [.int .i64 (t : Int), il picks, .int .i64 ((k + 1 : Nat) : Int), .int .i64 (w'.ctr : Int), il (ci (canTo i w' t)), il w'.heads, il w'.next, il ss, wkl w'.ws])
    (fun t => t ≤ j) (fun t => j - t) 0 (Nat.zero_le _) rfl (fun _ => rfl) fun t htW Z2 hZ => ?_
  have hcl := canTo_len (N := i) (w := w') (i := t)
  refine primS (.int .i64 (j : Int)) (by show some (DV.int .i64 ((w'.ws.length : Nat) : Int)) = _; rw [hw'.wl]) ?_
  by_cases hlt : t < j
  · obtain ⟨x, hx⟩ : ∃ x, w'.ws[t]? = some x := ⟨_, List.getElem?_eq_getElem (by rw [hw'.wl]; exact hlt)⟩
    have hen := ena_st (N := i) hx
    have hZ2 := hZ (t + 1) hlt (by omega)
    rw [canTo_succ] at hZ2
    refine primS (.bool true) (d_lss.trans (by rw [decide_eq_true (by omega)])) ?_
    refine itT rfl ?_
    refine primS (.bool true) (wk_inb (by rw [hw'.wl]; exact hlt)) ?_
    refine primS (.int .i64 (x.st : Int)) (wk_get hx (by decide) rfl) ?_
    refine primS (.bool (decide _)) d_neq ?_
    simp only [List.cons_append, List.nil_append]
    refine itD rfl (fun d => ?_) (fun d => ?_)
    · rw [hen, decide_eq_true (show x.st ≠ 0 by omega), Bool.true_or, if_pos rfl] at hZ2
      refine primS (il [(t : Int)]) rfl ?_
      refine primS (il (ci (canTo i w' t ++ [t]))) ((il_app (by rw [ci_len]; simp; omega)).trans (by rw [happ])) ?_
      refine primS (.int .i64 ((t + 1 : Nat) : Int)) ((d_add64 (by omega) (by omega)).trans (by simp)) ?_
      simp only [List.cons_append, List.nil_append]
      exact jump_step rfl hZ2
    · rw [hen, decide_eq_false (show ¬x.st ≠ 0 by omega), Bool.false_or] at hZ2
      refine primS (.int .i64 (i : Int)) (by show some (DV.int .i64 ((ss.length : Nat) : Int)) = _; rw [hsl]) ?_
      refine primS (.bool (decide _)) d_lss ?_
      refine itD rfl (fun d2 => ?_) (fun d2 => ?_)
      · rw [decide_eq_true (show w'.ctr < i by omega), if_pos rfl] at hZ2
        refine primS (il [(t : Int)]) rfl ?_
        refine primS (il (ci (canTo i w' t ++ [t]))) ((il_app (by rw [ci_len]; simp; omega)).trans (by rw [happ])) ?_
        refine primS (.int .i64 ((t + 1 : Nat) : Int)) ((d_add64 (by omega) (by omega)).trans (by simp)) ?_
        simp only [List.cons_append, List.nil_append]
        exact jump_step rfl hZ2
      · rw [decide_eq_false (show ¬w'.ctr < i by omega), if_neg (by decide), List.append_nil] at hZ2
        refine primS (.int .i64 ((t + 1 : Nat) : Int)) ((d_add64 (by omega) (by omega)).trans (by simp)) ?_
        exact jump_step rfl hZ2
  obtain rfl : t = j := by omega
  have hcan : canTo i w' t = can i w' := by unfold can; rw [hw'.wl]
  rw [hcan]
  refine primS (.bool false) (d_lss.trans (by rw [decide_eq_false (by omega)])) ?_
  refine itF rfl ?_
  exact jump_step rfl hY3
end
end Go.Px.Na

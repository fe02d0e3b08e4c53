/- Hr: points near to places, and to one another: the document's answer. -/
import Derived.Test.YtdkifeiejkikdaaGreatHq
set_option maxRecDepth 40000
set_option maxHeartbeats 40000000
set_option linter.unusedVariables false
set_option linter.unusedSimpArgs false
namespace Go.Px
open Go.RowKit
def ir_penumbraref05_Sub : IR :=
 .call F.penumbraref03_Sub [.agg [.var 0, .var 1, .var 2], .agg [.var 9, .var 10, .var 11]] [.agg 3] <|
 .call F.penumbraref03_Sub [.agg [.var 3, .var 4, .var 5], .agg [.var 12, .var 13, .var 14]] [.agg 3] <|
 .call F.penumbraref03_Sub [.agg [.var 6, .var 7, .var 8], .agg [.var 15, .var 16, .var 17]] [.agg 3] <|
 .ret [.agg [.var 18, .var 19, .var 20, .var 21, .var 22, .var 23, .var 24, .var 25, .var 26]]

def ir_penumbraref05_Dot : IR :=
 .call F.penumbraref03_Mul [.agg [.var 0, .var 1, .var 2], .agg [.var 9, .var 10, .var 11]] [.agg 3] <|
 .call F.penumbraref03_Mul [.agg [.var 3, .var 4, .var 5], .agg [.var 12, .var 13, .var 14]] [.agg 3] <|
 .call F.penumbraref03_Add [.agg [.var 18, .var 19, .var 20], .agg [.var 21, .var 22, .var 23]] [.agg 3] <|
 .call F.penumbraref03_Mul [.agg [.var 6, .var 7, .var 8], .agg [.var 15, .var 16, .var 17]] [.agg 3] <|
 .call F.penumbraref03_Add [.agg [.var 24, .var 25, .var 26], .agg [.var 27, .var 28, .var 29]] [.agg 3] <|
 .ret [.agg [.var 30, .var 31, .var 32]]

def ir_penumbraref22_Far : IR :=
 .call F.penumbraref05_Sub [.agg [.var 9, .var 10, .var 11, .var 12, .var 13, .var 14, .var 15, .var 16, .var 17], .agg [.var 0, .var 1, .var 2, .var 3, .var 4, .var 5, .var 6, .var 7, .var 8]] [.agg 9] <|
 .call F.penumbraref05_Dot [.agg [.var 18, .var 19, .var 20, .var 21, .var 22, .var 23, .var 24, .var 25, .var 26], .agg [.var 18, .var 19, .var 20, .var 21, .var 22, .var 23, .var 24, .var 25, .var 26]] [.agg 3] <|
 .ret [.agg [.var 27, .var 28, .var 29]]

def ir_penumbraref22_May : IR :=
 .call F.penumbraref03_Sign [.agg [.var 1, .var 2, .var 3]] [.one] <|
 .prim (.bin .gtr) [.var 8, .int .i64 (0)] <|
 .ite (.var 9) (
  .prim (.bin .geq) [.var 4, .int .i64 (1)] <|
  .ite (.var 10) (
   .prim (.bin .leq) [.var 4, .int .i64 (256)] <|
   .ite (.var 11) (
    .prim .len [.var 0] <|
    .prim (.bin .leq) [.var 12, .int .i64 (1000)] <|
    .ite (.var 13) (
     .call F.penumbraref03_Sign [.agg [.var 5, .var 6, .var 7]] [.one] <|
     .prim (.bin .geq) [.var 14, .int .i64 (0)] <|
     .ite (.var 15) (
      .call F.penumbraref03_Mul [.agg [.var 1, .var 2, .var 3], .agg [.var 1, .var 2, .var 3]] [.agg 3] <|
      .call F.penumbraref03_Cmp [.agg [.var 16, .var 17, .var 18], .agg [.var 5, .var 6, .var 7]] [.one] <|
      .prim (.bin .geq) [.var 19, .int .i64 (0)] <|
      .ret [.one (.var 20)]) (
      .ret [.one (.bol false)])) (
     .ret [.one (.bol false)])) (
    .ret [.one (.bol false)])) (
   .ret [.one (.bol false)])) (
  .ret [.one (.bol false)])

def ir_penumbraref22_Around : IR :=
 .prim (.mk 0) [] <|
 .loop [.var 0, .int .i64 (0), .var 1, .var 2, .var 3, .var 4, .var 5, .var 6, .var 7, .var 8, .var 9, .var 10, .var 11, .var 12, .var 13] (
  .prim .len [.var 0] <|
  .prim (.bin .lss) [.var 1, .var 15] <|
  .ite (.var 16) (
   .prim (.inb 9) [.var 0, .var 1] <|
   .prim (.get 9 0) [.var 0, .var 1] <|
   .prim (.get 9 1) [.var 0, .var 1] <|
   .prim (.get 9 2) [.var 0, .var 1] <|
   .prim (.get 9 3) [.var 0, .var 1] <|
   .prim (.get 9 4) [.var 0, .var 1] <|
   .prim (.get 9 5) [.var 0, .var 1] <|
   .prim (.get 9 6) [.var 0, .var 1] <|
   .prim (.get 9 7) [.var 0, .var 1] <|
   .prim (.get 9 8) [.var 0, .var 1] <|
   .call F.penumbraref22_Far [.agg [.var 18, .var 19, .var 20, .var 21, .var 22, .var 23, .var 24, .var 25, .var 26], .agg [.var 2, .var 3, .var 4, .var 5, .var 6, .var 7, .var 8, .var 9, .var 10]] [.agg 3] <|
   .call F.penumbraref03_Cmp [.agg [.var 27, .var 28, .var 29], .agg [.var 11, .var 12, .var 13]] [.one] <|
   .prim (.bin .leq) [.var 30, .int .i64 (0)] <|
   .ite (.var 31) (
    .prim (.mk 1) [.var 1] <|
    .prim (.app 1 8) [.var 14, .var 32] <|
    .prim (.bin .add) [.var 1, .int .i64 (1)] <|
    .jump 0 [.var 0, .var 34, .var 2, .var 3, .var 4, .var 5, .var 6, .var 7, .var 8, .var 9, .var 10, .var 11, .var 12, .var 13, .var 33]) (
    .prim (.bin .add) [.var 1, .int .i64 (1)] <|
    .jump 0 [.var 0, .var 32, .var 2, .var 3, .var 4, .var 5, .var 6, .var 7, .var 8, .var 9, .var 10, .var 11, .var 12, .var 13, .var 14])) (
   .ret [.one (.var 14)]))

def ir_penumbraref22_Near : IR :=
 .call F.penumbraref22_May [.one (.var 0), .agg [.var 1, .var 2, .var 3], .one (.var 4), .agg [.var 14, .var 15, .var 16]] [.one] <|
 .prim .not [.var 17] <|
 .ite (.var 18) (
  .ret [.one (.nil), .one (.bol false)]) (
  .call F.penumbraref22_Around [.one (.var 0), .agg [.var 5, .var 6, .var 7, .var 8, .var 9, .var 10, .var 11, .var 12, .var 13], .agg [.var 14, .var 15, .var 16]] [.one] <|
  .ret [.one (.var 19), .one (.bol true)])

def ir_penumbraref22_Pairs : IR :=
 .call F.penumbraref22_May [.one (.var 0), .agg [.var 1, .var 2, .var 3], .one (.var 4), .agg [.var 5, .var 6, .var 7]] [.one] <|
 .prim .not [.var 8] <|
 .ite (.var 9) (
  .ret [.one (.nil), .one (.bol false)]) (
  .prim (.mk 0) [] <|
  .loop [.var 0, .int .i64 (0), .var 5, .var 6, .var 7, .var 10] (
   .prim .len [.var 0] <|
   .prim (.bin .lss) [.var 1, .var 6] <|
   .ite (.var 7) (
    .prim (.bin .add) [.var 1, .int .i64 (1)] <|
    .loop [.var 0, .var 1, .var 8, .var 2, .var 3, .var 4, .var 5] (
     .prim .len [.var 0] <|
     .prim (.bin .lss) [.var 2, .var 7] <|
     .ite (.var 8) (
      .prim (.inb 9) [.var 0, .var 1] <|
      .prim (.get 9 0) [.var 0, .var 1] <|
      .prim (.get 9 1) [.var 0, .var 1] <|
      .prim (.get 9 2) [.var 0, .var 1] <|
      .prim (.get 9 3) [.var 0, .var 1] <|
      .prim (.get 9 4) [.var 0, .var 1] <|
      .prim (.get 9 5) [.var 0, .var 1] <|
      .prim (.get 9 6) [.var 0, .var 1] <|
      .prim (.get 9 7) [.var 0, .var 1] <|
      .prim (.get 9 8) [.var 0, .var 1] <|
      .prim (.inb 9) [.var 0, .var 2] <|
      .prim (.get 9 0) [.var 0, .var 2] <|
      .prim (.get 9 1) [.var 0, .var 2] <|
      .prim (.get 9 2) [.var 0, .var 2] <|
      .prim (.get 9 3) [.var 0, .var 2] <|
      .prim (.get 9 4) [.var 0, .var 2] <|
      .prim (.get 9 5) [.var 0, .var 2] <|
      .prim (.get 9 6) [.var 0, .var 2] <|
      .prim (.get 9 7) [.var 0, .var 2] <|
      .prim (.get 9 8) [.var 0, .var 2] <|
      .call F.penumbraref22_Far [.agg [.var 10, .var 11, .var 12, .var 13, .var 14, .var 15, .var 16, .var 17, .var 18], .agg [.var 20, .var 21, .var 22, .var 23, .var 24, .var 25, .var 26, .var 27, .var 28]] [.agg 3] <|
      .call F.penumbraref03_Cmp [.agg [.var 29, .var 30, .var 31], .agg [.var 3, .var 4, .var 5]] [.one] <|
      .prim (.bin .leq) [.var 32, .int .i64 (0)] <|
      .ite (.var 33) (
       .prim (.mk 1) [.var 1, .var 2] <|
       .prim (.app 2 16) [.var 6, .var 34] <|
       .prim (.bin .add) [.var 2, .int .i64 (1)] <|
       .jump 1 [.var 0, .var 1, .var 36, .var 3, .var 4, .var 5, .var 35]) (
       .prim (.bin .add) [.var 2, .int .i64 (1)] <|
       .jump 1 [.var 0, .var 1, .var 34, .var 3, .var 4, .var 5, .var 6])) (
      .prim (.bin .add) [.var 1, .int .i64 (1)] <|
      .jump 0 [.var 0, .var 9, .var 3, .var 4, .var 5, .var 6]))) (
    .ret [.one (.var 5), .one (.bol true)])))

theorem tree_penumbraref05_Sub : symFunc Go.Proofs.Tryz.prog ⟨fun f => [71, 50, 24].contains f, fun f i => [], fun f i => [], fun f => [23].contains f⟩ 400 F.penumbraref05_Sub [.agg 9, .agg 9] = some ir_penumbraref05_Sub := by kernel_rfl
theorem tree_penumbraref05_Dot : symFunc Go.Proofs.Tryz.prog ⟨fun f => [71, 50, 24].contains f, fun f i => [], fun f i => [], fun f => [23].contains f⟩ 400 F.penumbraref05_Dot [.agg 9, .agg 9] = some ir_penumbraref05_Dot := by kernel_rfl
theorem tree_penumbraref22_Far : symFunc Go.Proofs.Tryz.prog ⟨fun f => [71, 50, 24].contains f, fun f i => [], fun f i => [], fun f => [23].contains f⟩ 400 F.penumbraref22_Far [.agg 9, .agg 9] = some ir_penumbraref22_Far := by kernel_rfl
theorem tree_penumbraref22_May : symFunc Go.Proofs.Tryz.prog ⟨fun f => [71, 50, 24].contains f, fun f i => [], fun f i => [], fun f => [23].contains f⟩ 400 F.penumbraref22_May [.one, .agg 3, .one, .agg 3] = some ir_penumbraref22_May := by kernel_rfl
theorem tree_penumbraref22_Around : symFunc Go.Proofs.Tryz.prog ⟨fun f => [71, 50, 24].contains f, fun f i => if f = 26 ∧ i = 3 then [⟨[(0, .s (.one (.at (.var 0)))), (4, .s (.one (.lp 0 0))), (5, .s (.one (.lp 1 0))), (7, .s (.one (.own 2))), (8, .s (.one (.at (.var 1))))], [], [(0, .box [.at (.var 2), .at (.var 3), .at (.var 4), .at (.var 5), .at (.var 6), .at (.var 7), .at (.var 8), .at (.var 9), .at (.var 10)] 27 false), (1, .box [.at (.var 11), .at (.var 12), .at (.var 13)] 25 false), (2, .own (.var 14) 1 3)], 3, 15⟩] else [], fun f i => [], fun f => [23].contains f⟩ 400 F.penumbraref22_Around [.one, .agg 9, .agg 3] = some ir_penumbraref22_Around := by kernel_rfl
theorem tree_penumbraref22_Near : symFunc Go.Proofs.Tryz.prog ⟨fun f => [71, 50, 24].contains f, fun f i => [], fun f i => [], fun f => [23].contains f⟩ 400 F.penumbraref22_Near [.one, .agg 3, .one, .agg 9, .agg 3] = some ir_penumbraref22_Near := by kernel_rfl
theorem tree_penumbraref22_Pairs : symFunc Go.Proofs.Tryz.prog ⟨fun f => [71, 50, 24].contains f, fun f i => if f = 15 ∧ i = 5 then [⟨[(0, .s (.one (.at (.var 0)))), (7, .s (.one (.lp 0 0))), (10, .s (.one (.own 1))), (11, .s (.one (.at (.var 1))))], [], [(0, .box [.at (.var 2), .at (.var 3), .at (.var 4)] 25 false), (1, .own (.var 5) 2 62)], 2, 6⟩] else if f = 15 ∧ i = 8 then [⟨[(0, .s (.one (.at (.var 0)))), (7, .s (.one (.lp 0 0))), (10, .s (.one (.own 1))), (11, .s (.one (.at (.var 1)))), (12, .s (.one (.at (.var 2))))], [], [(0, .box [.at (.var 3), .at (.var 4), .at (.var 5)] 25 false), (1, .own (.var 6) 2 62)], 2, 7⟩] else [], fun f i => [], fun f => [23].contains f⟩ 400 F.penumbraref22_Pairs [.one, .agg 3, .one, .agg 3] = some ir_penumbraref22_Pairs := by kernel_rfl
end Go.Px
namespace Go.Px.Na
open Go.RowKit
open Go.Proofs.Tryz (prog)
section
variable {L L2 L3 M : Nat} {rsd rr2 : RR} {s r2 : Rat} {n : Int} {rp : RV} {p : V3} {rs : List RV} {ps : List V3}
theorem fr_Sub {a b : RV} {u v : V3} (h : NV L a u) (g : NV M b v) (hl : L ≤ 60000000000 ∧ M ≤ 60000000000) : PureCalls prog F.penumbraref05_Sub [.agg (gW a.l), .agg (gW b.l)] [.agg (gD [(u.sub v).x, (u.sub v).y, (u.sub v).z])] := by
  replace h := h.mono hl.1
  replace g := g.mono hl.2
  refine symFunc_sound hmix tree_penumbraref05_Sub (by kernel_rfl) rfl ?_
  unfold ir_penumbraref05_Sub
  simp only [HH, gW, gD, V3.l, M4.l, Fr.l, Sp.l, RV.l, RM.l, RF.l, RS.l]
  refine cs1 (n_penumbraref03_Sub (h.x.mono (by decide)) (g.x.mono (by decide)) rfl) ?_
  simp only [HH, gW, gD, V3.l, M4.l, Fr.l, Sp.l, RV.l, RM.l, RF.l, RS.l]
  refine cs1 (n_penumbraref03_Sub (h.y.mono (by decide)) (g.y.mono (by decide)) rfl) ?_
  simp only [HH, gW, gD, V3.l, M4.l, Fr.l, Sp.l, RV.l, RM.l, RF.l, RS.l]
  refine cs1 (n_penumbraref03_Sub (h.z.mono (by decide)) (g.z.mono (by decide)) rfl) ?_
  simp only [HH, gW, gD, V3.l, M4.l, Fr.l, Sp.l, RV.l, RM.l, RF.l, RS.l]
  exact ret_step rfl
theorem fr_Dot {a b : RV} {u v : V3} (h : NV L a u) (g : NV M b v) (hl : L ≤ 30000000000 ∧ M ≤ 30000000000) : PureCalls prog F.penumbraref05_Dot [.agg (gW a.l), .agg (gW b.l)] [.agg (gD [u.dot v])] := by
  replace h := h.mono hl.1
  replace g := g.mono hl.2
  refine symFunc_sound hmix tree_penumbraref05_Dot (by kernel_rfl) rfl ?_
  unfold ir_penumbraref05_Dot
  simp only [HH, gW, gD, V3.l, M4.l, Fr.l, Sp.l, RV.l, RM.l, RF.l, RS.l]
  refine cs1 (n_penumbraref03_Mul (h.x.mono (by decide)) (g.x.mono (by decide)) rfl) ?_
  simp only [HH, gW, gD, V3.l, M4.l, Fr.l, Sp.l, RV.l, RM.l, RF.l, RS.l]
  have m1 := Num.of (h.x.sm.mul g.x.sm)
  refine cs1 (n_penumbraref03_Mul (h.y.mono (by decide)) (g.y.mono (by decide)) rfl) ?_
  simp only [HH, gW, gD, V3.l, M4.l, Fr.l, Sp.l, RV.l, RM.l, RF.l, RS.l]
  have m2 := Num.of (h.y.sm.mul g.y.sm)
  refine cs1 (n_penumbraref03_Add (m1.mono (by decide)) (m2.mono (by decide)) rfl) ?_
  simp only [HH, gW, gD, V3.l, M4.l, Fr.l, Sp.l, RV.l, RM.l, RF.l, RS.l]
  have m3 := Num.of (m1.sm.add m2.sm)
  refine cs1 (n_penumbraref03_Mul (h.z.mono (by decide)) (g.z.mono (by decide)) rfl) ?_
  simp only [HH, gW, gD, V3.l, M4.l, Fr.l, Sp.l, RV.l, RM.l, RF.l, RS.l]
  have m4 := Num.of (h.z.sm.mul g.z.sm)
  refine cs1 (n_penumbraref03_Add (m3.mono (by decide)) (m4.mono (by decide)) rfl) ?_
  simp only [HH, gW, gD, V3.l, M4.l, Fr.l, Sp.l, RV.l, RM.l, RF.l, RS.l]
  exact ret_step rfl
theorem fr_Far {a b : RV} {u v : V3} (h : NV L a u) (g : NV M b v) (hl : L ≤ 10000000000 ∧ M ≤ 10000000000) : PureCalls prog F.penumbraref22_Far [.agg (gW a.l), .agg (gW b.l)] [.agg (gD [far u v])] := by
  replace h := h.mono hl.1
  replace g := g.mono hl.2
  refine symFunc_sound hmix tree_penumbraref22_Far (by kernel_rfl) rfl ?_
  unfold ir_penumbraref22_Far
  simp only [HH, gW, gD, V3.l, M4.l, Fr.l, Sp.l, RV.l, RM.l, RF.l, RS.l]
  refine cs3 (fr_Sub g h (by decide)) ?_
  simp only [HH, gW, gD, V3.l, M4.l, Fr.l, Sp.l, RV.l, RM.l, RF.l, RS.l]
  have m1 := NV.of (g.sm.sub h.sm)
  refine cs1 (fr_Dot m1 m1 (by decide)) ?_
  simp only [HH, gW, gD, V3.l, M4.l, Fr.l, Sp.l, RV.l, RM.l, RF.l, RS.l]
  exact ret_step rfl
theorem d_cmpQ_ge {x y : Rat} : Prim.den (.bin .geq) [.int .i64 (cmpQ x y), .int .i64 0] = some (.bool (decide (y ≤ x))) := by
  rw [d_geq, show decide ((0 : Int) ≤ cmpQ x y) = decide (y ≤ x) from decide_eq_decide.2 (by have := cq_lt (x := x) (y := y); rw [← Rat.not_lt, ← this]; omega)]
theorem fr_May (hlen : rs.length = ps.length) (g : Num M rsd s) (hr : Num L3 rr2 r2) (hl : M ≤ 1000000000 ∧ L3 ≤ 1000000000) : PureCalls prog F.penumbraref22_May [.one (vl rs), .agg (gW [rsd]), .one (.int .i64 n), .agg (gW [rr2])] [.one (.bool (decide (bmay ps s n r2)))] := by
  replace g := g.mono hl.1
  replace hr := hr.mono hl.2
  have no : ∀ {As : List (List DV → Prop)} {ρ : List DV}, ¬bmay ps s n r2 → IRwp prog As ρ (.ret [.one (.bol false)]) (fun x => x = [AV.one (.bool (decide (bmay ps s n r2)))]) := fun hh => ret_step (by rw [decide_eq_false hh]; rfl)
  refine symFunc_sound hmix tree_penumbraref22_May (by kernel_rfl) rfl ?_
  unfold ir_penumbraref22_May
  simp only [HH, gW, gD, V3.l, M4.l, Fr.l, Sp.l, RV.l, RM.l, RF.l, RS.l]
  refine call_step (n_penumbraref03_Sign (g.mono (by decide))) rfl ?_
  simp only [HH, gW, gD, V3.l, M4.l, Fr.l, Sp.l, RV.l, RM.l, RF.l, RS.l]
  refine primS (.bool (decide _)) pr_gt ?_
  refine itD rfl (fun c1 => ?_) (fun c1 => no fun hh => c1 hh.1.1)
  refine primS (.bool (decide _)) d_geq ?_
  refine itD rfl (fun c2 => ?_) (fun c2 => no fun hh => c2 hh.1.2.1)
  refine primS (.bool (decide _)) d_leq ?_
  refine itD rfl (fun c3 => ?_) (fun c3 => no fun hh => c3 hh.1.2.2)
  refine primS (.int .i64 (rs.length : Int)) rfl ?_
  refine primS (.bool (decide _)) d_leq ?_
  refine itD rfl (fun c4 => ?_) (fun c4 => no fun hh => c4 (by have := hh.2.1; omega))
  refine call_step (n_penumbraref03_Sign (hr.mono (by decide))) rfl ?_
  simp only [HH, gW, gD, V3.l, M4.l, Fr.l, Sp.l, RV.l, RM.l, RF.l, RS.l]
  refine primS (.bool (decide _)) pr_ge ?_
  refine itD rfl (fun c5 => ?_) (fun c5 => no fun hh => c5 hh.2.2.1)
  refine cs1 (n_penumbraref03_Mul (g.mono (by decide)) (g.mono (by decide)) rfl) ?_
  simp only [HH, gW, gD, V3.l, M4.l, Fr.l, Sp.l, RV.l, RM.l, RF.l, RS.l]
  have m1 := Num.of (g.sm.mul g.sm)
  refine call_step (n_penumbraref03_Cmp (m1.mono (by decide)) (hr.mono (by decide))) rfl ?_
  simp only [HH, gW, gD, V3.l, M4.l, Fr.l, Sp.l, RV.l, RM.l, RF.l, RS.l]
  refine primS (.bool (decide (r2 ≤ s * s))) d_cmpQ_ge ?_
  exact ret_step (by rw [show decide (bmay ps s n r2) = decide (r2 ≤ s * s) from decide_eq_decide.2 ⟨fun hh => hh.2.2.2, fun hh => ⟨⟨c1, c2, c3⟩, by omega, c5, hh⟩⟩]; rfl)
theorem fr_Around (hp : NVs L rs ps) (hN : ps.length ≤ 1048576) (h : NV L2 rp p) (hr : Num L3 rr2 r2) (hl : L ≤ 1000000000 ∧ L2 ≤ 1000000000 ∧ L3 ≤ 1000000000) : PureCalls prog F.penumbraref22_Around [.one (vl rs), .agg (gW rp.l), .agg (gW [rr2])] [.one (il (nearL ps p r2))] := by
  have hlen := hp.len
  replace h := h.mono hl.2.1
  replace hr := hr.mono hl.2.2
  refine symFunc_sound hmix tree_penumbraref22_Around (by kernel_rfl) rfl ?_
  unfold ir_penumbraref22_Around
  try simp only [HH, gW, gD, V3.l, M4.l, Fr.l, Sp.l, RV.l, RM.l, RF.l, RS.l]
  refine primS (il []) rfl ?_
  try simp only [HH, gW, gD, V3.l, M4.l, Fr.l, Sp.l, RV.l, RM.l, RF.l, RS.l]
  refine loop_st (fun i : Nat => [vl rs, .int .i64 (i : Int), .bool rp.x.neg, nl rp.x.num, nl rp.x.den, .bool rp.y.neg, nl rp.y.num, nl rp.y.den, .bool rp.z.neg, nl rp.z.num, nl rp.z.den, .bool rr2.neg, nl rr2.num, nl rr2.den, il (((List.range i).filter (nr ps p r2)).map fun i : Nat => (i : Int))])
    (fun i => i ≤ rs.length) (fun i => rs.length - i) 0 (Nat.zero_le _) rfl (fun _ => rfl) fun i hi X hX => ?_
  have hfl := List.length_filter_le (nr ps p r2) (List.range i)
  rw [List.length_range] at hfl
  refine primS (.int .i64 (rs.length : Int)) rfl ?_
  by_cases hlt : i < rs.length
  · obtain ⟨r, hrr⟩ : ∃ r, rs[i]? = some r := ⟨_, List.getElem?_eq_getElem hlt⟩
    obtain ⟨pt, hpt⟩ : ∃ pt, ps[i]? = some pt := ⟨_, List.getElem?_eq_getElem (by omega)⟩
    have hnr : nr ps p r2 i = decide (far pt p ≤ r2) := by unfold nr; rw [getD_of hpt]
    have hg := (hp.at_ i r pt hrr hpt).mono hl.1
    refine primS (.bool true) (d_lss.trans (by rw [decide_eq_true (by omega)])) ?_
    refine itT rfl ?_
    refine primS (.bool true) (fm_inb gV_len (by omega) (by omega)) ?_
    refine get_pt (x := .var 0) (i := .var 1) hrr (fun _ => rfl) (fun _ => rfl) ?_
    try simp only [HH, gW, gD, V3.l, M4.l, Fr.l, Sp.l, RV.l, RM.l, RF.l, RS.l]
    refine cs1 (fr_Far hg h (by decide)) ?_
    try simp only [HH, gW, gD, V3.l, M4.l, Fr.l, Sp.l, RV.l, RM.l, RF.l, RS.l]
    have mF := Num.of (Sm_far hg.sm h.sm)
    refine call_step (n_penumbraref03_Cmp (mF.mono (by decide)) (hr.mono (by decide))) rfl ?_
    try simp only [HH, gW, gD, V3.l, M4.l, Fr.l, Sp.l, RV.l, RM.l, RF.l, RS.l]
    refine primS (.bool (decide (far pt p ≤ r2))) d_cmpQ_le ?_
    have hsu : ((List.range (i + 1)).filter (nr ps p r2)).map (fun i : Nat => (i : Int)) = ((List.range i).filter (nr ps p r2)).map (fun i : Nat => (i : Int)) ++ if far pt p ≤ r2 then [(i : Int)] else [] := by
      rw [List.range_succ, List.filter_append, List.filter_cons, hnr]
      by_cases e : far pt p ≤ r2
      · rw [if_pos (decide_eq_true e), if_pos e]; simp
      · rw [if_neg (by simpa using e), if_neg e]; simp
    have hX := hX (i + 1) hlt (by omega)
    rw [hsu] at hX
    refine itD rfl (fun e => ?_) (fun e => ?_)
    · rw [if_pos e] at hX
      refine primS (il [(i : Int)]) rfl ?_
      refine primS (il (((List.range i).filter (nr ps p r2)).map (fun i : Nat => (i : Int)) ++ [(i : Int)])) (il_app (by rw [List.length_map]; simp only [List.length_cons, List.length_nil]; omega)) ?_
      refine primS (.int .i64 ((i + 1 : Nat) : Int)) ((d_add64 (by omega) (by omega)).trans (by simp)) ?_
      exact jump_step rfl hX
    · rw [if_neg e, List.append_nil] at hX
      refine primS (.int .i64 ((i + 1 : Nat) : Int)) ((d_add64 (by omega) (by omega)).trans (by simp)) ?_
      exact jump_step rfl hX
  · obtain rfl : i = rs.length := by omega
    refine primS (.bool false) (d_lss.trans (by rw [decide_eq_false (by omega)])) ?_
    refine itF rfl ?_
    exact ret_step (by rw [hlen]; rfl)
theorem fr_Near (hp : NVs L rs ps) (hN : ps.length ≤ 1048576) (g : Num M rsd s) (h : NV L2 rp p) (hr : Num L3 rr2 r2) (hl : L ≤ 1000000000 ∧ M ≤ 1000000000 ∧ L2 ≤ 1000000000 ∧ L3 ≤ 1000000000) :
    PureCalls prog F.penumbraref22_Near [.one (vl rs), .agg (gW [rsd]), .one (.int .i64 n), .agg (gW rp.l), .agg (gW [rr2])] (bnear ps s n p r2) := by
  refine symFunc_sound hmix tree_penumbraref22_Near (by kernel_rfl) rfl ?_
  unfold ir_penumbraref22_Near
  simp only [HH, gW, gD, V3.l, M4.l, Fr.l, Sp.l, RV.l, RM.l, RF.l, RS.l]
  refine call_step (fr_May (ps := ps) hp.len g hr ⟨hl.2.1, hl.2.2.2⟩) rfl ?_
  simp only [HH, gW, gD, V3.l, M4.l, Fr.l, Sp.l, RV.l, RM.l, RF.l, RS.l]
  refine primS (.bool (!_)) rfl ?_
  refine itN rfl (fun c => ?_) (fun c => ?_)
  · exact ret_step (by unfold bnear; rw [if_neg c]; rfl)
  refine call_step (fr_Around hp hN h hr ⟨hl.1, hl.2.2⟩) rfl ?_
  try simp only [HH, gW, gD, V3.l, M4.l, Fr.l, Sp.l, RV.l, RM.l, RF.l, RS.l]
  exact ret_step (by unfold bnear; rw [if_pos c]; rfl)
/-- The pairs of a point, as far as the second one's number goes. -/
def part_ (ps : List V3) (r2 : Rat) (i m : Nat) : List (Int × Int) := ((List.range m).filter fun k => decide (i < k) && nr ps (ps.getD i o3) r2 k).map fun k : Nat => ((i : Int), (k : Int))
theorem part_prow {i : Nat} : part_ ps r2 i ps.length = prow ps r2 i := by
  unfold part_ prow nearL
  rw [List.filter_map, List.map_map, List.filter_filter]
  have e : (fun a : Nat => ((fun k : Int => decide ((i : Int) < k)) ∘ fun i : Nat => (i : Int)) a && nr ps (ps.getD i o3) r2 a) = fun k => decide (i < k) && nr ps (ps.getD i o3) r2 k := by
    funext k
    rw [show ((fun k : Int => decide ((i : Int) < k)) ∘ fun i : Nat => (i : Int)) k = decide (i < k) from decide_eq_decide.2 (by show (i : Int) < (k : Int) ↔ i < k; omega)]
  rw [e]; rfl
theorem part_start {i : Nat} : part_ ps r2 i (i + 1) = [] := by
  unfold part_
  rw [List.map_eq_nil_iff, List.filter_eq_nil_iff]
  intro k hk
  have := List.mem_range.1 hk
  simp; omega
theorem fr_Pairs (hp : NVs L rs ps) (hN : ps.length ≤ 60) (g : Num M rsd s) (hr : Num L3 rr2 r2) (hl : L ≤ 1000000000 ∧ M ≤ 1000000000 ∧ L3 ≤ 1000000000) :
    PureCalls prog F.penumbraref22_Pairs [.one (vl rs), .agg (gW [rsd]), .one (.int .i64 n), .agg (gW [rr2])] (bpairs ps s n r2) := by
  have hlen := hp.len
  refine symFunc_sound hmix tree_penumbraref22_Pairs (by kernel_rfl) rfl ?_
  unfold ir_penumbraref22_Pairs
  simp only [HH, gW, gD, V3.l, M4.l, Fr.l, Sp.l, RV.l, RM.l, RF.l, RS.l]
  refine call_step (fr_May (ps := ps) hp.len g hr ⟨hl.2.1, hl.2.2⟩) rfl ?_
  simp only [HH, gW, gD, V3.l, M4.l, Fr.l, Sp.l, RV.l, RM.l, RF.l, RS.l]
  refine primS (.bool (!_)) rfl ?_
  refine itN rfl (fun c => ?_) (fun c => ?_)
  · exact ret_step (by unfold bpairs; rw [if_neg c]; rfl)
  refine primS (pl []) rfl ?_
  try simp only [HH, gW, gD, V3.l, M4.l, Fr.l, Sp.l, RV.l, RM.l, RF.l, RS.l]
  refine loop_st (fun i : Nat => [vl rs, .int .i64 (i : Int), .bool rr2.neg, nl rr2.num, nl rr2.den, pl (prs ps r2 i)]) (fun i => i ≤ rs.length) (fun i => rs.length - i) 0 (Nat.zero_le _) rfl (fun _ => rfl) fun i hi X hX => ?_
  have hpl := prs_len (ps := ps) (r2 := r2) i
  have hpl2 : i * ps.length ≤ 60 * 60 := Nat.mul_le_mul (by omega) (by omega)
  refine primS (.int .i64 (rs.length : Int)) rfl ?_
  by_cases hlt : i < rs.length
  · obtain ⟨r, hrr⟩ : ∃ r, rs[i]? = some r := ⟨_, List.getElem?_eq_getElem hlt⟩
    obtain ⟨pt, hpt⟩ : ∃ pt, ps[i]? = some pt := ⟨_, List.getElem?_eq_getElem (by omega)⟩
    have hg := (hp.at_ i r pt hrr hpt).mono hl.1
    refine primS (.bool true) (d_lss.trans (by rw [decide_eq_true (by omega)])) ?_
    refine itT rfl ?_
    refine primS (.int .i64 ((i + 1 : Nat) : Int)) ((d_add64 (by omega) (by omega)).trans (by simp)) ?_
    try simp only [HH, gW, gD, V3.l, M4.l, Fr.l, Sp.l, RV.l, RM.l, RF.l, RS.l]
    refine loop_st (fun k : Nat => [vl rs, .int .i64 (i : Int), .int .i64 (k : Int), .bool rr2.neg, nl rr2.num, nl rr2.den, pl (prs ps r2 i ++ part_ ps r2 i k)]) (fun k => i < k ∧ k ≤ rs.length) (fun k => rs.length - k) (i + 1) ⟨by omega, by omega⟩ (by rw [part_start, List.append_nil]; rfl) (fun _ => rfl) fun k ⟨hk0, hk⟩ Z hZ => ?_
    have hfl : (part_ ps r2 i k).length ≤ k := by
      unfold part_
      rw [List.length_map]
      exact Nat.le_trans (List.length_filter_le _ _) (by simp)
    refine primS (.int .i64 (rs.length : Int)) rfl ?_
    by_cases hlk : k < rs.length
    · obtain ⟨rk, hrk⟩ : ∃ r, rs[k]? = some r := ⟨_, List.getElem?_eq_getElem hlk⟩
      obtain ⟨kt, hkt⟩ : ∃ pt, ps[k]? = some pt := ⟨_, List.getElem?_eq_getElem (by omega)⟩
      have hgk := (hp.at_ k rk kt hrk hkt).mono hl.1
      refine primS (.bool true) (d_lss.trans (by rw [decide_eq_true (by omega)])) ?_
      refine itT rfl ?_
      refine primS (.bool true) (fm_inb gV_len (by omega) (by omega)) ?_
      refine get_pt (x := .var 0) (i := .var 1) hrr (fun _ => rfl) (fun _ => rfl) ?_
      try simp only [HH, gW, gD, V3.l, M4.l, Fr.l, Sp.l, RV.l, RM.l, RF.l, RS.l]
      refine primS (.bool true) (fm_inb gV_len (by omega) (by omega)) ?_
      try simp only [HH, gW, gD, V3.l, M4.l, Fr.l, Sp.l, RV.l, RM.l, RF.l, RS.l]
      refine get_pt (x := .var 0) (i := .var 2) hrk (fun _ => rfl) (fun _ => rfl) ?_
      try simp only [HH, gW, gD, V3.l, M4.l, Fr.l, Sp.l, RV.l, RM.l, RF.l, RS.l]
      refine cs1 (fr_Far hg hgk (by decide)) ?_
      try simp only [HH, gW, gD, V3.l, M4.l, Fr.l, Sp.l, RV.l, RM.l, RF.l, RS.l]
      have mF := Num.of (Sm_far hg.sm hgk.sm)
      refine call_step (n_penumbraref03_Cmp (mF.mono (by decide)) (hr.mono (by unfold LL; omega))) rfl ?_
      try simp only [HH, gW, gD, V3.l, M4.l, Fr.l, Sp.l, RV.l, RM.l, RF.l, RS.l]
      refine primS (.bool (decide (far pt kt ≤ r2))) d_cmpQ_le ?_
      have hsu : part_ ps r2 i (k + 1) = part_ ps r2 i k ++ if far pt kt ≤ r2 then [((i : Int), (k : Int))] else [] := by
        unfold part_
        rw [List.range_succ, List.filter_append, List.filter_cons, List.map_append]
        have e : (decide (i < k) && nr ps (ps.getD i o3) r2 k) = decide (far pt kt ≤ r2) := by
          rw [decide_eq_true hk0, Bool.true_and]
          unfold nr; rw [getD_of hpt, getD_of hkt, far_comm]
        rw [e]
        by_cases e : far pt kt ≤ r2
        · rw [if_pos (decide_eq_true e), if_pos e]; rfl
        · rw [if_neg (by simpa using e), if_neg e]; rfl
      have hZ := hZ (k + 1) ⟨by omega, by omega⟩ (by omega)
      rw [hsu] at hZ
      refine itD rfl (fun e => ?_) (fun e => ?_)
      · rw [if_pos e, ← List.append_assoc] at hZ
        refine primS (pl [((i : Int), (k : Int))]) rfl ?_
        refine primS (pl (prs ps r2 i ++ part_ ps r2 i k ++ [((i : Int), (k : Int))])) (pl_app (by rw [List.length_append]; simp only [List.length_cons, List.length_nil]; omega)) ?_
        refine primS (.int .i64 ((k + 1 : Nat) : Int)) ((d_add64 (by omega) (by omega)).trans (by simp)) ?_
        exact jump_step rfl hZ
      · rw [if_neg e, List.append_nil] at hZ
        refine primS (.int .i64 ((k + 1 : Nat) : Int)) ((d_add64 (by omega) (by omega)).trans (by simp)) ?_
        exact jump_step rfl hZ
    · obtain rfl : k = rs.length := by omega
      refine primS (.bool false) (d_lss.trans (by rw [decide_eq_false (by omega)])) ?_
      refine itF rfl ?_
      refine primS (.int .i64 ((i + 1 : Nat) : Int)) ((d_add64 (by omega) (by omega)).trans (by simp)) ?_
      have hX := hX (i + 1) hlt (by omega)
      rw [prs_succ, ← part_prow, ← hlen] at hX
      exact jump_step rfl hX
  · obtain rfl : i = rs.length := by omega
    refine primS (.bool false) (d_lss.trans (by rw [decide_eq_false (by omega)])) ?_
    refine itF rfl ?_
    exact ret_step (by unfold bpairs; rw [if_pos c, hlen]; rfl)
end
end Go.Px.Na

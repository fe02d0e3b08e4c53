/- Ka: trees of points: a number of a point, nodes, the comparison that puts points in order. -/
import Derived.Test.YtejnnginkadecaaGreatHb
set_option maxRecDepth 40000
set_option maxHeartbeats 40000000
set_option linter.unusedVariables false
set_option linter.unusedSimpArgs false
namespace Go.Px
open Go.RowKit
def ir_vec_Sub : IR :=
 .call F.rat_Sub [.agg [.var 0, .var 1, .var 2], .agg [.var 9, .var 10, .var 11]] [.agg 3] <|
 .call F.rat_Sub [.agg [.var 3, .var 4, .var 5], .agg [.var 12, .var 13, .var 14]] [.agg 3] <|
 .call F.rat_Sub [.agg [.var 6, .var 7, .var 8], .agg [.var 15, .var 16, .var 17]] [.agg 3] <|
 .ret [.agg [.var 18, .var 19, .var 20, .var 21, .var 22, .var 23, .var 24, .var 25, .var 26]]

def ir_vec_Dot : IR :=
 .prim (.mk 2) [.var 0, .var 1, .var 2, .var 9, .var 10, .var 11] <|
 .call F.rat_Product [.one (.var 18)] [.agg 3] <|
 .prim (.mk 2) [.var 3, .var 4, .var 5, .var 12, .var 13, .var 14] <|
 .call F.rat_Product [.one (.var 22)] [.agg 3] <|
 .prim (.mk 2) [.var 6, .var 7, .var 8, .var 15, .var 16, .var 17] <|
 .call F.rat_Product [.one (.var 26)] [.agg 3] <|
 .prim (.mk 3) [.var 19, .var 20, .var 21, .var 23, .var 24, .var 25, .var 27, .var 28, .var 29] <|
 .call F.rat_Sum [.one (.var 30)] [.agg 3] <|
 .ret [.agg [.var 31, .var 32, .var 33]]

def ir_ball_Far : IR :=
 .call F.vec_Sub [.agg [.var 9, .var 10, .var 11, .var 12, .var 13, .var 14, .var 15, .var 16, .var 17], .agg [.var 0, .var 1, .var 2, .var 3, .var 4, .var 5, .var 6, .var 7, .var 8]] [.agg 9] <|
 .call F.vec_Dot [.agg [.var 18, .var 19, .var 20, .var 21, .var 22, .var 23, .var 24, .var 25, .var 26], .agg [.var 18, .var 19, .var 20, .var 21, .var 22, .var 23, .var 24, .var 25, .var 26]] [.agg 3] <|
 .ret [.agg [.var 27, .var 28, .var 29]]

def ir_kd_axis : IR :=
 .prim (.bin .eql) [.var 9, .int .i64 (0)] <|
 .ite (.var 10) (
  .ret [.agg [.var 0, .var 1, .var 2]]) (
  .prim (.bin .eql) [.var 9, .int .i64 (1)] <|
  .ite (.var 11) (
   .ret [.agg [.var 3, .var 4, .var 5]]) (
   .ret [.agg [.var 6, .var 7, .var 8]]))

def ir___kd_builder__node_1 : IR :=
 .prim (.inb 9) [.var 2, .var 0] <|
 .prim (.get 9 0) [.var 2, .var 0] <|
 .prim (.get 9 1) [.var 2, .var 0] <|
 .prim (.get 9 2) [.var 2, .var 0] <|
 .prim (.get 9 3) [.var 2, .var 0] <|
 .prim (.get 9 4) [.var 2, .var 0] <|
 .prim (.get 9 5) [.var 2, .var 0] <|
 .prim (.get 9 6) [.var 2, .var 0] <|
 .prim (.get 9 7) [.var 2, .var 0] <|
 .prim (.get 9 8) [.var 2, .var 0] <|
 .call F.kd_axis [.agg [.var 5, .var 6, .var 7, .var 8, .var 9, .var 10, .var 11, .var 12, .var 13], .one (.var 3)] [.agg 3] <|
 .prim (.inb 9) [.var 2, .var 1] <|
 .prim (.get 9 0) [.var 2, .var 1] <|
 .prim (.get 9 1) [.var 2, .var 1] <|
 .prim (.get 9 2) [.var 2, .var 1] <|
 .prim (.get 9 3) [.var 2, .var 1] <|
 .prim (.get 9 4) [.var 2, .var 1] <|
 .prim (.get 9 5) [.var 2, .var 1] <|
 .prim (.get 9 6) [.var 2, .var 1] <|
 .prim (.get 9 7) [.var 2, .var 1] <|
 .prim (.get 9 8) [.var 2, .var 1] <|
 .call F.kd_axis [.agg [.var 18, .var 19, .var 20, .var 21, .var 22, .var 23, .var 24, .var 25, .var 26], .one (.var 3)] [.agg 3] <|
 .call F.rat_Cmp [.agg [.var 14, .var 15, .var 16], .agg [.var 27, .var 28, .var 29]] [.one] <|
 .prim (.bin .neq) [.var 30, .int .i64 (0)] <|
 .ite (.var 31) (
  .ret [.one (.var 30)]) (
  .prim (.bin .sub) [.var 0, .var 1] <|
  .ret [.one (.var 32)])

def ir__kd_found__behind : IR :=
 .call F.rat_Cmp [.agg [.var 1, .var 2, .var 3], .agg [.var 5, .var 6, .var 7]] [.one] <|
 .prim (.bin .gtr) [.var 8, .int .i64 (0)] <|
 .ite (.var 9) (
  .ret [.one (.bol true)]) (
  .prim (.bin .eql) [.var 8, .int .i64 (0)] <|
  .ite (.var 10) (
   .prim (.bin .gtr) [.var 0, .var 4] <|
   .ret [.one (.var 11)]) (
   .ret [.one (.bol false)]))

def ir_kd_Nearest_1 : IR :=
 .call F._kd_found__behind [.agg [.var 0, .var 1, .var 2, .var 3], .agg [.var 4, .var 5, .var 6, .var 7]] [.one] <|
 .ite (.var 8) (
  .ret [.one (.int .i64 (1))]) (
  .ret [.one (.int .i64 (-1))])

def ir_slices_Clone___int_int_ : IR :=
 .nilq (.var 0) <|
 .ite (.var 1) (
  .ret [.own 1 3 (.nil)]) (
  .prim (.mk 0) [] <|
  .prim (.app 1 8) [.var 2, .var 0] <|
  .ret [.own 1 3 (.var 3)])

theorem tree_vec_Sub : symFunc Go.Proofs.Tryz.prog ⟨fun f => [28].contains f, fun f i => [], fun f i => [], fun f => [33].contains f, fun f => if f = 14 then some ([.row 4 63, .pl], [.row 1 3, .pl], 1) else if f = 17 then some ([.pl, .pl, .pl, .pl, .pl, .pl, .pl, .pl, .pl, .pl, .pl, .pl, .row 4 59, .row 1 4, .row 1 4], [.pl], 0) else if f = 49 then some ([.pl, .pl, .pl, .pl, .pl, .pl, .pl, .pl, .pl, .pl, .pl, .pl, .row 4 59, .row 1 4, .row 1 4], [], 0) else if f = 50 then some ([.pl, .pl, .pl, .pl, .pl, .pl, .pl, .pl, .pl, .pl, .pl, .pl, .row 4 59, .row 1 4, .row 1 4], [], 0) else none⟩ 400 F.vec_Sub [.agg 9, .agg 9] = some ir_vec_Sub := by kernel_rfl
theorem tree_vec_Dot : symFunc Go.Proofs.Tryz.prog ⟨fun f => [28].contains f, fun f i => [], fun f i => [], fun f => [33].contains f, fun f => if f = 14 then some ([.row 4 63, .pl], [.row 1 3, .pl], 1) else if f = 17 then some ([.pl, .pl, .pl, .pl, .pl, .pl, .pl, .pl, .pl, .pl, .pl, .pl, .row 4 59, .row 1 4, .row 1 4], [.pl], 0) else if f = 49 then some ([.pl, .pl, .pl, .pl, .pl, .pl, .pl, .pl, .pl, .pl, .pl, .pl, .row 4 59, .row 1 4, .row 1 4], [], 0) else if f = 50 then some ([.pl, .pl, .pl, .pl, .pl, .pl, .pl, .pl, .pl, .pl, .pl, .pl, .row 4 59, .row 1 4, .row 1 4], [], 0) else none⟩ 400 F.vec_Dot [.agg 9, .agg 9] = some ir_vec_Dot := by kernel_rfl
theorem tree_ball_Far : symFunc Go.Proofs.Tryz.prog ⟨fun f => [28].contains f, fun f i => [], fun f i => [], fun f => [33].contains f, fun f => if f = 14 then some ([.row 4 63, .pl], [.row 1 3, .pl], 1) else if f = 17 then some ([.pl, .pl, .pl, .pl, .pl, .pl, .pl, .pl, .pl, .pl, .pl, .pl, .row 4 59, .row 1 4, .row 1 4], [.pl], 0) else if f = 49 then some ([.pl, .pl, .pl, .pl, .pl, .pl, .pl, .pl, .pl, .pl, .pl, .pl, .row 4 59, .row 1 4, .row 1 4], [], 0) else if f = 50 then some ([.pl, .pl, .pl, .pl, .pl, .pl, .pl, .pl, .pl, .pl, .pl, .pl, .row 4 59, .row 1 4, .row 1 4], [], 0) else none⟩ 400 F.ball_Far [.agg 9, .agg 9] = some ir_ball_Far := by kernel_rfl
theorem tree_kd_axis : symFunc Go.Proofs.Tryz.prog ⟨fun f => [28].contains f, fun f i => [], fun f i => [], fun f => [33].contains f, fun f => if f = 14 then some ([.row 4 63, .pl], [.row 1 3, .pl], 1) else if f = 17 then some ([.pl, .pl, .pl, .pl, .pl, .pl, .pl, .pl, .pl, .pl, .pl, .pl, .row 4 59, .row 1 4, .row 1 4], [.pl], 0) else if f = 49 then some ([.pl, .pl, .pl, .pl, .pl, .pl, .pl, .pl, .pl, .pl, .pl, .pl, .row 4 59, .row 1 4, .row 1 4], [], 0) else if f = 50 then some ([.pl, .pl, .pl, .pl, .pl, .pl, .pl, .pl, .pl, .pl, .pl, .pl, .row 4 59, .row 1 4, .row 1 4], [], 0) else none⟩ 400 F.kd_axis [.agg 9, .one] = some ir_kd_axis := by kernel_rfl
theorem tree___kd_builder__node_1 : symFunc Go.Proofs.Tryz.prog ⟨fun f => [28].contains f, fun f i => [], fun f i => [], fun f => [33].contains f, fun f => if f = 14 then some ([.row 4 63, .pl], [.row 1 3, .pl], 1) else if f = 17 then some ([.pl, .pl, .pl, .pl, .pl, .pl, .pl, .pl, .pl, .pl, .pl, .pl, .row 4 59, .row 1 4, .row 1 4], [.pl], 0) else if f = 49 then some ([.pl, .pl, .pl, .pl, .pl, .pl, .pl, .pl, .pl, .pl, .pl, .pl, .row 4 59, .row 1 4, .row 1 4], [], 0) else if f = 50 then some ([.pl, .pl, .pl, .pl, .pl, .pl, .pl, .pl, .pl, .pl, .pl, .pl, .row 4 59, .row 1 4, .row 1 4], [], 0) else none⟩ 400 F.__kd_builder__node_1 [.one, .one, .nref [false, true] 0, .ref 1 0] = some ir___kd_builder__node_1 := by kernel_rfl
theorem tree__kd_found__behind : symFunc Go.Proofs.Tryz.prog ⟨fun f => [28].contains f, fun f i => [], fun f i => [], fun f => [33].contains f, fun f => if f = 14 then some ([.row 4 63, .pl], [.row 1 3, .pl], 1) else if f = 17 then some ([.pl, .pl, .pl, .pl, .pl, .pl, .pl, .pl, .pl, .pl, .pl, .pl, .row 4 59, .row 1 4, .row 1 4], [.pl], 0) else if f = 49 then some ([.pl, .pl, .pl, .pl, .pl, .pl, .pl, .pl, .pl, .pl, .pl, .pl, .row 4 59, .row 1 4, .row 1 4], [], 0) else if f = 50 then some ([.pl, .pl, .pl, .pl, .pl, .pl, .pl, .pl, .pl, .pl, .pl, .pl, .row 4 59, .row 1 4, .row 1 4], [], 0) else none⟩ 400 F._kd_found__behind [.agg 4, .agg 4] = some ir__kd_found__behind := by kernel_rfl
theorem tree_kd_Nearest_1 : symFunc Go.Proofs.Tryz.prog ⟨fun f => [28].contains f, fun f i => [], fun f i => [], fun f => [33].contains f, fun f => if f = 14 then some ([.row 4 63, .pl], [.row 1 3, .pl], 1) else if f = 17 then some ([.pl, .pl, .pl, .pl, .pl, .pl, .pl, .pl, .pl, .pl, .pl, .pl, .row 4 59, .row 1 4, .row 1 4], [.pl], 0) else if f = 49 then some ([.pl, .pl, .pl, .pl, .pl, .pl, .pl, .pl, .pl, .pl, .pl, .pl, .row 4 59, .row 1 4, .row 1 4], [], 0) else if f = 50 then some ([.pl, .pl, .pl, .pl, .pl, .pl, .pl, .pl, .pl, .pl, .pl, .pl, .row 4 59, .row 1 4, .row 1 4], [], 0) else none⟩ 400 F.kd_Nearest_1 [.agg 4, .agg 4] = some ir_kd_Nearest_1 := by kernel_rfl
theorem tree_slices_Clone___int_int_ : symFunc Go.Proofs.Tryz.prog ⟨fun f => [28].contains f, fun f i => [], fun f i => [], fun f => [33].contains f, fun f => if f = 14 then some ([.row 4 63, .pl], [.row 1 3, .pl], 1) else if f = 17 then some ([.pl, .pl, .pl, .pl, .pl, .pl, .pl, .pl, .pl, .pl, .pl, .pl, .row 4 59, .row 1 4, .row 1 4], [.pl], 0) else if f = 49 then some ([.pl, .pl, .pl, .pl, .pl, .pl, .pl, .pl, .pl, .pl, .pl, .pl, .row 4 59, .row 1 4, .row 1 4], [], 0) else if f = 50 then some ([.pl, .pl, .pl, .pl, .pl, .pl, .pl, .pl, .pl, .pl, .pl, .pl, .row 4 59, .row 1 4, .row 1 4], [], 0) else none⟩ 400 F.slices_Clone___int_int_ [.one] = some ir_slices_Clone___int_int_ := by kernel_rfl
end Go.Px
namespace Go.Px.Na
open Go.RowKit
open Go.Proofs.Tryz (prog)
section
variable {L M : Nat} {r s : RR} {x y : Rat}
theorem f_vec_Dot {a b : RV} {u v : V3} (h : NV L a u) (g : NV M b v) (hl : L ≤ 60000000000 ∧ M ≤ 60000000000) : PureCalls prog F.vec_Dot [.agg (gW a.l), .agg (gW b.l)] [.agg (gD [u.dot v])] := by
  replace h := h.mono hl.1
  replace g := g.mono hl.2
  refine symFunc_sound hmix tree_vec_Dot (by kernel_rfl) rfl ?_
  unfold ir_vec_Dot
  simp only [HH, gW, gD, V3.l, M4.l, Fr.l, Sp.l, RV.l, RM.l, RF.l, RS.l]
  refine primS (rlN2 h.x g.x) rfl ?_
  refine cs1 (n_rat_Product_2 (h.x.mono (by decide)) (g.x.mono (by decide)) rfl) ?_
  simp only [HH, gW, gD, V3.l, M4.l, Fr.l, Sp.l, RV.l, RM.l, RF.l, RS.l]
  have m1 := Num.of (Sm.mul h.x.sm g.x.sm)
  refine primS (rlN2 h.y g.y) rfl ?_
  refine cs1 (n_rat_Product_2 (h.y.mono (by decide)) (g.y.mono (by decide)) rfl) ?_
  simp only [HH, gW, gD, V3.l, M4.l, Fr.l, Sp.l, RV.l, RM.l, RF.l, RS.l]
  have m2 := Num.of (Sm.mul h.y.sm g.y.sm)
  refine primS (rlN2 h.z g.z) rfl ?_
  refine cs1 (n_rat_Product_2 (h.z.mono (by decide)) (g.z.mono (by decide)) rfl) ?_
  simp only [HH, gW, gD, V3.l, M4.l, Fr.l, Sp.l, RV.l, RM.l, RF.l, RS.l]
  have m3 := Num.of (Sm.mul h.z.sm g.z.sm)
  refine primS (rlN3 m1 m2 m3) rfl ?_
  refine cs1 (n_rat_Sum_3 (m1.mono (by decide)) (m2.mono (by decide)) (m3.mono (by decide)) rfl) ?_
  simp only [HH, gW, gD, V3.l, M4.l, Fr.l, Sp.l, RV.l, RM.l, RF.l, RS.l]
  have m4 := Num.of (Sm.add (Sm.add m1.sm m2.sm) m3.sm)
  exact ret_step rfl
theorem f_vec_Sub {a b : RV} {u v : V3} (h : NV L a u) (g : NV M b v) (hl : L ≤ 60000000000 ∧ M ≤ 60000000000) : PureCalls prog F.vec_Sub [.agg (gW a.l), .agg (gW b.l)] [.agg (gD [(u.sub v).x, (u.sub v).y, (u.sub v).z])] := by
  replace h := h.mono hl.1
  replace g := g.mono hl.2
  refine symFunc_sound hmix tree_vec_Sub (by kernel_rfl) rfl ?_
  unfold ir_vec_Sub
  simp only [HH, gW, gD, V3.l, M4.l, Fr.l, Sp.l, RV.l, RM.l, RF.l, RS.l]
  refine call_step (f_rat_Sub h.x g.x (by decide)) rfl ?_
  simp only [HH, gW, gD, V3.l, M4.l, Fr.l, Sp.l, RV.l, RM.l, RF.l, RS.l]
  have m1 := Num.of (Sm.sub h.x.sm g.x.sm)
  refine call_step (f_rat_Sub h.y g.y (by decide)) rfl ?_
  simp only [HH, gW, gD, V3.l, M4.l, Fr.l, Sp.l, RV.l, RM.l, RF.l, RS.l]
  have m2 := Num.of (Sm.sub h.y.sm g.y.sm)
  refine call_step (f_rat_Sub h.z g.z (by decide)) rfl ?_
  simp only [HH, gW, gD, V3.l, M4.l, Fr.l, Sp.l, RV.l, RM.l, RF.l, RS.l]
  have m3 := Num.of (Sm.sub h.z.sm g.z.sm)
  exact ret_step rfl
theorem f_ball_Far {a b : RV} {u v : V3} (h : NV L a u) (g : NV M b v) (hl : L ≤ 10000000000 ∧ M ≤ 10000000000) : PureCalls prog F.ball_Far [.agg (gW a.l), .agg (gW b.l)] [.agg (gD [far u v])] := by
  replace h := h.mono hl.1
  replace g := g.mono hl.2
  refine symFunc_sound hmix tree_ball_Far (by kernel_rfl) rfl ?_
  unfold ir_ball_Far
  simp only [HH, gW, gD, V3.l, M4.l, Fr.l, Sp.l, RV.l, RM.l, RF.l, RS.l]
  refine call_step (f_vec_Sub g h (by decide)) rfl ?_
  simp only [HH, gW, gD, V3.l, M4.l, Fr.l, Sp.l, RV.l, RM.l, RF.l, RS.l]
  have m1 := NV.of (SV.sub g.sm h.sm)
  refine call_step (f_vec_Dot m1 m1 (by decide)) rfl ?_
  simp only [HH, gW, gD, V3.l, M4.l, Fr.l, Sp.l, RV.l, RM.l, RF.l, RS.l]
  have m2 := Num.of (SV.dot m1.sm m1.sm)
  exact ret_step rfl
theorem Sm_far {u v : V3} (h : SV L u) (g : SV M v) : Sm (6 * (M + L + 1) + 2) (far u v) := ((g.sub h).dot (g.sub h)).mono (by omega)
end

/-- A number of a point. -/
def axQ (p : V3) (i : Int) : Rat := if i = 0 then p.x else if i = 1 then p.y else p.z
def axR (p : RV) (i : Int) : RR := if i = 0 then p.x else if i = 1 then p.y else p.z
theorem num_ax {L : Nat} {r : RV} {p : V3} (h : NV L r p) (i : Int) : Num L (axR r i) (axQ p i) := by
  unfold axR axQ
  split
  · exact h.x
  · split
    · exact h.y
    · exact h.z
theorem f_axis (r : RV) (i : Int) : PureCalls prog F.kd_axis [.agg (gW r.l), .one (.int .i64 i)] [.agg (gW [axR r i])] := by
  refine symFunc_sound hmix tree_kd_axis (by kernel_rfl) rfl ?_
  unfold ir_kd_axis
  try simp only [HH, gW, gD, V3.l, M4.l, Fr.l, Sp.l, RV.l, RM.l, RF.l, RS.l]
  refine primS (.bool (decide (i = 0))) d_eql ?_
  refine itD rfl (fun c => ?_) (fun c => ?_)
  · exact ret_step (by unfold axR; rw [if_pos c]; rfl)
  · refine primS (.bool (decide (i = 1))) d_eql ?_
    refine itD rfl (fun c2 => ?_) (fun c2 => ?_)
    · exact ret_step (by unfold axR; rw [if_neg c, if_pos c2]; rfl)
    · exact ret_step (by unfold axR; rw [if_neg c, if_neg c2]; rfl)

/-- A node. -/
structure KN where
  pt : Int
  ax : Int
  lf : Int
  rt : Int
  deriving DecidableEq, Inhabited
def KN.l (n : KN) : List DV := [.int .i64 n.pt, .int .i64 n.ax, .int .i64 n.lf, .int .i64 n.rt]
def kl (ns : List KN) : DV := .list ns.length (ns.flatMap KN.l)
theorem kn_len (n : KN) : n.l.length = 4 := rfl
theorem kl_inb {ns : List KN} {k : IntKind} {i : Int} (h0 : 0 ≤ i) (h : i < ns.length) : Prim.den (.inb 4) [kl ns, .int k i] = some (.bool true) := fm_inb kn_len h0 h
theorem vl_inb {rs : List RV} {k : IntKind} {i : Int} (h0 : 0 ≤ i) (h : i < rs.length) : Prim.den (.inb 9) [vl rs, .int k i] = some (.bool true) := fm_inb gV_len h0 h
section
variable {P : Program} {As : List (List DV → Prop)} {ρ : List DV} {Q : List AV → Prop}
theorem get_kn {x i : Px.A} {ns : List KN} {ki : IntKind} {j : Nat} {k : IR} {n : KN} (hr : ns[j]? = some n) (hx : ∀ l, Px.A.ev (ρ ++ l) x = kl ns) (hi : ∀ l, Px.A.ev (ρ ++ l) i = .int ki (j : Int)) (hk : IRwp P As (ρ ++ n.l) k Q) : IRwp P As ρ (getsI x i 4 4 0 k) Q :=
  gets_ok (by omega) (by have := (List.getElem?_eq_some_iff.1 hr).1; omega) 4 0 ρ n.l hx hi rfl (fun t ht => by rw [Int.toNat_natCast, Nat.zero_add]; exact fm_get kn_len t hr ht) hk
/-- The same, the place being a whole number. -/
theorem get_ptZ {x i : Px.A} {rs : List RV} {ki : IntKind} {j : Int} {k : IR} {r : RV} (h0 : 0 ≤ j) (hr : rs[j.toNat]? = some r) (hx : ∀ l, Px.A.ev (ρ ++ l) x = vl rs) (hi : ∀ l, Px.A.ev (ρ ++ l) i = .int ki j) (hk : IRwp P As (ρ ++ gW r.l) k Q) : IRwp P As ρ (getsI x i 9 9 0 k) Q :=
  get_pt hr hx (fun l => by rw [Int.toNat_of_nonneg h0]; exact hi l) hk
theorem get_knZ {x i : Px.A} {ns : List KN} {ki : IntKind} {j : Int} {k : IR} {n : KN} (h0 : 0 ≤ j) (hr : ns[j.toNat]? = some n) (hx : ∀ l, Px.A.ev (ρ ++ l) x = kl ns) (hi : ∀ l, Px.A.ev (ρ ++ l) i = .int ki j) (hk : IRwp P As (ρ ++ n.l) k Q) : IRwp P As ρ (getsI x i 4 4 0 k) Q :=
  get_kn hr hx (fun l => by rw [Int.toNat_of_nonneg h0]; exact hi l) hk
theorem turn_step {g : FuncId} {cells args : List TK} {nres : Nat} {ins : List Px.A} {k : IR} {outs : List DV} (h : TurnCalls P g cells args nres (ins.map (Px.A.ev ρ)) outs) (hk : IRwp P As (ρ ++ outs) k Q) : IRwp P As ρ (.turn g cells args nres ins k) Q := by
  show ∃ outs, TurnCalls P g cells args nres (ins.map (Px.A.ev ρ)) outs ∧ IRwp P As (ρ ++ outs) k Q
  exact ⟨outs, h, hk⟩
theorem sortc_step {f : FuncId} {s : Nat} {E : TypeId} {g : FuncId} {caps : List CA} {x : Px.A} {k : IR} {n : Nat} {cs cs' : List DV} (hx : x.ev ρ = .list n cs) (h : SortCalls P f s E g (caps.map (CA.ev ρ)) n cs cs') (hk : IRwp P As (ρ ++ [.list n cs']) k Q) : IRwp P As ρ (.sortc f s E g caps x k) Q := by
  show ∃ n cs cs', x.ev ρ = .list n cs ∧ SortCalls P f s E g (caps.map (CA.ev ρ)) n cs cs' ∧ IRwp P As (ρ ++ [.list n cs']) k Q
  exact ⟨n, cs, cs', hx, h, hk⟩
end

/-- How two points compare: by a number, then by their places. -/
def cfI (ps : List V3) (by_ : Int) (i k : Nat) : Int :=
  if cmpQ (axQ (ps.getD i o3) by_) (axQ (ps.getD k o3) by_) ≠ 0 then cmpQ (axQ (ps.getD i o3) by_) (axQ (ps.getD k o3) by_) else (i : Int) - k
theorem nvs_at {L : Nat} {rs : List RV} {ps : List V3} (H : NVs L rs ps) {i : Nat} (h : i < rs.length) : NV L (rs[i]'h) (ps.getD i o3) := by
  have h2 : i < ps.length := by rw [← H.len]; exact h
  refine H.at_ i _ _ (List.getElem?_eq_getElem h) ?_
  simp [List.getD_eq_getElem?_getD, List.getElem?_eq_getElem h2]
theorem f_cmp {L : Nat} {rs : List RV} {ps : List V3} (H : NVs L rs ps) (hl : L ≤ LL) {i k : Nat} (hi : i < rs.length) (hk : k < rs.length) (hb : rs.length < 4611686018427387904) (by_ : Int) :
    PureCalls prog F.__kd_builder__node_1 [.one (.int .i64 (i : Int)), .one (.int .i64 (k : Int)), .nref [none, some (vl rs)], .ref [.int .i64 by_]] [.one (.int .i64 (cfI ps by_ i k))] := by
  refine symFunc_sound hmix tree___kd_builder__node_1 (by kernel_rfl) rfl ?_
  unfold ir___kd_builder__node_1
  simp only [flatAll, List.flatMap_cons, List.flatMap_nil, AV.flat, List.cons_append, List.nil_append, List.append_nil, List.filterMap_cons, List.filterMap_nil, id]
  refine primS (.bool true) (vl_inb (by omega) (by omega)) ?_
  refine get_pt (List.getElem?_eq_getElem hi) (fun _ => rfl) (fun _ => rfl) ?_
  simp only [HH, gW, gD, V3.l, M4.l, Fr.l, Sp.l, RV.l, RM.l, RF.l, RS.l]
  refine call_step (f_axis rs[i] by_) rfl ?_
  simp only [HH, gW, gD, V3.l, M4.l, Fr.l, Sp.l, RV.l, RM.l, RF.l, RS.l]
  refine primS (.bool true) (vl_inb (by omega) (by omega)) ?_
  refine get_pt (List.getElem?_eq_getElem hk) (fun _ => rfl) (fun _ => rfl) ?_
  simp only [HH, gW, gD, V3.l, M4.l, Fr.l, Sp.l, RV.l, RM.l, RF.l, RS.l]
  refine call_step (f_axis rs[k] by_) rfl ?_
  simp only [HH, gW, gD, V3.l, M4.l, Fr.l, Sp.l, RV.l, RM.l, RF.l, RS.l]
  refine call_step (n_rat_Cmp ((num_ax (nvs_at H hi) by_).mono hl) ((num_ax (nvs_at H hk) by_).mono hl)) rfl ?_
  simp only [HH, gW, gD, V3.l, M4.l, Fr.l, Sp.l, RV.l, RM.l, RF.l, RS.l]
  refine primS (.bool (decide (cmpQ (axQ (ps.getD i o3) by_) (axQ (ps.getD k o3) by_) ≠ 0))) d_neq ?_
  refine itD rfl (fun c => ?_) (fun c => ?_)
  · exact ret_step (by unfold cfI; rw [if_pos c]; rfl)
  · refine primS (.int .i64 ((i : Int) - k)) (d_sub64 (by omega) (by omega)) ?_
    exact ret_step (by unfold cfI; rw [if_neg c]; rfl)
end Go.Px.Na

/- Kn: how trees of points are built: the program's functions. -/
import Derived.Test.YtejnnginkadecaaGreatKs
set_option maxRecDepth 40000
set_option maxHeartbeats 40000000
set_option linter.unusedVariables false
set_option linter.unusedSimpArgs false
namespace Go.Px
open Go.RowKit
def ir___kd_builder__node : IR :=
 .prim .len [.var 2] <|
 .prim (.bin .eql) [.var 4, .int .i64 (0)] <|
 .ite (.var 5) (
  .ret [.one (.int .i64 (-1)), .one (.var 0), .one (.var 1)]) (
  .prim (.bin .rem) [.var 3, .int .i64 (3)] <|
  .sortc F.slices_SortFunc___int_int_ 1 3 F.__kd_builder__node_1 [.nref [none, some (.var 1)], .ref [.var 6]] (.var 2) <|
  .prim .len [.var 7] <|
  .prim (.bin .quo) [.var 8, .int .i64 (2)] <|
  .prim .len [.var 0] <|
  .prim (.inb 1) [.var 7, .var 9] <|
  .prim (.get 1 0) [.var 7, .var 9] <|
  .prim (.mk 1) [.var 12, .var 6, .int .i64 (-1), .int .i64 (-1)] <|
  .prim (.app 4 32) [.var 0, .var 13] <|
  .prim (.slc 1) [.var 7, .int .i64 (0), .var 9] <|
  .call F.slices_Clone___int_int_ [.one (.var 15)] [.own 1 3] <|
  .prim (.bin .add) [.var 3, .int .i64 (1)] <|
  .turn F.__kd_builder__node [.row 4 63, .pl] [.row 1 3, .pl] 1 [.var 14, .var 1, .var 16, .var 17] <|
  .prim (.bin .add) [.var 9, .int .i64 (1)] <|
  .prim .len [.var 7] <|
  .prim (.slc 1) [.var 7, .var 21, .var 22] <|
  .call F.slices_Clone___int_int_ [.one (.var 23)] [.own 1 3] <|
  .prim (.bin .add) [.var 3, .int .i64 (1)] <|
  .turn F.__kd_builder__node [.row 4 63, .pl] [.row 1 3, .pl] 1 [.var 19, .var 20, .var 24, .var 25] <|
  .prim (.inb 4) [.var 27, .var 10] <|
  .prim (.setl 4 2) [.var 27, .var 10, .var 18] <|
  .prim (.inb 4) [.var 30, .var 10] <|
  .prim (.setl 4 3) [.var 30, .var 10, .var 26] <|
  .ret [.one (.var 10), .one (.var 32), .one (.var 28)])

def ir_kd_Build : IR :=
 .prim .len [.var 0] <|
 .prim (.bin .gtr) [.var 1, .int .i64 (1000)] <|
 .ite (.var 2) (
  .ret [.agg [.nil], .one (.bol false)]) (
  .prim .len [.var 0] <|
  .loop [.var 3, .int .i64 (0), .var 0, .nil] (
   .prim (.bin .lss) [.var 1, .var 0] <|
   .ite (.var 4) (
    .prim (.mk 1) [.var 1] <|
    .prim (.app 1 8) [.var 3, .var 5] <|
    .prim (.bin .add) [.var 1, .int .i64 (1)] <|
    .jump 0 [.var 0, .var 7, .var 2, .var 6]) (
    .turn F.__kd_builder__node [.row 4 63, .pl] [.row 1 3, .pl] 1 [.nil, .var 2, .var 3, .int .i64 (0)] <|
    .ret [.agg [.var 6], .one (.bol true)])))

theorem tree___kd_builder__node : symTurn Go.Proofs.Tryz.prog ⟨fun f => [28].contains f, fun f i => [], fun f i => [], fun f => [33].contains f, fun f => if f = 14 then some ([.row 4 63, .pl], [.row 1 3, .pl], 1) else if f = 17 then some ([.pl, .pl, .pl, .pl, .pl, .pl, .pl, .pl, .pl, .pl, .pl, .pl, .row 4 59, .row 1 4, .row 1 4], [.pl], 0) else if f = 49 then some ([.pl, .pl, .pl, .pl, .pl, .pl, .pl, .pl, .pl, .pl, .pl, .pl, .row 4 59, .row 1 4, .row 1 4], [], 0) else if f = 50 then some ([.pl, .pl, .pl, .pl, .pl, .pl, .pl, .pl, .pl, .pl, .pl, .pl, .row 4 59, .row 1 4, .row 1 4], [], 0) else none⟩ 400 F.__kd_builder__node [.row 4 63, .pl] [.row 1 3, .pl] 1 = some ir___kd_builder__node := by kernel_rfl
theorem tree_kd_Build : symFunc Go.Proofs.Tryz.prog ⟨fun f => [28].contains f, fun f i => if f = 5 ∧ i = 6 then [⟨[(2, .s (.one (.lp 0 0))), (4, .s (.one (.lp 1 0))), (5, .s (.one (.own 2))), (15, .s (.one (.at (.var 0)))), (16, .s (.one (.at (.var 1))))], [], [(0, .box [.nils] 31 false), (1, .box [.nils, .at (.var 2)] 46 false), (2, .own (.var 3) 1 3)], 3, 4⟩] else [], fun f i => [], fun f => [33].contains f, fun f => if f = 14 then some ([.row 4 63, .pl], [.row 1 3, .pl], 1) else if f = 17 then some ([.pl, .pl, .pl, .pl, .pl, .pl, .pl, .pl, .pl, .pl, .pl, .pl, .row 4 59, .row 1 4, .row 1 4], [.pl], 0) else if f = 49 then some ([.pl, .pl, .pl, .pl, .pl, .pl, .pl, .pl, .pl, .pl, .pl, .pl, .row 4 59, .row 1 4, .row 1 4], [], 0) else if f = 50 then some ([.pl, .pl, .pl, .pl, .pl, .pl, .pl, .pl, .pl, .pl, .pl, .pl, .row 4 59, .row 1 4, .row 1 4], [], 0) else none⟩ 400 F.kd_Build [.one] = some ir_kd_Build := by kernel_rfl
end Go.Px
namespace Go.Px.Na
open Go.RowKit
open Go.Proofs.Tryz (prog)
theorem il_slc {ws : List Int} {k k' : IntKind} {lo hi : Int} (h0 : 0 ≤ lo) (h1 : lo ≤ hi) (h2 : hi ≤ ws.length) : Prim.den (.slc 1) [il ws, .int k lo, .int k' hi] = some (il ((ws.drop lo.toNat).take (hi - lo).toNat)) := by
  simp only [il, Prim.den]
  rw [if_pos ⟨h0, h1, h2, by simp⟩]
  simp only [Nat.mul_one, Option.some.injEq, DV.list.injEq, List.length_take, List.length_drop, List.map_take, List.map_drop, and_true]
  omega
theorem f_Clone (zs : List Int) (h : zs.length ≤ 1000000) : PureCalls prog F.slices_Clone___int_int_ [.one (il zs)] [.own 1 3 zs.length (zs.map (DV.int .i64))] := by
  refine symFunc_sound hmix tree_slices_Clone___int_int_ (by kernel_rfl) rfl ?_
  unfold ir_slices_Clone___int_int_
  try simp only [HH, gW, gD, V3.l, M4.l, Fr.l, Sp.l, RV.l, RM.l, RF.l, RS.l]
  refine nilq_step (n := zs.length) (cells := zs.map (DV.int .i64)) rfl (fun b hb => ?_)
  refine itb_step rfl (fun hb2 => ?_) (fun _ => ?_)
  · have hz : zs = [] := by simpa using hb hb2
    subst hz
    exact ret_step rfl
  · refine primS (il []) rfl ?_
    refine primS (il ([] ++ zs)) (il_app (by simp; omega)) ?_
    exact ret_step rfl
theorem fm_app {a b : List KN} (h : a.length + b.length ≤ 1000000) : Prim.den (.app 4 32) [kl a, kl b] = some (kl (a ++ b)) := by
  simp only [kl, Prim.den]
  rw [if_pos ⟨fm_len kn_len a, fm_len kn_len b, by omega⟩]
  simp
theorem fm_mid {a b : List KN} {n : KN} : (a ++ n :: b).flatMap KN.l = a.flatMap KN.l ++ (n.l ++ b.flatMap KN.l) := by simp
theorem kl_lf {a b : List KN} {n : KN} {k : IntKind} {x : Int} : Prim.den (.setl 4 2) [kl (a ++ n :: b), .int k (a.length : Int), .int .i64 x] = some (kl (a ++ { n with lf := x } :: b)) := by
  have hl := fm_len kn_len a
  simp only [kl, Prim.den]
  rw [if_pos ⟨by omega, by simp; omega, by rw [fm_mid]; simp [kn_len, hl]; omega⟩]
  simp only [setAt, Option.some.injEq, DV.list.injEq]
  refine ⟨by simp, ?_⟩
  rw [fm_mid, fm_mid, Int.toNat_natCast, ← hl, List.set_append_right _ _ (by omega), Nat.add_sub_cancel_left]
  rfl
theorem kl_rt {a b : List KN} {n : KN} {k : IntKind} {x : Int} : Prim.den (.setl 4 3) [kl (a ++ n :: b), .int k (a.length : Int), .int .i64 x] = some (kl (a ++ { n with rt := x } :: b)) := by
  have hl := fm_len kn_len a
  simp only [kl, Prim.den]
  rw [if_pos ⟨by omega, by simp; omega, by rw [fm_mid]; simp [kn_len, hl]; omega⟩]
  simp only [setAt, Option.some.injEq, DV.list.injEq]
  refine ⟨by simp, ?_⟩
  rw [fm_mid, fm_mid, Int.toNat_natCast, ← hl, List.set_append_right _ _ (by omega), Nat.add_sub_cancel_left]
  rfl

/-- The nodes that are made of points, from a place on, and the first one's place. -/
def bt (ps : List V3) : Nat → Nat → List Nat → Nat → List KN × Int
  | 0, _, _, _ => ([], -1)
  | f + 1, base, pts, deep =>
    if pts = [] then ([], -1) else
    let s := srt (le3 ps ((deep % 3 : Nat) : Int)) pts
    let h := pts.length / 2
    let L := bt ps f (base + 1) (s.take h) (deep + 1)
    let R := bt ps f (base + 1 + L.1.length) (s.drop (h + 1)) (deep + 1)
    (⟨(s.getD h 0 : Nat), ((deep % 3 : Nat) : Int), L.2, R.2⟩ :: (L.1 ++ R.1), (base : Int))
theorem bt_nil {ps : List V3} {f base deep : Nat} : bt ps f base [] deep = ([], -1) := by cases f <;> rfl
theorem bt_len {ps : List V3} : ∀ (f base : Nat) (pts : List Nat) (deep : Nat), pts.length ≤ f → (bt ps f base pts deep).1.length = pts.length
  | 0, base, pts, deep, h => by simp [bt]; omega
  | f + 1, base, pts, deep, h => by
    unfold bt
    split
    · rename_i hp; subst hp; rfl
    · rename_i hp
      have hpos : 0 < pts.length := List.length_pos_iff.2 hp
      have h1 := bt_len (ps := ps) f (base + 1) ((srt (le3 ps ((deep % 3 : Nat) : Int)) pts).take (pts.length / 2)) (deep + 1) (by rw [List.length_take, srt_len]; omega)
      simp only [List.length_cons, List.length_append, h1]
      rw [bt_len f _ _ (deep + 1) (by rw [List.length_drop, srt_len]; omega), List.length_take, List.length_drop, srt_len]
      omega
theorem bt_succ {ps : List V3} {f base : Nat} {pts : List Nat} {deep : Nat} (hp : pts ≠ []) : bt ps (f + 1) base pts deep =
    (⟨((srt (le3 ps ((deep % 3 : Nat) : Int)) pts).getD (pts.length / 2) 0 : Nat), ((deep % 3 : Nat) : Int), (bt ps f (base + 1) ((srt (le3 ps ((deep % 3 : Nat) : Int)) pts).take (pts.length / 2)) (deep + 1)).2,
      (bt ps f (base + 1 + (bt ps f (base + 1) ((srt (le3 ps ((deep % 3 : Nat) : Int)) pts).take (pts.length / 2)) (deep + 1)).1.length) ((srt (le3 ps ((deep % 3 : Nat) : Int)) pts).drop (pts.length / 2 + 1)) (deep + 1)).2⟩ ::
      ((bt ps f (base + 1) ((srt (le3 ps ((deep % 3 : Nat) : Int)) pts).take (pts.length / 2)) (deep + 1)).1 ++
        (bt ps f (base + 1 + (bt ps f (base + 1) ((srt (le3 ps ((deep % 3 : Nat) : Int)) pts).take (pts.length / 2)) (deep + 1)).1.length) ((srt (le3 ps ((deep % 3 : Nat) : Int)) pts).drop (pts.length / 2 + 1)) (deep + 1)).1), (base : Int)) := by
  rw [bt, if_neg hp]

theorem f_node {L : Nat} {rs : List RV} {ps : List V3} (H : NVs L rs ps) (hl : L ≤ LL) (hbig : rs.length ≤ 100000) : ∀ (f : Nat) (ns : List KN) (pts : List Nat) (deep : Nat), pts.length ≤ f → (∀ i ∈ pts, i < rs.length) → ns.length + pts.length ≤ 100000 → deep + pts.length ≤ 100000 →
    TurnCalls prog F.__kd_builder__node [.row 4 63, .pl] [.row 1 3, .pl] 1 [kl ns, vl rs, il (iz pts), .int .i64 (deep : Int)] [.int .i64 (bt ps f ns.length pts deep).2, kl (ns ++ (bt ps f ns.length pts deep).1), vl rs]
  | f, ns, pts, deep, hf, hin, hn, hd => by
    refine symTurn_sound hmix tree___kd_builder__node (by kernel_rfl) rfl ?_
    unfold ir___kd_builder__node
    refine primS (.int .i64 (pts.length : Int)) (by show some (DV.int .i64 (((iz pts).length : Nat) : Int)) = _; rw [iz_len]) ?_
    refine primS (.bool (decide ((pts.length : Int) = 0))) d_eql ?_
    refine itD rfl (fun c => ?_) (fun c => ?_)
    · have hp : pts = [] := List.eq_nil_of_length_eq_zero (by omega)
      subst hp
      refine ret_step ?_
      rw [bt_nil]
      simp only [List.append_nil]
      rfl
    · have hp : pts ≠ [] := fun h => c (by rw [h]; rfl)
      have hpos : 0 < pts.length := List.length_pos_iff.2 hp
      obtain ⟨f, rfl⟩ : ∃ q, f = q + 1 := ⟨f - 1, by omega⟩
      rw [bt_succ hp]
      refine primS (.int .i64 ((deep % 3 : Nat) : Int)) ((d_rem64 (by omega) (by omega)).trans (by simp)) ?_
      generalize hs : srt (le3 ps ((deep % 3 : Nat) : Int)) pts = s
      have hsl : s.length = pts.length := by rw [← hs, srt_len]
      have hsin : ∀ i ∈ s, i < rs.length := fun i hi => hin i (by rw [← hs] at hi; exact (srt_perm pts).mem_iff.1 hi)
      try simp only [List.cons_append, List.nil_append]
      refine sortc_step (n := (iz pts).length) (cs := (iz pts).map (DV.int .i64)) (cs' := (iz s).map (DV.int .i64)) rfl ?_ ?_
      · have := t_sortf (E := 3) H hl (by omega) ((deep % 3 : Nat) : Int) pts hp hin (by omega)
        rw [hs] at this
        exact this
      rw [show DV.list (iz pts).length ((iz s).map (DV.int .i64)) = il (iz s) by unfold il; rw [iz_len, iz_len, hsl]]
      try simp only [List.cons_append, List.nil_append]
      generalize hh : pts.length / 2 = h
      have hhl : h < pts.length := by omega
      refine primS (.int .i64 (pts.length : Int)) (by show some (DV.int .i64 (((iz s).length : Nat) : Int)) = _; rw [iz_len, hsl]) ?_
      refine primS (.int .i64 (h : Int)) ((d_quo64 (by omega) (by omega) (by omega)).trans (by rw [← hh]; simp)) ?_
      refine primS (.int .i64 (ns.length : Int)) rfl ?_
      try simp only [List.cons_append, List.nil_append]
      refine primS (.bool true) (il_inb (by omega) (by rw [iz_len]; omega)) ?_
      refine primS (.int .i64 ((s.getD h 0 : Nat) : Int)) ((il_get (by omega) (by rw [iz_len]; omega)).trans (by rw [Int.toNat_natCast, List.getD_eq_getElem?_getD, iz_get, List.getD_eq_getElem?_getD, List.getElem?_eq_getElem (show h < s.length by omega)]; rfl)) ?_
      refine primS (kl [KN.mk ((s.getD h 0 : Nat) : Int) ((deep % 3 : Nat) : Int) (-1) (-1)]) rfl ?_
      try simp only [List.cons_append, List.nil_append]
      refine primS (kl (ns ++ [KN.mk ((s.getD h 0 : Nat) : Int) ((deep % 3 : Nat) : Int) (-1) (-1)])) (fm_app (by simp; omega)) ?_
      refine primS (il (iz (s.take h))) ((il_slc (by omega) (by omega) (by rw [iz_len]; omega)).trans (by simp [iz, List.map_take])) ?_
      try simp only [List.cons_append, List.nil_append]
      refine call_step (f_Clone (iz (s.take h)) (by rw [iz_len, List.length_take]; omega)) rfl ?_
      simp only [fa_own, fa_nil, List.cons_append, List.nil_append]
      refine primS (.int .i64 ((deep + 1 : Nat) : Int)) ((d_add64 (by omega) (by omega)).trans (by simp)) ?_
      try simp only [List.cons_append, List.nil_append]
      have k1 := f_node H hl hbig f (ns ++ [KN.mk ((s.getD h 0 : Nat) : Int) ((deep % 3 : Nat) : Int) (-1) (-1)]) (s.take h) (deep + 1) (by rw [List.length_take]; omega) (fun i hi => hsin i (List.mem_of_mem_take hi)) (by simp; omega) (by rw [List.length_take]; omega)
      rw [show (ns ++ [(KN.mk ((s.getD h 0 : Nat) : Int) ((deep % 3 : Nat) : Int) (-1) (-1) : KN)]).length = ns.length + 1 by simp] at k1
      have hbl := bt_len (ps := ps) f (ns.length + 1) (s.take h) (deep + 1) (by rw [List.length_take]; omega)
      generalize hL : bt ps f (ns.length + 1) (s.take h) (deep + 1) = L1 at k1 hbl ⊢
      refine turn_step k1 ?_
      try simp only [List.cons_append, List.nil_append]
      refine primS (.int .i64 ((h + 1 : Nat) : Int)) ((d_add64 (by omega) (by omega)).trans (by simp)) ?_
      refine primS (.int .i64 (pts.length : Int)) (by show some (DV.int .i64 (((iz s).length : Nat) : Int)) = _; rw [iz_len, hsl]) ?_
      refine primS (il (iz (s.drop (h + 1)))) ((il_slc (by omega) (by omega) (by rw [iz_len]; omega)).trans (by rw [Int.toNat_natCast, List.take_of_length_le (by rw [List.length_drop, iz_len]; omega)]; simp [iz, List.map_drop])) ?_
      try simp only [List.cons_append, List.nil_append]
      try simp only [List.cons_append, List.nil_append]
      refine call_step (f_Clone (iz (s.drop (h + 1))) (by rw [iz_len, List.length_drop]; omega)) rfl ?_
      simp only [fa_own, fa_nil, List.cons_append, List.nil_append]
      refine primS (.int .i64 ((deep + 1 : Nat) : Int)) ((d_add64 (by omega) (by omega)).trans (by simp)) ?_
      try simp only [List.cons_append, List.nil_append]
      have k2 := f_node H hl hbig f (ns ++ [KN.mk ((s.getD h 0 : Nat) : Int) ((deep % 3 : Nat) : Int) (-1) (-1)] ++ L1.1) (s.drop (h + 1)) (deep + 1) (by rw [List.length_drop]; omega) (fun i hi => hsin i (List.mem_of_mem_drop hi)) (by simp [hbl]; omega) (by rw [List.length_drop]; omega)
      rw [show (ns ++ [(KN.mk ((s.getD h 0 : Nat) : Int) ((deep % 3 : Nat) : Int) (-1) (-1) : KN)] ++ L1.1).length = ns.length + 1 + L1.1.length by simp; omega] at k2
      have hbr := bt_len (ps := ps) f (ns.length + 1 + L1.1.length) (s.drop (h + 1)) (deep + 1) (by rw [List.length_drop]; omega)
      generalize hR : bt ps f (ns.length + 1 + L1.1.length) (s.drop (h + 1)) (deep + 1) = R1 at k2 hbr ⊢
      refine turn_step k2 ?_
      try simp only [List.cons_append, List.nil_append]
      have hlist : ∀ n : KN, ns ++ [n] ++ L1.1 ++ R1.1 = ns ++ n :: (L1.1 ++ R1.1) := fun n => by simp
      rw [hlist]
      refine primS (.bool true) (kl_inb (by omega) (by simp; omega)) ?_
      refine primS (kl (ns ++ KN.mk ((s.getD h 0 : Nat) : Int) ((deep % 3 : Nat) : Int) L1.2 (-1) :: (L1.1 ++ R1.1))) kl_lf ?_
      try simp only [List.cons_append, List.nil_append]
      refine primS (.bool true) (kl_inb (by omega) (by simp; omega)) ?_
      refine primS (kl (ns ++ KN.mk ((s.getD h 0 : Nat) : Int) ((deep % 3 : Nat) : Int) L1.2 R1.2 :: (L1.1 ++ R1.1))) kl_rt ?_
      exact ret_step rfl

/-- The tree that is built of points. -/
def tre (ps : List V3) : List KN := (bt ps ps.length 0 (List.range ps.length) 0).1
theorem tre_len (ps : List V3) : (tre ps).length = ps.length := by
  unfold tre; rw [bt_len _ _ _ _ (by simp)]; simp
theorem f_Build {L : Nat} {rs : List RV} {ps : List V3} (H : NVs L rs ps) (hl : L ≤ LL) (hm : rs.length ≤ 1000) : PureCalls prog F.kd_Build [.one (vl rs)] [.agg [kl (tre ps)], .one (.bool true)] := by
  refine symFunc_sound hmix tree_kd_Build (by kernel_rfl) rfl ?_
  unfold ir_kd_Build
  try simp only [HH, gW, gD, V3.l, M4.l, Fr.l, Sp.l, RV.l, RM.l, RF.l, RS.l]
  refine primS (.int .i64 (rs.length : Int)) rfl ?_
  refine primS (.bool false) (d_gtr.trans (by rw [decide_eq_false (by omega)])) ?_
  refine itF rfl ?_
  refine primS (.int .i64 (rs.length : Int)) rfl ?_
  refine loop_st (fun i : Nat => [.int .i64 (rs.length : Int), .int .i64 (i : Int), vl rs, il (iz (List.range i))]) (fun i => i ≤ rs.length) (fun i => rs.length - i) 0 (Nat.zero_le _) rfl (fun _ => rfl) fun i hi X hX => ?_
  by_cases hlt : i < rs.length
  · refine primS (.bool true) (d_lss.trans (by rw [decide_eq_true (by omega)])) ?_
    refine itT rfl ?_
    refine primS (il [(i : Int)]) rfl ?_
    refine primS (il (iz (List.range i) ++ [(i : Int)])) (il_app (by rw [iz_len]; simp; omega)) ?_
    refine primS (.int .i64 ((i + 1 : Nat) : Int)) ((d_add64 (by omega) (by omega)).trans (by simp)) ?_
    try simp only [List.cons_append, List.nil_append]
    have := hX (i + 1) (by omega) (by omega)
    rw [show iz (List.range (i + 1)) = iz (List.range i) ++ [(i : Int)] by rw [List.range_succ]; simp [iz]] at this
    exact jump_step rfl this
  · obtain rfl : i = rs.length := by omega
    refine primS (.bool false) (d_lss.trans (by rw [decide_eq_false (by omega)])) ?_
    refine itF rfl ?_
    have k := f_node H hl (by omega) rs.length [] (List.range rs.length) 0 (by simp) (fun i hi => List.mem_range.1 hi) (by simp; omega) (by simp; omega)
    refine turn_step k ?_
    refine ret_step ?_
    unfold tre
    rw [← H.len]
    rfl
end Go.Px.Na

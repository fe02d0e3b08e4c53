/- QBallBoth: the pairs of near points are just those of which the one is among the points near to the other one. -/
import Derived.Test.YtdkifeiejkikdaaHq
set_option maxRecDepth 20000
set_option maxHeartbeats 40000000
set_option linter.unusedVariables false
set_option linter.unusedSimpArgs false
namespace Go.Px
open Go.RowKit
def ir_penumbralaw22_BallBoth : IR :=
 .call F.ball_Pairs [.one (.var 0), .agg [.var 1, .var 2, .var 3], .one (.var 4), .agg [.var 14, .var 15, .var 16]] [.one, .one] <|
 .call F.penumbralaw22_fixed [] [.one] <|
 .prim .not [.var 19] <|
 .ite (.var 20) (
  .call F.penumbralaw22_fixed [] [.one] <|
  .ret [.one (.var 21)]) (
  .prim .len [.var 0] <|
  .prim (.bin .gtr) [.var 21, .int .i64 (40)] <|
  .ite (.var 22) (
   .call F.penumbralaw22_fixed [] [.one] <|
   .ret [.one (.var 23)]) (
   .prim (.mk 0) [] <|
   .loop [.var 17, .var 18, .int .i64 (0), .var 0, .var 1, .var 2, .var 3, .var 4, .var 5, .var 6, .var 7, .var 8, .var 9, .var 10, .var 11, .var 12, .var 13, .var 14, .var 15, .var 16, .var 23] (
    .prim .len [.var 3] <|
    .prim (.bin .lss) [.var 2, .var 21] <|
    .ite (.var 22) (
     .prim (.inb 9) [.var 3, .var 2] <|
     .prim (.get 9 0) [.var 3, .var 2] <|
     .prim (.get 9 1) [.var 3, .var 2] <|
     .prim (.get 9 2) [.var 3, .var 2] <|
     .prim (.get 9 3) [.var 3, .var 2] <|
     .prim (.get 9 4) [.var 3, .var 2] <|
     .prim (.get 9 5) [.var 3, .var 2] <|
     .prim (.get 9 6) [.var 3, .var 2] <|
     .prim (.get 9 7) [.var 3, .var 2] <|
     .prim (.get 9 8) [.var 3, .var 2] <|
     .call F.ball_Near [.one (.var 3), .agg [.var 4, .var 5, .var 6], .one (.var 7), .agg [.var 24, .var 25, .var 26, .var 27, .var 28, .var 29, .var 30, .var 31, .var 32], .agg [.var 17, .var 18, .var 19]] [.one, .one] <|
     .prim (.beq true) [.var 34, .var 1] <|
     .ite (.var 35) (
      .ret [.one (.bol false)]) (
      .loop [.var 0, .var 1, .var 2, .var 33, .int .i64 (0), .var 3, .var 4, .var 5, .var 6, .var 7, .var 8, .var 9, .var 10, .var 11, .var 12, .var 13, .var 14, .var 15, .var 16, .var 17, .var 18, .var 19, .var 20] (
       .prim .len [.var 3] <|
       .prim (.bin .lss) [.var 4, .var 23] <|
       .ite (.var 24) (
        .prim (.inb 1) [.var 3, .var 4] <|
        .prim (.get 1 0) [.var 3, .var 4] <|
        .prim (.bin .gtr) [.var 26, .var 2] <|
        .ite (.var 27) (
         .prim (.inb 1) [.var 3, .var 4] <|
         .prim (.get 1 0) [.var 3, .var 4] <|
         .prim (.mk 1) [.var 2, .var 29] <|
         .prim (.app 2 16) [.var 22, .var 30] <|
         .prim (.bin .add) [.var 4, .int .i64 (1)] <|
         .jump 1 [.var 0, .var 1, .var 2, .var 3, .var 32, .var 5, .var 6, .var 7, .var 8, .var 9, .var 10, .var 11, .var 12, .var 13, .var 14, .var 15, .var 16, .var 17, .var 18, .var 19, .var 20, .var 21, .var 31]) (
         .prim (.bin .add) [.var 4, .int .i64 (1)] <|
         .jump 1 [.var 0, .var 1, .var 2, .var 3, .var 28, .var 5, .var 6, .var 7, .var 8, .var 9, .var 10, .var 11, .var 12, .var 13, .var 14, .var 15, .var 16, .var 17, .var 18, .var 19, .var 20, .var 21, .var 22])) (
        .prim (.bin .add) [.var 2, .int .i64 (1)] <|
        .jump 0 [.var 0, .var 1, .var 25, .var 5, .var 6, .var 7, .var 8, .var 9, .var 10, .var 11, .var 12, .var 13, .var 14, .var 15, .var 16, .var 17, .var 18, .var 19, .var 20, .var 21, .var 22])))) (
     .call F.penumbraref22_Same [.one (.var 0), .one (.var 20)] [.one] <|
     .ret [.one (.var 23)]))))

theorem tree_penumbralaw22_BallBoth : symFunc Go.Proofs.Try.prog ⟨fun f => [69, 46, 23].contains f, fun f i => if f = 5 ∧ i = 6 then [⟨[(1, .s (.one (.lp 0 0))), (3, .s (.one (.at (.var 0)))), (4, .s (.one (.at (.var 1)))), (5, .s (.one (.own 1))), (6, .s (.one (.at (.var 2))))], [], [(0, .box [.at (.var 3), .at (.var 4), .at (.var 5), .at (.var 6), .at (.var 7), .at (.var 8), .at (.var 9), .at (.var 10), .at (.var 11), .at (.var 12), .at (.var 13), .at (.var 14), .at (.var 15), .at (.var 16), .at (.var 17), .at (.var 18), .at (.var 19)] 29 false), (1, .own (.var 20) 2 44)], 2, 21⟩] else if f = 5 ∧ i = 12 then [⟨[(1, .s (.one (.lp 0 0))), (3, .s (.one (.at (.var 0)))), (4, .s (.one (.at (.var 1)))), (5, .s (.one (.own 1))), (6, .s (.one (.at (.var 2)))), (7, .s (.one (.at (.var 3)))), (9, .s (.one (.at (.var 4))))], [], [(0, .box [.at (.var 5), .at (.var 6), .at (.var 7), .at (.var 8), .at (.var 9), .at (.var 10), .at (.var 11), .at (.var 12), .at (.var 13), .at (.var 14), .at (.var 15), .at (.var 16), .at (.var 17), .at (.var 18), .at (.var 19), .at (.var 20), .at (.var 21)] 29 false), (1, .own (.var 22) 2 44)], 2, 23⟩] else [], fun f i => [], fun f => [22].contains f⟩ 400 F.penumbralaw22_BallBoth [.agg 17] = some ir_penumbralaw22_BallBoth := by kernel_rfl
end Go.Px
namespace Go.Px.Na
open Go.RowKit
open Go.Proofs.Try (prog)
theorem pure_BallBoth {rs : List RV} {ps : List V3} {rsd rr2 : RR} {rp : RV} {p : V3} {s r2 : Rat} {n : Int} (hp : NVs 1048576 rs ps) (g : Num 1048576 rsd s) (h : NV 1048576 rp p) (hr : Num 1048576 rr2 r2) (hN : ps.length ≤ 1048576) :
    PureCalls prog F.penumbralaw22_BallBoth [.agg [vl rs, .bool rsd.neg, nl rsd.num, nl rsd.den, .int .i64 n, .bool rp.x.neg, nl rp.x.num, nl rp.x.den, .bool rp.y.neg, nl rp.y.num, nl rp.y.den, .bool rp.z.neg, nl rp.z.num, nl rp.z.den, .bool rr2.neg, nl rr2.num, nl rr2.den]] [.one (.bool true)] := by
  have hlen := hp.len
  have k1 := f_Pairs (n := n) hp hN g hr (by decide)
  have k2 := fun (rp : RV) (p : V3) (h : NV 1048576 rp p) => f_Near (n := n) hp hN g h hr (by decide)
  unfold bpairs at k1
  unfold bnear at k2
  -- what is told, whether there is an answer or not
  obtain ⟨b, near, all, e1, e2, e3, e4, e5⟩ : ∃ (b : Bool) (near : Nat → List Int) (all : List (Int × Int)), PureCalls prog F.ball_Pairs [.one (vl rs), .agg (gW [rsd]), .one (.int .i64 n), .agg (gW [rr2])] [.one (pl all), .one (.bool b)] ∧
      (∀ (i : Nat) (rp : RV), rs[i]? = some rp → PureCalls prog F.ball_Near [.one (vl rs), .agg (gW [rsd]), .one (.int .i64 n), .agg (gW rp.l), .agg (gW [rr2])] [.one (il (near i)), .one (.bool b)]) ∧
      (∀ i, (near i).length ≤ ps.length) ∧ all = (List.range ps.length).flatMap (fun i => ((near i).filter fun k => decide ((i : Int) < k)).map fun k => ((i : Int), k)) ∧ True := by
    by_cases bm : bmay ps s n r2
    · rw [if_pos bm] at k1
      refine ⟨true, fun i => nearL ps (ps.getD i o3) r2, _, k1, fun i rp hrp => ?_, fun i => nearL_len, rfl, trivial⟩
      obtain ⟨pt, hpt⟩ : ∃ pt, ps[i]? = some pt := ⟨_, List.getElem?_eq_getElem (by have := (List.getElem?_eq_some_iff.1 hrp).1; omega)⟩
      have := k2 rp pt (hp.at_ i rp pt hrp hpt)
      rw [if_pos bm] at this
      simp only [getD_of hpt]; exact this
    · rw [if_neg bm] at k1
      refine ⟨false, fun i => [], _, k1, fun i rp hrp => ?_, fun i => by simp, by simp, trivial⟩
      obtain ⟨pt, hpt⟩ : ∃ pt, ps[i]? = some pt := ⟨_, List.getElem?_eq_getElem (by have := (List.getElem?_eq_some_iff.1 hrp).1; omega)⟩
      have := k2 rp pt (hp.at_ i rp pt hrp hpt)
      rw [if_neg bm] at this
      exact this
  refine symFunc_sound hmix tree_penumbralaw22_BallBoth (by kernel_rfl) rfl ?_
  unfold ir_penumbralaw22_BallBoth
  try simp only [HH, gW, gD, V3.l, M4.l, Fr.l, Sp.l, RV.l, RM.l, RF.l, RS.l]
  refine call_step e1 rfl ?_
  try simp only [HH, gW, gD, V3.l, M4.l, Fr.l, Sp.l, RV.l, RM.l, RF.l, RS.l]
  refine call_step f_fixed22 rfl ?_
  try simp only [HH, gW, gD, V3.l, M4.l, Fr.l, Sp.l, RV.l, RM.l, RF.l, RS.l]
  refine primS (.bool false) rfl ?_
  refine itF rfl ?_
  refine primS (.int .i64 (rs.length : Int)) rfl ?_
  refine primS (.bool (decide _)) d_gtr ?_
  refine itD rfl (fun c1 => ?_) (fun c1 => ?_)
  · refine call_step f_fixed22 rfl ?_
    try simp only [HH, gW, gD, V3.l, M4.l, Fr.l, Sp.l, RV.l, RM.l, RF.l, RS.l]
    exact ret_step rfl
  refine primS (pl []) rfl ?_
  simp only [List.cons_append, List.nil_append]
  have hq : ∀ m, ((List.range m).flatMap (fun i => ((near i).filter fun k => decide ((i : Int) < k)).map fun k => ((i : Int), k))).length ≤ m * ps.length := fun m => by
    induction m with
    | zero => simp
    | succ m ih =>
      rw [List.range_succ, List.flatMap_append, List.length_append, Nat.succ_mul]
      have h1 := e3 m
      have h2 := List.length_filter_le (fun k => decide ((m : Int) < k)) (near m)
      simp only [List.flatMap_cons, List.flatMap_nil, List.append_nil, List.length_map]
      omega
  have hps : ∀ m, (List.range (m + 1)).flatMap (fun i => ((near i).filter fun k => decide ((i : Int) < k)).map fun k => ((i : Int), k)) = (List.range m).flatMap (fun i => ((near i).filter fun k => decide ((i : Int) < k)).map fun k => ((i : Int), k)) ++ (((near m).filter fun k => decide ((m : Int) < k)).map fun k => ((m : Int), k)) := fun m => by
    simp [List.range_succ, List.flatMap_append]
  have hz : (List.range 0).flatMap (fun i => ((near i).filter fun k => decide ((i : Int) < k)).map fun k => ((i : Int), k)) = [] := rfl
  generalize hG : (fun m => (List.range m).flatMap (fun i => ((near i).filter fun k => decide ((i : Int) < k)).map fun k => ((i : Int), k))) = G at *
  have hGd : ∀ m, (List.range m).flatMap (fun i => ((near i).filter fun k => decide ((i : Int) < k)).map fun k => ((i : Int), k)) = G m := fun m => by rw [← hG]
  simp only [hGd] at hq hps hz e4
  refine loop_st (fun i : Nat => [pl all, .bool b, .int .i64 (i : Int), vl rs, .bool rsd.neg, nl rsd.num, nl rsd.den, .int .i64 n, .bool rp.x.neg, nl rp.x.num, nl rp.x.den, .bool rp.y.neg, nl rp.y.num, nl rp.y.den, .bool rp.z.neg, nl rp.z.num, nl rp.z.den, .bool rr2.neg, nl rr2.num, nl rr2.den, pl (G i)])
    (fun i => i ≤ rs.length) (fun i => rs.length - i) 0 (Nat.zero_le _) (by rw [hz]; rfl) (fun _ => rfl) fun i hi X hX => ?_
  have hpl := hq i
  have hpl2 : i * ps.length ≤ 40 * 40 := Nat.mul_le_mul (by omega) (by omega)
  refine primS (.int .i64 (rs.length : Int)) rfl ?_
  by_cases hlt : i < rs.length
  · obtain ⟨r, hrr⟩ : ∃ r, rs[i]? = some r := ⟨_, List.getElem?_eq_getElem hlt⟩
    refine primS (.bool true) (d_lss.trans (by rw [decide_eq_true (by omega)])) ?_
    refine itT rfl ?_
    refine primS (.bool true) (fm_inb gV_len (by omega) (by omega)) ?_
    refine get_pt (x := .var 3) (i := .var 2) hrr (fun _ => rfl) (fun _ => rfl) ?_
    try simp only [HH, gW, gD, V3.l, M4.l, Fr.l, Sp.l, RV.l, RM.l, RF.l, RS.l]
    refine call_step (e2 i r hrr) rfl ?_
    try simp only [HH, gW, gD, V3.l, M4.l, Fr.l, Sp.l, RV.l, RM.l, RF.l, RS.l]
    refine primS (.bool false) (d_beqt.trans (by cases b <;> rfl)) ?_
    refine itF rfl ?_
    have hni := e3 i
    have hsu := hps i
    generalize near i = nr at *
    refine loop_st (fun j : Nat => [pl all, .bool b, .int .i64 (i : Int), il nr, .int .i64 (j : Int), vl rs, .bool rsd.neg, nl rsd.num, nl rsd.den, .int .i64 n, .bool rp.x.neg, nl rp.x.num, nl rp.x.den, .bool rp.y.neg, nl rp.y.num, nl rp.y.den, .bool rp.z.neg, nl rp.z.num, nl rp.z.den, .bool rr2.neg, nl rr2.num, nl rr2.den,
      pl (G i ++ (((nr.take j).filter fun k => decide ((i : Int) < k)).map fun k => ((i : Int), k)))])
      (fun j => j ≤ nr.length) (fun j => nr.length - j) 0 (Nat.zero_le _) (by rw [List.take_zero, List.filter_nil, List.map_nil, List.append_nil]; rfl) (fun _ => rfl) fun j hj Z hZ => ?_
    have hfl := List.length_filter_le (fun k => decide ((i : Int) < k)) (nr.take j)
    have hfl2 : (nr.take j).length ≤ nr.length := by rw [List.length_take]; omega
    refine primS (.int .i64 (nr.length : Int)) rfl ?_
    by_cases hlj : j < nr.length
    · obtain ⟨k, hk⟩ : ∃ k, nr[j]? = some k := ⟨_, List.getElem?_eq_getElem hlj⟩
      have hget : Prim.den (.get 1 0) [il nr, .int .i64 (j : Int)] = some (.int .i64 k) := (il_get (by omega) (by omega)).trans (by rw [Int.toNat_natCast, getD_of hk])
      refine primS (.bool true) (d_lss.trans (by rw [decide_eq_true (by omega)])) ?_
      refine itT rfl ?_
      refine primS (.bool true) (il_inb (by omega) (by omega)) ?_
      refine primS (.int .i64 k) hget ?_
      refine primS (.bool (decide _)) d_gtr ?_
      have htk : nr.take (j + 1) = nr.take j ++ [k] := by rw [List.take_add_one, hk]; rfl
      refine itD rfl (fun e => ?_) (fun e => ?_)
      · refine primS (.bool true) (il_inb (by omega) (by omega)) ?_
        refine primS (.int .i64 k) hget ?_
        refine primS (pl [((i : Int), k)]) rfl ?_
        refine primS (pl (G i ++ (((nr.take j).filter fun k => decide ((i : Int) < k)).map fun k => ((i : Int), k)) ++ [((i : Int), k)])) (pl_app (by rw [List.length_append, List.length_map]; simp only [List.length_cons, List.length_nil]; omega)) ?_
        refine primS (.int .i64 ((j + 1 : Nat) : Int)) ((d_add64 (by omega) (by omega)).trans (by simp)) ?_
        have := hZ (j + 1) hlj (by omega)
        rw [htk, List.filter_append, List.filter_cons, if_pos (decide_eq_true e), List.filter_nil, List.map_append, ← List.append_assoc] at this
        exact jump_step rfl this
      · refine primS (.int .i64 ((j + 1 : Nat) : Int)) ((d_add64 (by omega) (by omega)).trans (by simp)) ?_
        have := hZ (j + 1) hlj (by omega)
        rw [htk, List.filter_append, List.filter_cons, if_neg (by simpa using e), List.filter_nil, List.append_nil] at this
        exact jump_step rfl this
    · obtain rfl : j = nr.length := by omega
      refine primS (.bool false) (d_lss.trans (by rw [decide_eq_false (by omega)])) ?_
      refine itF rfl ?_
      refine primS (.int .i64 ((i + 1 : Nat) : Int)) ((d_add64 (by omega) (by omega)).trans (by simp)) ?_
      have := hX (i + 1) hlt (by omega)
      rw [hsu] at this
      rw [List.take_length]
      exact jump_step rfl this
  · obtain rfl : i = rs.length := by omega
    refine primS (.bool false) (d_lss.trans (by rw [decide_eq_false (by omega)])) ?_
    refine itF rfl ?_
    rw [hlen, ← e4]
    have ki := f_Same all all (by rw [e4]; rw [← hlen]; omega)
    rw [decide_eq_true rfl] at ki
    refine call_step ki rfl ?_
    try simp only [HH, gW, gD, V3.l, M4.l, Fr.l, Sp.l, RV.l, RM.l, RF.l, RS.l]
    exact ret_step rfl
end Go.Px.Na

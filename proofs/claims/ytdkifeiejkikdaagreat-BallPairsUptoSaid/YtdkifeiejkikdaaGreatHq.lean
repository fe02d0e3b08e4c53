/- Hq: points near to one another; what the document fixes. -/
import Derived.Test.YtdkifeiejkikdaaGreatHp
set_option maxRecDepth 40000
set_option maxHeartbeats 40000000
set_option linter.unusedVariables false
set_option linter.unusedSimpArgs false
namespace Go.Px
open Go.RowKit
def ir_penumbralaw22_three : IR :=
 .call F.vec_Of [.one (.int .i64 (0)), .one (.int .i64 (0)), .one (.int .i64 (0))] [.agg 9] <|
 .call F.vec_Of [.one (.int .i64 (1)), .one (.int .i64 (0)), .one (.int .i64 (0))] [.agg 9] <|
 .call F.vec_Of [.one (.int .i64 (3)), .one (.int .i64 (0)), .one (.int .i64 (0))] [.agg 9] <|
 .prim (.mk 3) [.var 0, .var 1, .var 2, .var 3, .var 4, .var 5, .var 6, .var 7, .var 8, .var 9, .var 10, .var 11, .var 12, .var 13, .var 14, .var 15, .var 16, .var 17, .var 18, .var 19, .var 20, .var 21, .var 22, .var 23, .var 24, .var 25, .var 26] <|
 .ret [.one (.var 27)]

def ir_penumbralaw22_fixed : IR :=
 .call F.penumbralaw22_three [] [.one] <|
 .call F.rat_Of [.one (.int .i64 (2)), .one (.int .i64 (1))] [.agg 3] <|
 .call F.vec_Of [.one (.int .i64 (0)), .one (.int .i64 (0)), .one (.int .i64 (0))] [.agg 9] <|
 .call F.rat_Of [.one (.int .i64 (1)), .one (.int .i64 (1))] [.agg 3] <|
 .call F.ball_Near [.one (.var 0), .agg [.var 1, .var 2, .var 3], .one (.int .i64 (7)), .agg [.var 4, .var 5, .var 6, .var 7, .var 8, .var 9, .var 10, .var 11, .var 12], .agg [.var 13, .var 14, .var 15]] [.one, .one] <|
 .call F.penumbralaw22_three [] [.one] <|
 .call F.rat_Of [.one (.int .i64 (2)), .one (.int .i64 (1))] [.agg 3] <|
 .call F.vec_Of [.one (.int .i64 (0)), .one (.int .i64 (0)), .one (.int .i64 (0))] [.agg 9] <|
 .call F.rat_Of [.one (.int .i64 (5)), .one (.int .i64 (1))] [.agg 3] <|
 .call F.ball_Near [.one (.var 18), .agg [.var 19, .var 20, .var 21], .one (.int .i64 (7)), .agg [.var 22, .var 23, .var 24, .var 25, .var 26, .var 27, .var 28, .var 29, .var 30], .agg [.var 31, .var 32, .var 33]] [.one, .one] <|
 .call F.penumbralaw22_three [] [.one] <|
 .call F.rat_Of [.one (.int .i64 (2)), .one (.int .i64 (1))] [.agg 3] <|
 .call F.rat_Of [.one (.int .i64 (4)), .one (.int .i64 (1))] [.agg 3] <|
 .call F.ball_Pairs [.one (.var 36), .agg [.var 37, .var 38, .var 39], .one (.int .i64 (1)), .agg [.var 40, .var 41, .var 42]] [.one, .one] <|
 .ite (.var 17) (
  .prim (.mk 2) [.int .i64 (0), .int .i64 (1)] <|
  .call F.penumbraref15_Ints [.one (.var 16), .one (.var 45)] [.one] <|
  .ite (.var 46) (
   .prim .not [.var 35] <|
   .ite (.var 47) (
    .ite (.var 44) (
     .prim (.mk 2) [.int .i64 (0), .int .i64 (1), .int .i64 (1), .int .i64 (2)] <|
     .call F.penumbraref22_Same [.one (.var 43), .one (.var 48)] [.one] <|
     .ite (.var 49) (
      .call F.vec_Of [.one (.int .i64 (1)), .one (.int .i64 (0)), .one (.int .i64 (0))] [.agg 9] <|
      .call F.vec_Of [.one (.int .i64 (0)), .one (.int .i64 (2)), .one (.int .i64 (0))] [.agg 9] <|
      .call F.ball_Far [.agg [.var 50, .var 51, .var 52, .var 53, .var 54, .var 55, .var 56, .var 57, .var 58], .agg [.var 59, .var 60, .var 61, .var 62, .var 63, .var 64, .var 65, .var 66, .var 67]] [.agg 3] <|
      .call F.penumbraref03_Of [.one (.int .i64 (5)), .one (.int .i64 (1))] [.agg 3] <|
      .call F.penumbraref03_Is [.agg [.var 68, .var 69, .var 70], .agg [.var 71, .var 72, .var 73]] [.one] <|
      .ret [.one (.var 74)]) (
      .ret [.one (.bol false)])) (
     .ret [.one (.bol false)])) (
    .ret [.one (.bol false)])) (
   .ret [.one (.bol false)])) (
  .ret [.one (.bol false)])

theorem tree_penumbralaw22_three : symFunc Go.Proofs.Tryz.prog ⟨fun f => [71, 50, 24].contains f, fun f i => [], fun f i => [], fun f => [23].contains f⟩ 400 F.penumbralaw22_three [] = some ir_penumbralaw22_three := by kernel_rfl
theorem tree_penumbralaw22_fixed : symFunc Go.Proofs.Tryz.prog ⟨fun f => [71, 50, 24].contains f, fun f i => [], fun f i => [], fun f => [23].contains f⟩ 400 F.penumbralaw22_fixed [] = some ir_penumbralaw22_fixed := by kernel_rfl
end Go.Px
namespace Go.Px.Na
open Go.RowKit
open Go.Proofs.Tryz (prog)
/-- A row of pairs. -/
def pc (x : Int × Int) : List DV := [.int .i64 x.1, .int .i64 x.2]
def pl (l : List (Int × Int)) : DV := .list l.length (l.flatMap pc)
theorem pc_len (x : Int × Int) : (pc x).length = 2 := rfl
theorem pl_app {a b : List (Int × Int)} (h : a.length + b.length ≤ 1099511627776) : Prim.den (.app 2 16) [pl a, pl b] = some (pl (a ++ b)) := by
  simp only [pl, Prim.den]
  rw [if_pos ⟨fm_len pc_len a, fm_len pc_len b, by omega⟩]
  simp
theorem pl_get {l : List (Int × Int)} {i off : Nat} {x : Int × Int} {k : IntKind} {d : DV} (hx : l[i]? = some x) (ho : off < 2) (hd : (pc x)[off]? = some d) : Prim.den (.get 2 off) [pl l, .int k (i : Int)] = some d := by
  have hi := (List.getElem?_eq_some_iff.1 hx).1
  simp only [pl, Prim.den]
  rw [if_pos ⟨by omega, by omega⟩, Int.toNat_natCast, fm_get pc_len off hx ho, hd]
theorem d_nes2 {a b c d : Int} : Prim.den (.nes [false, false]) [.int .i64 a, .int .i64 b, .int .i64 c, .int .i64 d] = some (.bool (decide (¬((a, b) : Int × Int) = (c, d)))) := by
  simp only [Prim.den, eqDVs, List.length_cons, List.length_nil, List.take, List.drop, if_true, Option.map_some]
  congr 2
  rw [Bool.eq_iff_iff]
  simp
theorem f_Same (a b : List (Int × Int)) (ha : a.length ≤ 1099511627776) : PureCalls prog F.penumbraref22_Same [.one (pl a), .one (pl b)] [.one (.bool (decide (a = b)))] := by
  refine symFunc_sound hmix tree_penumbraref22_Same (by kernel_rfl) rfl ?_
  unfold ir_penumbraref22_Same
  try simp only [HH, gW, gD, V3.l, M4.l, Fr.l, Sp.l, RV.l, RM.l, RF.l, RS.l]
  refine primS (.int .i64 (a.length : Int)) rfl ?_
  refine primS (.int .i64 (b.length : Int)) rfl ?_
  by_cases hl : a.length = b.length
  · refine primS (.bool false) (d_neq.trans (by rw [decide_eq_false (by omega)])) ?_
    refine itF rfl ?_
    refine loop_st (fun i : Nat => [pl a, pl b, .int .i64 (i : Int)]) (fun i => i ≤ a.length ∧ a.take i = b.take i) (fun i => a.length - i) 0 ⟨Nat.zero_le _, rfl⟩ rfl (fun _ => rfl) fun i hi X hX => ?_
    refine primS (.int .i64 (a.length : Int)) rfl ?_
    by_cases hlt : i < a.length
    · obtain ⟨x, hx⟩ : ∃ x, a[i]? = some x := ⟨_, List.getElem?_eq_getElem hlt⟩
      obtain ⟨y, hy⟩ : ∃ y, b[i]? = some y := ⟨_, List.getElem?_eq_getElem (by omega)⟩
      refine primS (.bool true) (d_lss.trans (by rw [decide_eq_true (by omega)])) ?_
      refine itT rfl ?_
      refine primS (.bool true) (fm_inb pc_len (by omega) (by omega)) ?_
      refine primS (.int .i64 x.1) (pl_get hx (by decide) rfl) ?_
      refine primS (.int .i64 x.2) (pl_get hx (by decide) rfl) ?_
      refine primS (.bool true) (fm_inb pc_len (by omega) (by omega)) ?_
      refine primS (.int .i64 y.1) (pl_get hy (by decide) rfl) ?_
      refine primS (.int .i64 y.2) (pl_get hy (by decide) rfl) ?_
      refine primS (.bool (decide (¬x = y))) d_nes2 ?_
      refine itD rfl (fun c => ?_) (fun c => ?_)
      · refine ret_step ?_
        rw [show decide (a = b) = false from decide_eq_false fun h => c (by rw [h, hy] at hx; exact (Option.some.inj hx).symm)]; rfl
      · refine primS (.int .i64 ((i + 1 : Nat) : Int)) ((d_add64 (by omega) (by omega)).trans (by simp)) ?_
        refine jump_step rfl (hX (i + 1) ⟨hlt, ?_⟩ (by omega))
        rw [List.take_add_one, List.take_add_one, hi.2, hx, hy, Classical.not_not.1 c]
    · refine primS (.bool false) (d_lss.trans (by rw [decide_eq_false (by omega)])) ?_
      refine itF rfl ?_
      refine ret_step ?_
      have := hi.2
      rw [List.take_of_length_le (by omega), List.take_of_length_le (by omega)] at this
      rw [decide_eq_true this]; rfl
  · refine primS (.bool true) (d_neq.trans (by rw [decide_eq_true (by omega)])) ?_
    refine itT rfl ?_
    refine ret_step ?_
    rw [show decide (a = b) = false from decide_eq_false fun h => hl (by rw [h])]; rfl
/-- The pairs of near points of which the first one is given. -/
def prow (ps : List V3) (r2 : Rat) (i : Nat) : List (Int × Int) := ((nearL ps (ps.getD i o3) r2).filter fun k => decide ((i : Int) < k)).map fun k => ((i : Int), k)
def prs (ps : List V3) (r2 : Rat) (m : Nat) : List (Int × Int) := (List.range m).flatMap (prow ps r2)
theorem nearL_len {ps : List V3} {c : V3} {r2 : Rat} : (nearL ps c r2).length ≤ ps.length := by
  unfold nearL
  rw [List.length_map]
  exact Nat.le_trans (List.length_filter_le _ _) (by simp)
theorem prow_len {ps : List V3} {r2 : Rat} {i : Nat} : (prow ps r2 i).length ≤ ps.length := by
  unfold prow
  rw [List.length_map]
  exact Nat.le_trans (List.length_filter_le _ _) nearL_len
theorem prs_succ {ps : List V3} {r2 : Rat} {m : Nat} : prs ps r2 (m + 1) = prs ps r2 m ++ prow ps r2 m := by
  simp [prs, List.range_succ, List.flatMap_append]
theorem prs_len {ps : List V3} {r2 : Rat} : ∀ m, (prs ps r2 m).length ≤ m * ps.length
  | 0 => by simp [prs]
  | m + 1 => by
    rw [prs_succ, List.length_append, Nat.succ_mul]
    have := prs_len (ps := ps) (r2 := r2) m
    have := prow_len (ps := ps) (r2 := r2) (i := m)
    omega
section
variable {L L2 L3 M : Nat} {rsd rr2 : RR} {s r2 : Rat} {n : Int} {rp : RV} {p : V3} {rs : List RV} {ps : List V3}
def bpairs (ps : List V3) (s : Rat) (n : Int) (r2 : Rat) : List AV := if bmay ps s n r2 then [.one (pl (prs ps r2 ps.length)), .one (.bool true)] else [.one (pl []), .one (.bool false)]
theorem f_Pairs (hp : NVs L rs ps) (hN : ps.length ≤ 1048576) (g : Num M rsd s) (hr : Num L3 rr2 r2) (hl : L ≤ 1000000000 ∧ M ≤ 1000000000 ∧ L3 ≤ 1000000000) :
    PureCalls prog F.ball_Pairs [.one (vl rs), .agg (gW [rsd]), .one (.int .i64 n), .agg (gW [rr2])] (bpairs ps s n r2) := by
  have no : ∀ {As : List (List DV → Prop)} {ρ : List DV}, ¬bmay ps s n r2 → IRwp prog As ρ (.ret [.one .nil, .one (.bol false)]) (fun x => x = bpairs ps s n r2) := fun hh => ret_step (by unfold bpairs; rw [if_neg hh]; rfl)
  have hlen := hp.len
  have kb := f_grid_Build (n := n) hp g hN ⟨Nat.le_trans hl.1 (by decide), Nat.le_trans hl.2.1 (by decide)⟩
  refine symFunc_sound hmix tree_ball_Pairs (by kernel_rfl) rfl ?_
  unfold ir_ball_Pairs
  simp only [HH, gW, RV.l, List.cons_append, List.nil_append]
  unfold bres at kb
  by_cases hb : gmay s n ∧ ps.length ≤ 1000
  · rw [if_pos hb] at kb
    refine call_step kb rfl ?_
    simp only [gd2, HH, List.cons_append, List.nil_append]
    refine primS (.bool false) rfl ?_
    refine itF rfl ?_
    refine call_step (f_rat_Sign hr (Nat.le_trans hl.2.2 (by decide))) rfl ?_
    simp only [HH, List.cons_append, List.nil_append]
    refine primS (.bool (decide _)) pr_lt ?_
    refine itD rfl (fun c1 => ?_) (fun c1 => ?_)
    · exact no fun hh => by have := hh.2.2.1; grind
    refine primS (rlN2 g g) rfl ?_
    refine cs1 (n_rat_Product_2 (g.mono (by unfold LL; omega)) (g.mono (by unfold LL; omega)) rfl) ?_
    simp only [HH, gD, List.cons_append, List.nil_append]
    have mP := Num.of (g.sm.mul g.sm)
    refine call_step (n_rat_Cmp (mP.mono (by unfold LL; omega)) (hr.mono (by unfold LL; omega))) rfl ?_
    simp only [HH, List.cons_append, List.nil_append]
    refine primS (.bool (decide (s * s < r2))) d_cmpQ_lt ?_
    refine itD rfl (fun c2 => ?_) (fun c2 => ?_)
    · exact no fun hh => by have := hh.2.2.2; grind
    have hm : bmay ps s n r2 := ⟨hb.1, hb.2, by grind, by grind⟩
    have hN2 := hb.2
    refine primS (.int .i64 (rs.length : Int)) rfl ?_
    simp only [List.cons_append, List.nil_append]
    have hkn := fun (rp : RV) (p : V3) (h : NV 1000000000 rp p) => f_near hb.1 hp hb.2 g h hr hm.2.2.2 ⟨hl.1, hl.2.1, by decide, hl.2.2⟩
    generalize bh n.toNat (slots ps s n) ps.length = H at *
    generalize bn n.toNat (slots ps s n) ps.length = X at *
    refine loop_st (fun i : Nat => [vl rs, .int .i64 (rs.length : Int), .int .i64 (i : Int), il H, il X, .bool rsd.neg, nl rsd.num, nl rsd.den, .bool rr2.neg, nl rr2.num, nl rr2.den, .int .i64 n, pl (prs ps r2 i)])
      (fun i => i ≤ ps.length) (fun i => ps.length - i) 0 (Nat.zero_le _) rfl (fun _ => rfl) fun i hi Y hY => ?_
    have hpl := prs_len (ps := ps) (r2 := r2) i
    have hpl2 : i * ps.length ≤ 1000 * 1000 := Nat.mul_le_mul (by omega) hN2
    by_cases hlt : i < ps.length
    · obtain ⟨r, hrr⟩ : ∃ r, rs[i]? = some r := ⟨_, List.getElem?_eq_getElem (by omega)⟩
      obtain ⟨pt, hpt⟩ : ∃ pt, ps[i]? = some pt := ⟨_, List.getElem?_eq_getElem hlt⟩
      refine primS (.bool true) (d_lss.trans (by rw [decide_eq_true (by omega)])) ?_
      refine itT rfl ?_
      refine primS (.bool true) (fm_inb gV_len (by omega) (by omega)) ?_
      refine get_pt (x := .var 0) (i := .var 2) hrr (fun _ => rfl) (fun _ => rfl) ?_
      simp only [gW, RV.l, List.cons_append, List.nil_append]
      refine call_step (hkn r pt ((hp.at_ i r pt hrr hpt).mono hl.1)) rfl ?_
      simp only [fa_ow, HH, List.cons_append, List.nil_append]
      have hrow : prow ps r2 i = ((nearL ps pt r2).filter fun k => decide ((i : Int) < k)).map fun k => ((i : Int), k) := by unfold prow; rw [getD_of hpt]
      have hkl := nearL_len (ps := ps) (c := pt) (r2 := r2)
      generalize nearL ps pt r2 = nr at *
      refine primS (.int .i64 (nr.length : Int)) rfl ?_
      simp only [List.cons_append, List.nil_append]
      refine loop_st (fun j : Nat => [.int .i64 (i : Int), vl rs, .int .i64 (rs.length : Int), .int .i64 (nr.length : Int), .int .i64 (j : Int), il H, il X, .bool rsd.neg, nl rsd.num, nl rsd.den, .bool rr2.neg, nl rr2.num, nl rr2.den, .int .i64 n,
        pl (prs ps r2 i ++ (((nr.take j).filter fun k => decide ((i : Int) < k)).map fun k => ((i : Int), k))), il nr])
        (fun j => j ≤ nr.length) (fun j => nr.length - j) 0 (Nat.zero_le _) (by rw [List.take_zero, List.filter_nil, List.map_nil, List.append_nil]; rfl) (fun _ => rfl) fun j hj Z hZ => ?_
      have hfl := List.length_filter_le (fun k => decide ((i : Int) < k)) (nr.take j)
      have hfl2 : (nr.take j).length ≤ nr.length := by rw [List.length_take]; omega
      by_cases hlj : j < nr.length
      · obtain ⟨k, hk⟩ : ∃ k, nr[j]? = some k := ⟨_, List.getElem?_eq_getElem hlj⟩
        refine primS (.bool true) (d_lss.trans (by rw [decide_eq_true (by omega)])) ?_
        refine itT rfl ?_
        refine primS (.bool true) (il_inb (by omega) (by omega)) ?_
        refine primS (.int .i64 k) ((il_get (by omega) (by omega)).trans (by rw [Int.toNat_natCast, getD_of hk])) ?_
        refine primS (.bool (decide _)) d_gtr ?_
        have htk : nr.take (j + 1) = nr.take j ++ [k] := by rw [List.take_add_one, hk]; rfl
        refine itD rfl (fun e => ?_) (fun e => ?_)
        · refine primS (pl [((i : Int), k)]) rfl ?_
          refine primS (pl (prs ps r2 i ++ (((nr.take j).filter fun k => decide ((i : Int) < k)).map fun k => ((i : Int), k)) ++ [((i : Int), k)])) (pl_app (by rw [List.length_append, List.length_map]; simp only [List.length_cons, List.length_nil]; omega)) ?_
          refine primS (.int .i64 ((j + 1 : Nat) : Int)) ((d_add64 (by omega) (by omega)).trans (by simp)) ?_
          have := hZ (j + 1) hlj (by omega)
          rw [htk, List.filter_append, List.filter_cons, if_pos (decide_eq_true e), List.filter_nil, List.map_append, ← List.append_assoc] at this
          exact jump_step rfl this
        · refine primS (.int .i64 ((j + 1 : Nat) : Int)) ((d_add64 (by omega) (by omega)).trans (by simp)) ?_
          have := hZ (j + 1) hlj (by omega)
          rw [htk, List.filter_append, List.filter_cons, if_neg (by simpa using e), List.filter_nil, List.append_nil] at this
          exact jump_step rfl this
      · obtain rfl : j = nr.length := by omega
        refine primS (.bool false) (d_lss.trans (by rw [decide_eq_false (by omega)])) ?_
        refine itF rfl ?_
        refine primS (.int .i64 ((i + 1 : Nat) : Int)) ((d_add64 (by omega) (by omega)).trans (by simp)) ?_
        have := hY (i + 1) hlt (by omega)
        rw [prs_succ, hrow] at this
        rw [List.take_length]
        exact jump_step rfl this
    · obtain rfl : i = ps.length := by omega
      refine primS (.bool false) (d_lss.trans (by rw [decide_eq_false (by omega)])) ?_
      refine itF rfl ?_
      exact ret_step (by unfold bpairs; rw [if_pos hm]; rfl)
  · rw [if_neg hb] at kb
    refine call_step kb rfl ?_
    simp only [gd2, HH, List.cons_append, List.nil_append]
    refine primS (.bool true) rfl ?_
    refine itT rfl ?_
    exact no fun hh => hb ⟨hh.1, hh.2.1⟩
end

/-! ### What the document fixes -/
def v3_ : V3 := ⟨3, 0, 0⟩
theorem S3_ : SV 1 v3_ := ⟨Smc (by decide +kernel) (by decide +kernel), Sm0, Sm0⟩
def th22_r : List RV := [cv o3, cv e1, cv v3_]
def th22_v : List V3 := [o3, e1, v3_]
theorem th22_nv : NVs 1 th22_r th22_v := ⟨rfl, fun i r p hr hp => by
  match i with
  | 0 => cases hr; cases hp; exact .of So3
  | 1 => cases hr; cases hp; exact .of Se1
  | 2 => cases hr; cases hp; exact .of S3_
  | i + 3 => cases hr⟩
theorem f_three22 : PureCalls prog F.penumbralaw22_three [] [.one (vl th22_r)] := by
  refine symFunc_sound hmix tree_penumbralaw22_three (by kernel_rfl) rfl ?_
  unfold ir_penumbralaw22_three
  try simp only [HH, gW, gD, V3.l, M4.l, Fr.l, Sp.l, RV.l, RM.l, RF.l, RS.l]
  refine cs3 (n_vec_Of (o0 := 0) (o1 := 0) (o2 := 0) 0 0 0 (by decide) (by decide) (by decide) (by decide) (by decide) (by decide) (by decide +kernel) (by decide +kernel) (by decide +kernel)) ?_
  try simp only [HH, gW, gD, V3.l, M4.l, Fr.l, Sp.l, RV.l, RM.l, RF.l, RS.l]
  refine cs3 (n_vec_Of (o0 := 1) (o1 := 0) (o2 := 0) 1 0 0 (by decide) (by decide) (by decide) (by decide) (by decide) (by decide) (by decide +kernel) (by decide +kernel) (by decide +kernel)) ?_
  try simp only [HH, gW, gD, V3.l, M4.l, Fr.l, Sp.l, RV.l, RM.l, RF.l, RS.l]
  refine cs3 (n_vec_Of (o0 := 3) (o1 := 0) (o2 := 0) 3 0 0 (by decide) (by decide) (by decide) (by decide) (by decide) (by decide) (by decide +kernel) (by decide +kernel) (by decide +kernel)) ?_
  try simp only [HH, gW, gD, V3.l, M4.l, Fr.l, Sp.l, RV.l, RM.l, RF.l, RS.l]
  refine primS (vl th22_r) rfl ?_
  exact ret_step rfl
theorem f_fixed22 : PureCalls prog F.penumbralaw22_fixed [] [.one (.bool true)] := by
  have m0 : Num 1 (cr 0) 0 := .of Sm0
  have m1 : Num 1 (cr 1) 1 := .of Sm1
  have m2 : Num 1 (cr 2) 2 := .of Sm2
  have m4 : Num 1 (cr 4) 4 := .of (Smc (by decide +kernel) (by decide +kernel))
  have m5 : Num 1 (cr 5) 5 := .of (Smc (by decide +kernel) (by decide +kernel))
  have k1 := f_Near (n := 7) th22_nv (by decide) m2 (.of So3) m1 (by decide)
  rw [show bnear th22_v 2 7 o3 1 = [.one (il [0, 1]), .one (.bool true)] from by
    unfold bnear
    rw [if_pos (by decide +kernel)]
    rw [show nearL th22_v o3 1 = [0, 1] by decide +kernel]] at k1
  have k2 := f_Near (n := 7) th22_nv (by decide) m2 (.of So3) m5 (by decide)
  rw [show bnear th22_v 2 7 o3 5 = [.one (il []), .one (.bool false)] from by
    unfold bnear
    rw [if_neg (by decide +kernel)]] at k2
  have k3 := f_Pairs (n := 1) th22_nv (by decide) m2 m4 (by decide)
  rw [show bpairs th22_v 2 1 4 = [.one (pl [(0, 1), (1, 2)]), .one (.bool true)] from by
    unfold bpairs
    rw [if_pos (by decide +kernel)]
    rw [show prs th22_v 4 th22_v.length = [(0, 1), (1, 2)] by decide +kernel]] at k3
  have ki := f_Ints [0, 1] [0, 1] (by decide)
  rw [decide_eq_true rfl] at ki
  have ks := f_Same [(0, 1), (1, 2)] [(0, 1), (1, 2)] (by decide)
  rw [decide_eq_true rfl] at ks
  have kf := f_ball_Far (a := cv e1) (b := cv ⟨0, 2, 0⟩) (u := e1) (v := ⟨0, 2, 0⟩) (.of Se1) (.of (L := 1) ⟨Sm0, Sm2, Sm0⟩) (by decide)
  rw [show far e1 ⟨0, 2, 0⟩ = 5 by decide +kernel] at kf
  have ke := f_Is_t (x := 5) (y := 5) rfl m5 m5 (by decide)
  refine symFunc_sound hmix tree_penumbralaw22_fixed (by kernel_rfl) rfl ?_
  unfold ir_penumbralaw22_fixed
  try simp only [HH, gW, gD, V3.l, M4.l, Fr.l, Sp.l, RV.l, RM.l, RF.l, RS.l]
  refine call_step f_three22 rfl ?_
  try simp only [HH, gW, gD, V3.l, M4.l, Fr.l, Sp.l, RV.l, RM.l, RF.l, RS.l]
  refine cs1 (n_rat_Of (k0 := 2) 2 1 (by decide) (by decide) (by decide) (by decide) (by decide +kernel)) ?_
  try simp only [HH, gW, gD, V3.l, M4.l, Fr.l, Sp.l, RV.l, RM.l, RF.l, RS.l]
  refine cs3 (n_vec_Of (o0 := 0) (o1 := 0) (o2 := 0) 0 0 0 (by decide) (by decide) (by decide) (by decide) (by decide) (by decide) (by decide +kernel) (by decide +kernel) (by decide +kernel)) ?_
  try simp only [HH, gW, gD, V3.l, M4.l, Fr.l, Sp.l, RV.l, RM.l, RF.l, RS.l]
  refine cs1 (n_rat_Of (k0 := 1) 1 1 (by decide) (by decide) (by decide) (by decide) (by decide +kernel)) ?_
  try simp only [HH, gW, gD, V3.l, M4.l, Fr.l, Sp.l, RV.l, RM.l, RF.l, RS.l]
  refine call_step k1 rfl ?_
  try simp only [HH, gW, gD, V3.l, M4.l, Fr.l, Sp.l, RV.l, RM.l, RF.l, RS.l]
  refine call_step f_three22 rfl ?_
  try simp only [HH, gW, gD, V3.l, M4.l, Fr.l, Sp.l, RV.l, RM.l, RF.l, RS.l]
  refine cs1 (n_rat_Of (k0 := 2) 2 1 (by decide) (by decide) (by decide) (by decide) (by decide +kernel)) ?_
  try simp only [HH, gW, gD, V3.l, M4.l, Fr.l, Sp.l, RV.l, RM.l, RF.l, RS.l]
  refine cs3 (n_vec_Of (o0 := 0) (o1 := 0) (o2 := 0) 0 0 0 (by decide) (by decide) (by decide) (by decide) (by decide) (by decide) (by decide +kernel) (by decide +kernel) (by decide +kernel)) ?_
  try simp only [HH, gW, gD, V3.l, M4.l, Fr.l, Sp.l, RV.l, RM.l, RF.l, RS.l]
  refine cs1 (n_rat_Of (k0 := 5) 5 1 (by decide) (by decide) (by decide) (by decide) (by decide +kernel)) ?_
  try simp only [HH, gW, gD, V3.l, M4.l, Fr.l, Sp.l, RV.l, RM.l, RF.l, RS.l]
  refine call_step k2 rfl ?_
  try simp only [HH, gW, gD, V3.l, M4.l, Fr.l, Sp.l, RV.l, RM.l, RF.l, RS.l]
  refine call_step f_three22 rfl ?_
  try simp only [HH, gW, gD, V3.l, M4.l, Fr.l, Sp.l, RV.l, RM.l, RF.l, RS.l]
  refine cs1 (n_rat_Of (k0 := 2) 2 1 (by decide) (by decide) (by decide) (by decide) (by decide +kernel)) ?_
  try simp only [HH, gW, gD, V3.l, M4.l, Fr.l, Sp.l, RV.l, RM.l, RF.l, RS.l]
  refine cs1 (n_rat_Of (k0 := 4) 4 1 (by decide) (by decide) (by decide) (by decide) (by decide +kernel)) ?_
  try simp only [HH, gW, gD, V3.l, M4.l, Fr.l, Sp.l, RV.l, RM.l, RF.l, RS.l]
  refine call_step k3 rfl ?_
  try simp only [HH, gW, gD, V3.l, M4.l, Fr.l, Sp.l, RV.l, RM.l, RF.l, RS.l]
  refine itT rfl ?_
  refine primS (il [0, 1]) rfl ?_
  refine call_step ki rfl ?_
  try simp only [HH, gW, gD, V3.l, M4.l, Fr.l, Sp.l, RV.l, RM.l, RF.l, RS.l]
  refine itT rfl ?_
  refine primS (.bool true) rfl ?_
  refine itT rfl ?_
  refine itT rfl ?_
  refine primS (pl [(0, 1), (1, 2)]) rfl ?_
  refine call_step ks rfl ?_
  try simp only [HH, gW, gD, V3.l, M4.l, Fr.l, Sp.l, RV.l, RM.l, RF.l, RS.l]
  refine itT rfl ?_
  refine cs3 (n_vec_Of (o0 := 1) (o1 := 0) (o2 := 0) 1 0 0 (by decide) (by decide) (by decide) (by decide) (by decide) (by decide) (by decide +kernel) (by decide +kernel) (by decide +kernel)) ?_
  try simp only [HH, gW, gD, V3.l, M4.l, Fr.l, Sp.l, RV.l, RM.l, RF.l, RS.l]
  refine cs3 (n_vec_Of (o0 := 0) (o1 := 2) (o2 := 0) 0 2 0 (by decide) (by decide) (by decide) (by decide) (by decide) (by decide) (by decide +kernel) (by decide +kernel) (by decide +kernel)) ?_
  try simp only [HH, gW, gD, V3.l, M4.l, Fr.l, Sp.l, RV.l, RM.l, RF.l, RS.l]
  refine call_step kf rfl ?_
  try simp only [HH, gW, gD, V3.l, M4.l, Fr.l, Sp.l, RV.l, RM.l, RF.l, RS.l]
  refine cs1 (n_penumbraref03_Of (k0 := 5) 5 1 (by decide) (by decide) (by decide) (by decide) (by decide +kernel)) ?_
  try simp only [HH, gW, gD, V3.l, M4.l, Fr.l, Sp.l, RV.l, RM.l, RF.l, RS.l]
  refine call_step ke rfl ?_
  try simp only [HH, gW, gD, V3.l, M4.l, Fr.l, Sp.l, RV.l, RM.l, RF.l, RS.l]
  exact ret_step rfl
end Go.Px.Na

/- Gb: grids built: the program's answer and the document's. -/
import Derived.Test.YtdkifeiejkikdaaGreatGs
set_option maxRecDepth 20000
set_option maxHeartbeats 4000000
set_option linter.unusedVariables false
set_option linter.unusedSimpArgs false
namespace Go.Px
open Go.RowKit
def ir_grid_empty : IR :=
 .loop [.var 0, .int .i64 (0), .nil] (
  .prim (.bin .lss) [.var 1, .var 0] <|
  .ite (.var 3) (
   .prim (.mk 1) [.int .i64 (-1)] <|
   .prim (.app 1 8) [.var 2, .var 4] <|
   .prim (.bin .add) [.var 1, .int .i64 (1)] <|
   .jump 0 [.var 0, .var 6, .var 5]) (
   .ret [.own 1 3 (.var 2)]))

def ir_grid_Build : IR :=
 .call F.grid_may [.agg [.var 1, .var 2, .var 3], .one (.var 4)] [.one] <|
 .prim .not [.var 5] <|
 .ite (.var 6) (
  .ret [.agg [.nil, .nil], .one (.bol false)]) (
  .prim .len [.var 0] <|
  .prim (.bin .gtr) [.var 7, .int .i64 (1000)] <|
  .ite (.var 8) (
   .ret [.agg [.nil, .nil], .one (.bol false)]) (
   .call F.grid_empty [.one (.var 4)] [.own 1 3] <|
   .prim .len [.var 0] <|
   .call F.grid_empty [.one (.var 10)] [.own 1 3] <|
   .prim .len [.var 0] <|
   .loop [.var 4, .var 0, .var 12, .int .i64 (0), .var 1, .var 2, .var 3, .var 9, .var 11] (
    .prim (.bin .lss) [.var 3, .var 2] <|
    .ite (.var 9) (
     .prim (.inb 9) [.var 1, .var 3] <|
     .prim (.get 9 0) [.var 1, .var 3] <|
     .prim (.get 9 1) [.var 1, .var 3] <|
     .prim (.get 9 2) [.var 1, .var 3] <|
     .prim (.get 9 3) [.var 1, .var 3] <|
     .prim (.get 9 4) [.var 1, .var 3] <|
     .prim (.get 9 5) [.var 1, .var 3] <|
     .prim (.get 9 6) [.var 1, .var 3] <|
     .prim (.get 9 7) [.var 1, .var 3] <|
     .prim (.get 9 8) [.var 1, .var 3] <|
     .call F.grid_Slot [.agg [.var 11, .var 12, .var 13, .var 14, .var 15, .var 16, .var 17, .var 18, .var 19], .agg [.var 4, .var 5, .var 6], .one (.var 0)] [.one, .one] <|
     .prim (.inb 1) [.var 7, .var 20] <|
     .prim (.get 1 0) [.var 7, .var 20] <|
     .prim (.inb 1) [.var 8, .var 3] <|
     .prim (.setl 1 0) [.var 8, .var 3, .var 23] <|
     .prim (.inb 1) [.var 7, .var 20] <|
     .prim (.setl 1 0) [.var 7, .var 20, .var 3] <|
     .prim (.bin .add) [.var 3, .int .i64 (1)] <|
     .jump 0 [.var 0, .var 1, .var 2, .var 28, .var 4, .var 5, .var 6, .var 27, .var 25]) (
     .ret [.agg [.var 7, .var 8], .one (.bol true)]))))

def ir_penumbraref15_Ints : IR :=
 .prim .len [.var 0] <|
 .prim .len [.var 1] <|
 .prim (.bin .neq) [.var 2, .var 3] <|
 .ite (.var 4) (
  .ret [.one (.bol false)]) (
  .loop [.var 0, .var 1, .int .i64 (0)] (
   .prim .len [.var 0] <|
   .prim (.bin .lss) [.var 2, .var 3] <|
   .ite (.var 4) (
    .prim (.inb 1) [.var 0, .var 2] <|
    .prim (.get 1 0) [.var 0, .var 2] <|
    .prim (.inb 1) [.var 1, .var 2] <|
    .prim (.get 1 0) [.var 1, .var 2] <|
    .prim (.bin .neq) [.var 6, .var 8] <|
    .ite (.var 9) (
     .ret [.one (.bol false)]) (
     .prim (.bin .add) [.var 2, .int .i64 (1)] <|
     .jump 0 [.var 0, .var 1, .var 10])) (
    .ret [.one (.bol true)])))

theorem tree_grid_empty : symFunc Go.Proofs.Tryz.prog ⟨fun f => [71, 50, 24].contains f, fun f i => if f = 71 ∧ i = 3 then [⟨[(3, .s (.one (.own 0))), (4, .s (.one (.at (.var 0)))), (5, .s (.one (.at (.var 1))))], [], [(0, .own (.var 2) 1 3)], 1, 3⟩] else [], fun f i => [], fun f => [23].contains f⟩ 400 F.grid_empty [.one] = some ir_grid_empty := by kernel_rfl
theorem tree_grid_Build : symFunc Go.Proofs.Tryz.prog ⟨fun f => [71, 50, 24].contains f, fun f i => if f = 46 ∧ i = 5 then [⟨[(2, .s (.one (.at (.var 0)))), (4, .s (.one (.lp 0 0))), (6, .s (.one (.lp 1 0))), (8, .s (.one (.lp 2 0))), (29, .s (.one (.at (.var 1)))), (30, .s (.one (.at (.var 2)))), (31, .s (.one (.at (.var 3))))], [], [(0, .box [.at (.var 4), .at (.var 5), .at (.var 6)] 25 false), (1, .box [.nils, .nils] 79 false), (2, .box [.own 3, .own 4] 79 false), (3, .own (.var 7) 1 3), (4, .own (.var 8) 1 3)], 5, 9⟩] else [], fun f i => [], fun f => [23].contains f⟩ 400 F.grid_Build [.one, .agg 3, .one] = some ir_grid_Build := by kernel_rfl
theorem tree_penumbraref15_Ints : symFunc Go.Proofs.Tryz.prog ⟨fun f => [71, 50, 24].contains f, fun f i => if f = 10 ∧ i = 4 then [⟨[(0, .s (.one (.at (.var 0)))), (1, .s (.one (.at (.var 1)))), (5, .s (.one (.at (.var 2))))], [], [], 0, 3⟩] else [], fun f i => [], fun f => [23].contains f⟩ 400 F.penumbraref15_Ints [.one, .one] = some ir_penumbraref15_Ints := by kernel_rfl
end Go.Px
namespace Go.Px.Na
open Go.RowKit
open Go.Proofs.Tryz (prog)

/-- A row of whole numbers. -/
def il (ws : List Int) : DV := .list ws.length (ws.map (DV.int .i64))
theorem il_inb {ws : List Int} {k : IntKind} {i : Int} (h0 : 0 ≤ i) (h : i < ws.length) : Prim.den (.inb 1) [il ws, .int k i] = some (.bool true) := by
  simp only [il, Prim.den]
  rw [if_pos ⟨h0, h, by simp; omega⟩]
theorem il_get {ws : List Int} {k : IntKind} {i : Int} (h0 : 0 ≤ i) (h : i < ws.length) : Prim.den (.get 1 0) [il ws, .int k i] = some (.int .i64 (ws.getD i.toNat 0)) := by
  simp only [il, Prim.den]
  rw [if_pos ⟨h0, h⟩]
  have : i.toNat < ws.length := by omega
  simp [List.getD_eq_getElem?_getD, List.getElem?_eq_getElem this]
theorem il_set {ws : List Int} {k : IntKind} {i x : Int} (h0 : 0 ≤ i) (h : i < ws.length) : Prim.den (.setl 1 0) [il ws, .int k i, .int .i64 x] = some (il (ws.set i.toNat x)) := by
  have hc : 0 ≤ i ∧ i < (ws.length : Int) ∧ i.toNat * 1 + 0 + [DV.int .i64 x].length ≤ (ws.map (DV.int .i64)).length := ⟨h0, h, by simp; omega⟩
  simp only [il, Prim.den]
  rw [if_pos hc]
  simp [setAt, List.map_set]
theorem il_app {a b : List Int} (h : a.length + b.length ≤ 1099511627776) : Prim.den (.app 1 8) [il a, il b] = some (il (a ++ b)) := by
  simp only [il, Prim.den]
  rw [if_pos ⟨by simp, by simp, by omega⟩]
  simp
/-- A row of points. -/
def vl (l : List RV) : DV := .list l.length (l.flatMap fun r => gW r.l)
theorem gV_len (r : RV) : (gW r.l).length = 9 := rfl
structure NVs (L : Nat) (rs : List RV) (ps : List V3) : Prop where
  len : rs.length = ps.length
  at_ : ∀ (i : Nat) (r : RV) (p : V3), rs[i]? = some r → ps[i]? = some p → NV L r p
section
variable {P : Program} {As : List (List DV → Prop)} {ρ : List DV} {Q : List AV → Prop}
/-- A point out of a row. -/
theorem get_pt {x i : Px.A} {rs : List RV} {ki : IntKind} {j : Nat} {k : IR} {r : RV} (hr : rs[j]? = some r) (hx : ∀ l, Px.A.ev (ρ ++ l) x = vl rs) (hi : ∀ l, Px.A.ev (ρ ++ l) i = .int ki (j : Int)) (hk : IRwp P As (ρ ++ gW r.l) k Q) : IRwp P As ρ (getsI x i 9 9 0 k) Q :=
  gets_ok (by omega) (by have := (List.getElem?_eq_some_iff.1 hr).1; omega) 9 0 ρ (gW r.l) hx hi rfl (fun t ht => by rw [Int.toNat_natCast, Nat.zero_add]; exact fm_get gV_len t hr ht) hk
end

/-! ### What is built -/
/-- The heads after so many points. -/
def bh (n : Nat) (ss : List Int) : Nat → List Int
  | 0 => List.replicate n (-1)
  | i + 1 => (bh n ss i).set (ss.getD i 0).toNat i
/-- The next ones of so many points. -/
def bn (n : Nat) (ss : List Int) : Nat → List Int
  | 0 => []
  | i + 1 => bn n ss i ++ [(bh n ss i).getD (ss.getD i 0).toNat 0]
theorem bh_len (n : Nat) (ss : List Int) : ∀ i, (bh n ss i).length = n
  | 0 => by simp [bh]
  | i + 1 => by simp [bh, bh_len n ss i]
theorem bn_len (n : Nat) (ss : List Int) : ∀ i, (bn n ss i).length = i
  | 0 => rfl
  | i + 1 => by simp [bn, bn_len n ss i]
/-- The slots of points. -/
def slots (ps : List V3) (s : Rat) (n : Int) : List Int := ps.map fun p => slot p s n
theorem slots_get {ps : List V3} {s : Rat} {n : Int} {i : Nat} {p : V3} (h : ps[i]? = some p) : (slots ps s n).getD i 0 = slot p s n := by
  simp [slots, List.getD_eq_getElem?_getD, h]
def gd2 (h n : List Int) : AV := .agg [il h, il n]
/-- What building answers. -/
def bres (ps : List V3) (s : Rat) (n : Int) : List AV :=
  if gmay s n ∧ ps.length ≤ 1000 then [gd2 (bh n.toNat (slots ps s n) ps.length) (bn n.toNat (slots ps s n) ps.length), .one (.bool true)] else [gd2 [] [], .one (.bool false)]

theorem f_grid_empty (n : Nat) (hn : n ≤ 1099511627776) : PureCalls prog F.grid_empty [.one (.int .i64 (n : Int))] [.own 1 3 n ((List.replicate n (-1)).map (DV.int .i64))] := by
  refine symFunc_sound hmix tree_grid_empty (by kernel_rfl) rfl ?_
  unfold ir_grid_empty
  try simp only [HH, gW, gD, V3.l, M4.l, Fr.l, Sp.l, RV.l, RM.l, RF.l, RS.l]
  refine loop_st (fun i : Nat => [.int .i64 (n : Int), .int .i64 (i : Int), il (List.replicate i (-1))]) (fun i => i ≤ n) (fun i => n - i) 0 (Nat.zero_le _) rfl (fun _ => rfl) fun i hi X hX => ?_
  by_cases hlt : i < n
  · refine primS (.bool true) (d_lss.trans (by rw [decide_eq_true (by omega)])) ?_
    refine itT rfl ?_
    refine primS (il [-1]) rfl ?_
    refine primS (il (List.replicate i (-1) ++ [-1])) (il_app (by simp; omega)) ?_
    refine primS (.int .i64 ((i + 1 : Nat) : Int)) ((d_add64 (by omega) (by omega)).trans (by simp)) ?_
    have := hX (i + 1) (by omega) (by omega)
    rw [List.replicate_succ'] at this
    exact jump_step rfl this
  · obtain rfl : i = n := by omega
    refine primS (.bool false) (d_lss.trans (by rw [decide_eq_false (by omega)])) ?_
    refine itF rfl ?_
    refine ret_step ?_
    show [AV.own 1 3 (List.replicate i (-1 : Int)).length _] = _
    rw [List.length_replicate]
theorem f_Ints (a b : List Int) (ha : a.length ≤ 1099511627776) : PureCalls prog F.penumbraref15_Ints [.one (il a), .one (il b)] [.one (.bool (decide (a = b)))] := by
  refine symFunc_sound hmix tree_penumbraref15_Ints (by kernel_rfl) rfl ?_
  unfold ir_penumbraref15_Ints
  try simp only [HH, gW, gD, V3.l, M4.l, Fr.l, Sp.l, RV.l, RM.l, RF.l, RS.l]
  refine primS (.int .i64 (a.length : Int)) rfl ?_
  refine primS (.int .i64 (b.length : Int)) rfl ?_
  by_cases hl : a.length = b.length
  · refine primS (.bool false) (d_neq.trans (by rw [decide_eq_false (by omega)])) ?_
    refine itF rfl ?_
    refine loop_st (fun i : Nat => [il a, il b, .int .i64 (i : Int)]) (fun i => i ≤ a.length ∧ a.take i = b.take i) (fun i => a.length - i) 0 ⟨Nat.zero_le _, rfl⟩ rfl (fun _ => rfl) fun i hi X hX => ?_
    refine primS (.int .i64 (a.length : Int)) rfl ?_
    by_cases hlt : i < a.length
    · refine primS (.bool true) (d_lss.trans (by rw [decide_eq_true (by omega)])) ?_
      refine itT rfl ?_
      refine primS (.bool true) (il_inb (by omega) (by omega)) ?_
      refine primS _ (il_get (by omega) (by omega)) ?_
      refine primS (.bool true) (il_inb (by omega) (by omega)) ?_
      refine primS _ (il_get (by omega) (by omega)) ?_
      rw [Int.toNat_natCast]
      have ea : a[i]? = some (a.getD i 0) := by simp [List.getD_eq_getElem?_getD, List.getElem?_eq_getElem hlt]
      have eb : b[i]? = some (b.getD i 0) := by simp [List.getD_eq_getElem?_getD, List.getElem?_eq_getElem (show i < b.length by omega)]
      refine primS (.bool (decide _)) d_neq ?_
      refine itD rfl (fun c => ?_) (fun c => ?_)
      · refine ret_step ?_
        rw [show decide (a = b) = false from decide_eq_false fun h => c (by rw [h])]; rfl
      · refine primS (.int .i64 ((i + 1 : Nat) : Int)) ((d_add64 (by omega) (by omega)).trans (by simp)) ?_
        refine jump_step rfl (hX (i + 1) ⟨hlt, ?_⟩ (by omega))
        rw [List.take_add_one, List.take_add_one, hi.2, ea, eb, Classical.not_not.1 c]
    · refine primS (.bool false) (d_lss.trans (by rw [decide_eq_false (by omega)])) ?_
      refine itF rfl ?_
      refine ret_step ?_
      have := hi.2
      rw [List.take_of_length_le (by omega), List.take_of_length_le (by omega)] at this
      rw [decide_eq_true this]; rfl
  · refine primS (.bool true) (d_neq.trans (by rw [decide_eq_true (by omega)])) ?_
    refine itT rfl ?_
    refine ret_step ?_
    rw [show decide (a = b) = false from decide_eq_false fun h => hl (by rw [h])]; rfl
section
variable {L M : Nat} {rsd : RR} {s : Rat} {n : Int} {rs : List RV} {ps : List V3}
theorem bn_pad {n N i : Nat} {ss : List Int} (h : i < N) : (bn n ss i ++ List.replicate (N - i) (-1)).set i ((bh n ss i).getD (ss.getD i 0).toNat 0) = bn n ss (i + 1) ++ List.replicate (N - (i + 1)) (-1) := by
  rw [List.set_append_right _ _ (by rw [bn_len]; omega), bn_len, Nat.sub_self, show N - i = (N - (i + 1)) + 1 by omega, List.replicate_succ, List.set_cons_zero, bn, List.append_assoc]
  rfl
theorem f_grid_Build (hp : NVs L rs ps) (g : Num M rsd s) (hN : ps.length ≤ 1048576) (hl : L ≤ 10000000000 ∧ M ≤ 10000000000) : PureCalls prog F.grid_Build [.one (vl rs), .agg (gW [rsd]), .one (.int .i64 n)] (bres ps s n) := by
  have hlen := hp.len
  refine symFunc_sound hmix tree_grid_Build (by kernel_rfl) rfl ?_
  unfold ir_grid_Build
  try simp only [HH, gW, gD, V3.l, M4.l, Fr.l, Sp.l, RV.l, RM.l, RF.l, RS.l]
  refine call_step (f_grid_may g (Nat.le_trans hl.2 (by decide))) rfl ?_
  try simp only [HH, gW, gD, V3.l, M4.l, Fr.l, Sp.l, RV.l, RM.l, RF.l, RS.l]
  refine primS (.bool (!_)) rfl ?_
  refine itN rfl (fun c => ?_) (fun c => ?_)
  · refine ret_step ?_
    unfold bres; rw [if_neg (fun h => c h.1)]; rfl
  refine primS (.int .i64 (rs.length : Int)) rfl ?_
  refine primS (.bool (decide _)) d_gtr ?_
  refine itD rfl (fun c2 => ?_) (fun c2 => ?_)
  · refine ret_step ?_
    unfold bres; rw [if_neg (fun h => by have := h.2; omega)]; rfl
  unfold bres
  rw [if_pos ⟨c, by omega⟩]
  obtain ⟨m, rfl⟩ : ∃ m : Nat, n = (m : Int) := ⟨n.toNat, by have := c.2.1; omega⟩
  have hm := c.2
  refine call_step (f_grid_empty m (by omega)) rfl ?_
  try simp only [HH, gW, gD, V3.l, M4.l, Fr.l, Sp.l, RV.l, RM.l, RF.l, RS.l]
  refine primS (.int .i64 (rs.length : Int)) rfl ?_
  refine call_step (f_grid_empty rs.length (by omega)) rfl ?_
  try simp only [HH, gW, gD, V3.l, M4.l, Fr.l, Sp.l, RV.l, RM.l, RF.l, RS.l]
  refine primS (.int .i64 (rs.length : Int)) rfl ?_
  rw [Int.toNat_natCast]
  generalize hss : slots ps s (m : Int) = ss
  refine loop_st (fun i : Nat => [.int .i64 (m : Int), vl rs, .int .i64 (rs.length : Int), .int .i64 (i : Int), .bool rsd.neg, nl rsd.num, nl rsd.den, il (bh m ss i), il (bn m ss i ++ List.replicate (rs.length - i) (-1))])
    (fun i => i ≤ rs.length) (fun i => rs.length - i) 0 (Nat.zero_le _) (by show _ = [_, _, _, _, _, _, _, DV.list (List.replicate m (-1 : Int)).length _, DV.list ([] ++ List.replicate (rs.length - 0) (-1 : Int)).length _]; rw [List.length_replicate, List.nil_append, List.length_replicate]; rfl) (fun _ => rfl) fun i hi X hX => ?_
  by_cases hlt : i < rs.length
  · obtain ⟨r, hr⟩ : ∃ r, rs[i]? = some r := ⟨_, List.getElem?_eq_getElem hlt⟩
    obtain ⟨p, hpp⟩ : ∃ p, ps[i]? = some p := ⟨_, List.getElem?_eq_getElem (by omega)⟩
    have hrng := slot_rng (p := p) c
    have hsl : ss.getD i 0 = slot p s m := by rw [← hss]; exact slots_get hpp
    refine primS (.bool true) (d_lss.trans (by rw [decide_eq_true (by omega)])) ?_
    refine itT rfl ?_
    refine primS (.bool true) (fm_inb gV_len (by omega) (by omega)) ?_
    refine get_pt (x := .var 1) (i := .var 3) hr (fun _ => rfl) (fun _ => rfl) ?_
    try simp only [HH, gW, gD, V3.l, M4.l, Fr.l, Sp.l, RV.l, RM.l, RF.l, RS.l]
    refine call_step (f_grid_Slot (hp.at_ i r p hr hpp) g ⟨Nat.le_trans hl.1 (by decide), Nat.le_trans hl.2 (by decide)⟩) rfl ?_
    try simp only [HH, gW, gD, V3.l, M4.l, Fr.l, Sp.l, RV.l, RM.l, RF.l, RS.l]
    rw [if_pos c, decide_eq_true c]
    refine primS (.bool true) (il_inb hrng.1 (by rw [bh_len]; exact hrng.2)) ?_
    refine primS _ (il_get hrng.1 (by rw [bh_len]; exact hrng.2)) ?_
    refine primS (.bool true) (il_inb (by omega) (by simp [bn_len]; omega)) ?_
    refine primS _ (il_set (by omega) (by simp [bn_len]; omega)) ?_
    refine primS (.bool true) (il_inb hrng.1 (by rw [bh_len]; exact hrng.2)) ?_
    refine primS _ (il_set hrng.1 (by rw [bh_len]; exact hrng.2)) ?_
    refine primS (.int .i64 ((i + 1 : Nat) : Int)) ((d_add64 (by omega) (by omega)).trans (by simp)) ?_
    have := hX (i + 1) hlt (by omega)
    rw [← bn_pad hlt, show bh m ss (i + 1) = (bh m ss i).set (ss.getD i 0).toNat i from rfl, hsl] at this
    exact jump_step rfl this
  · obtain rfl : i = rs.length := by omega
    refine primS (.bool false) (d_lss.trans (by rw [decide_eq_false (by omega)])) ?_
    refine itF rfl ?_
    refine ret_step ?_
    rw [Nat.sub_self, List.replicate_zero, List.append_nil, ← hlen]; rfl
end
end Go.Px.Na

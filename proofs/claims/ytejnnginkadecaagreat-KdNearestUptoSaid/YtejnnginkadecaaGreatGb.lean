/- Gb: grids built: the program's answer and the document's. -/
import Derived.Test.YtejnnginkadecaaGreatGs
set_option maxRecDepth 20000
set_option maxHeartbeats 4000000
set_option linter.unusedVariables false
set_option linter.unusedSimpArgs false
namespace Go.Px
open Go.RowKit
def ir_penumbraref15_Ints : IR :=
 .prim .len [.var 0] <|
 .prim .len [.var 1] <|
 .prim (.bin .neq) [.var 2, .var 3] <|
 .ite (.var 4) (
  .ret [.one (.bol false)]) (
  .loop [.var 0, .var 1, .int .i64 (0)] (
   .prim .len [.var 0] <|
   .prim (.bin .lss) [.var 2, .var 3] <|
   .ite (.var 4) (
    .prim (.inb 1) [.var 0, .var 2] <|
    .prim (.get 1 0) [.var 0, .var 2] <|
    .prim (.inb 1) [.var 1, .var 2] <|
    .prim (.get 1 0) [.var 1, .var 2] <|
    .prim (.bin .neq) [.var 6, .var 8] <|
    .ite (.var 9) (
     .ret [.one (.bol false)]) (
     .prim (.bin .add) [.var 2, .int .i64 (1)] <|
     .jump 0 [.var 0, .var 1, .var 10])) (
    .ret [.one (.bol true)])))

theorem tree_penumbraref15_Ints : symFunc Go.Proofs.Tryz.prog ⟨fun f => [28].contains f, fun f i => if f = 7 ∧ i = 4 then [⟨[(0, .s (.one (.at (.var 0)))), (1, .s (.one (.at (.var 1)))), (5, .s (.one (.at (.var 2))))], [], [], 0, 3⟩] else [], fun f i => [], fun f => [33].contains f, fun f => if f = 14 then some ([.row 4 63, .pl], [.row 1 3, .pl], 1) else if f = 17 then some ([.pl, .pl, .pl, .pl, .pl, .pl, .pl, .pl, .pl, .pl, .pl, .pl, .row 4 59, .row 1 4, .row 1 4], [.pl], 0) else if f = 49 then some ([.pl, .pl, .pl, .pl, .pl, .pl, .pl, .pl, .pl, .pl, .pl, .pl, .row 4 59, .row 1 4, .row 1 4], [], 0) else if f = 50 then some ([.pl, .pl, .pl, .pl, .pl, .pl, .pl, .pl, .pl, .pl, .pl, .pl, .row 4 59, .row 1 4, .row 1 4], [], 0) else none⟩ 400 F.penumbraref15_Ints [.one, .one] = some ir_penumbraref15_Ints := by kernel_rfl
end Go.Px
namespace Go.Px.Na
open Go.RowKit
open Go.Proofs.Tryz (prog)

/-- A row of whole numbers. -/
def il (ws : List Int) : DV := .list ws.length (ws.map (DV.int .i64))
theorem il_inb {ws : List Int} {k : IntKind} {i : Int} (h0 : 0 ≤ i) (h : i < ws.length) : Prim.den (.inb 1) [il ws, .int k i] = some (.bool true) := by
  simp only [il, Prim.den]
  rw [if_pos ⟨h0, h, by simp; omega⟩]
theorem il_get {ws : List Int} {k : IntKind} {i : Int} (h0 : 0 ≤ i) (h : i < ws.length) : Prim.den (.get 1 0) [il ws, .int k i] = some (.int .i64 (ws.getD i.toNat 0)) := by
  simp only [il, Prim.den]
  rw [if_pos ⟨h0, h⟩]
  have : i.toNat < ws.length := by omega
  simp [List.getD_eq_getElem?_getD, List.getElem?_eq_getElem this]
theorem il_set {ws : List Int} {k : IntKind} {i x : Int} (h0 : 0 ≤ i) (h : i < ws.length) : Prim.den (.setl 1 0) [il ws, .int k i, .int .i64 x] = some (il (ws.set i.toNat x)) := by
  have hc : 0 ≤ i ∧ i < (ws.length : Int) ∧ i.toNat * 1 + 0 + [DV.int .i64 x].length ≤ (ws.map (DV.int .i64)).length := ⟨h0, h, by simp; omega⟩
  simp only [il, Prim.den]
  rw [if_pos hc]
  simp [setAt, List.map_set]
theorem il_app {a b : List Int} (h : a.length + b.length ≤ 1099511627776) : Prim.den (.app 1 8) [il a, il b] = some (il (a ++ b)) := by
  simp only [il, Prim.den]
  rw [if_pos ⟨by simp, by simp, by omega⟩]
  simp
/-- A row of points. -/
def vl (l : List RV) : DV := .list l.length (l.flatMap fun r => gW r.l)
theorem gV_len (r : RV) : (gW r.l).length = 9 := rfl
structure NVs (L : Nat) (rs : List RV) (ps : List V3) : Prop where
  len : rs.length = ps.length
  at_ : ∀ (i : Nat) (r : RV) (p : V3), rs[i]? = some r → ps[i]? = some p → NV L r p
section
variable {P : Program} {As : List (List DV → Prop)} {ρ : List DV} {Q : List AV → Prop}
/-- A point out of a row. -/
theorem get_pt {x i : Px.A} {rs : List RV} {ki : IntKind} {j : Nat} {k : IR} {r : RV} (hr : rs[j]? = some r) (hx : ∀ l, Px.A.ev (ρ ++ l) x = vl rs) (hi : ∀ l, Px.A.ev (ρ ++ l) i = .int ki (j : Int)) (hk : IRwp P As (ρ ++ gW r.l) k Q) : IRwp P As ρ (getsI x i 9 9 0 k) Q :=
  gets_ok (by omega) (by have := (List.getElem?_eq_some_iff.1 hr).1; omega) 9 0 ρ (gW r.l) hx hi rfl (fun t ht => by rw [Int.toNat_natCast, Nat.zero_add]; exact fm_get gV_len t hr ht) hk
end

/-! ### What is built -/
/-- The slots of points. -/
def slots (ps : List V3) (s : Rat) (n : Int) : List Int := ps.map fun p => slot p s n
theorem f_Ints (a b : List Int) (ha : a.length ≤ 1099511627776) : PureCalls prog F.penumbraref15_Ints [.one (il a), .one (il b)] [.one (.bool (decide (a = b)))] := by
  refine symFunc_sound hmix tree_penumbraref15_Ints (by kernel_rfl) rfl ?_
  unfold ir_penumbraref15_Ints
  try simp only [HH, gW, gD, V3.l, M4.l, Fr.l, Sp.l, RV.l, RM.l, RF.l, RS.l]
  refine primS (.int .i64 (a.length : Int)) rfl ?_
  refine primS (.int .i64 (b.length : Int)) rfl ?_
  by_cases hl : a.length = b.length
  · refine primS (.bool false) (d_neq.trans (by rw [decide_eq_false (by omega)])) ?_
    refine itF rfl ?_
    refine loop_st (fun i : Nat => [il a, il b, .int .i64 (i : Int)]) (fun i => i ≤ a.length ∧ a.take i = b.take i) (fun i => a.length - i) 0 ⟨Nat.zero_le _, rfl⟩ rfl (fun _ => rfl) fun i hi X hX => ?_
    refine primS (.int .i64 (a.length : Int)) rfl ?_
    by_cases hlt : i < a.length
    · refine primS (.bool true) (d_lss.trans (by rw [decide_eq_true (by omega)])) ?_
      refine itT rfl ?_
      refine primS (.bool true) (il_inb (by omega) (by omega)) ?_
      refine primS _ (il_get (by omega) (by omega)) ?_
      refine primS (.bool true) (il_inb (by omega) (by omega)) ?_
      refine primS _ (il_get (by omega) (by omega)) ?_
      rw [Int.toNat_natCast]
      have ea : a[i]? = some (a.getD i 0) := by simp [List.getD_eq_getElem?_getD, List.getElem?_eq_getElem hlt]
      have eb : b[i]? = some (b.getD i 0) := by simp [List.getD_eq_getElem?_getD, List.getElem?_eq_getElem (show i < b.length by omega)]
      refine primS (.bool (decide _)) d_neq ?_
      refine itD rfl (fun c => ?_) (fun c => ?_)
      · refine ret_step ?_
        rw [show decide (a = b) = false from decide_eq_false fun h => c (by rw [h])]; rfl
      · refine primS (.int .i64 ((i + 1 : Nat) : Int)) ((d_add64 (by omega) (by omega)).trans (by simp)) ?_
        refine jump_step rfl (hX (i + 1) ⟨hlt, ?_⟩ (by omega))
        rw [List.take_add_one, List.take_add_one, hi.2, ea, eb, Classical.not_not.1 c]
    · refine primS (.bool false) (d_lss.trans (by rw [decide_eq_false (by omega)])) ?_
      refine itF rfl ?_
      refine ret_step ?_
      have := hi.2
      rw [List.take_of_length_le (by omega), List.take_of_length_le (by omega)] at this
      rw [decide_eq_true this]; rfl
  · refine primS (.bool true) (d_neq.trans (by rw [decide_eq_true (by omega)])) ?_
    refine itT rfl ?_
    refine ret_step ?_
    rw [show decide (a = b) = false from decide_eq_false fun h => hl (by rw [h])]; rfl
section
variable {L M : Nat} {rsd : RR} {s : Rat} {n : Int} {rs : List RV} {ps : List V3}
end
end Go.Px.Na

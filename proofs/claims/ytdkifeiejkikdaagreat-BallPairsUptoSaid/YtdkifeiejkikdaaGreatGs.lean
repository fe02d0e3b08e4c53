/- Gs: the slots of points in grids: the program's answer and the document's. -/
import Derived.Test.YtdkifeiejkikdaaGreatFr0
import Derived.Test.YtdkifeiejkikdaaGreatPx24
import Derived.Test.YtdkifeiejkikdaaGreatProg
import Derived.Tactics
set_option maxRecDepth 20000
set_option maxHeartbeats 4000000
set_option linter.unusedVariables false
set_option linter.unusedSimpArgs false
namespace Go.Px
open Go.RowKit
def ir_grid_may : IR :=
 .call F.rat_Sign [.agg [.var 0, .var 1, .var 2]] [.one] <|
 .prim (.bin .gtr) [.var 4, .int .i64 (0)] <|
 .ite (.var 5) (
  .prim (.bin .geq) [.var 3, .int .i64 (1)] <|
  .ite (.var 6) (
   .prim (.bin .leq) [.var 3, .int .i64 (256)] <|
   .ret [.one (.var 7)]) (
   .ret [.one (.bol false)])) (
  .ret [.one (.bol false)])

def ir_grid_rest : IR :=
 .call F.rat_Div [.agg [.var 0, .var 1, .var 2], .agg [.var 3, .var 4, .var 5]] [.agg 3, .one] <|
 .call F.rat_Floor [.agg [.var 7, .var 8, .var 9]] [.agg 3] <|
 .prim (.conv .u64) [.var 6] <|
 .call F.nat_Of [.one (.var 14)] [.one] <|
 .call F.nat_DivMod [.one (.var 12), .one (.var 15)] [.one, .one, .one] <|
 .prim .len [.var 17] <|
 .prim (.bin .gtr) [.var 19, .int .i64 (0)] <|
 .ite (.var 20) (
  .prim (.inb 1) [.var 17, .int .i64 (0)] <|
  .prim (.get 1 0) [.var 17, .int .i64 (0)] <|
  .prim (.conv .i64) [.var 22] <|
  .ite (.var 11) (
   .prim (.bin .gtr) [.var 23, .int .i64 (0)] <|
   .ite (.var 24) (
    .prim (.bin .sub) [.var 6, .var 23] <|
    .ret [.one (.var 25)]) (
    .ret [.one (.var 23)])) (
   .ret [.one (.var 23)])) (
  .ite (.var 11) (
   .ret [.one (.int .i64 (0))]) (
   .ret [.one (.int .i64 (0))]))

def ir_grid_Slot : IR :=
 .call F.grid_may [.agg [.var 9, .var 10, .var 11], .one (.var 12)] [.one] <|
 .prim .not [.var 13] <|
 .ite (.var 14) (
  .ret [.one (.int .i64 (0)), .one (.bol false)]) (
  .call F.grid_rest [.agg [.var 0, .var 1, .var 2], .agg [.var 9, .var 10, .var 11], .one (.var 12)] [.one] <|
  .call F.grid_rest [.agg [.var 3, .var 4, .var 5], .agg [.var 9, .var 10, .var 11], .one (.var 12)] [.one] <|
  .prim (.bin .mul) [.int .i64 (31), .var 16] <|
  .prim (.bin .add) [.var 15, .var 17] <|
  .call F.grid_rest [.agg [.var 6, .var 7, .var 8], .agg [.var 9, .var 10, .var 11], .one (.var 12)] [.one] <|
  .prim (.bin .mul) [.int .i64 (961), .var 19] <|
  .prim (.bin .add) [.var 18, .var 20] <|
  .prim (.bin .rem) [.var 21, .var 12] <|
  .ret [.one (.var 22), .one (.bol true)])

theorem tree_grid_may : symFunc Go.Proofs.Tryz.prog ⟨fun f => [71, 50, 24].contains f, fun f i => [], fun f i => [], fun f => [23].contains f⟩ 400 F.grid_may [.agg 3, .one] = some ir_grid_may := by kernel_rfl
theorem tree_grid_rest : symFunc Go.Proofs.Tryz.prog ⟨fun f => [71, 50, 24].contains f, fun f i => [], fun f i => [], fun f => [23].contains f⟩ 400 F.grid_rest [.agg 3, .agg 3, .one] = some ir_grid_rest := by kernel_rfl
theorem tree_grid_Slot : symFunc Go.Proofs.Tryz.prog ⟨fun f => [71, 50, 24].contains f, fun f i => [], fun f i => [], fun f => [23].contains f⟩ 400 F.grid_Slot [.agg 9, .agg 3, .one] = some ir_grid_Slot := by kernel_rfl
end Go.Px
namespace Go.Px.Na
open Go.RowKit
open Go.Proofs.Tryz (prog)

def gmay (s : Rat) (n : Int) : Prop := 0 < s ∧ 1 ≤ n ∧ n ≤ 256
instance (s : Rat) (n : Int) : Decidable (gmay s n) := inferInstanceAs (Decidable (_ ∧ _ ∧ _))
/-- The greatest whole number not above a quotient. -/
def cz (a s : Rat) : Int := (a / s).floor
def slot (p : V3) (s : Rat) (n : Int) : Int := (cz p.x s + 31 * cz p.y s + 961 * cz p.z s) % n
theorem emod_of {f n r q : Int} (h0 : 0 ≤ r) (h1 : r < n) (h : f = r + n * q) : f % n = r := by
  rw [h, Int.add_mul_emod_self_left]; exact Int.emod_eq_of_lt h0 h1
section
variable {s x : Rat} {n : Int} {p : V3}
theorem slot_rng (h : gmay s n) : 0 ≤ slot p s n ∧ slot p s n < n := ⟨Int.emod_nonneg _ (by have := h.2.1; omega), Int.emod_lt_of_pos _ (by have := h.2.1; omega)⟩
theorem gnum (f : Int) : ((f : Rat)).num = f := rfl
theorem gden (f : Int) : ((f : Rat)).den = 1 := rfl
variable {L M : Nat} {r rs : RR} {rp : RV}
theorem f_grid_may (h : Num L r x) (hl : L ≤ LL) : PureCalls prog F.grid_may [.agg (gW [r]), .one (.int .i64 n)] [.one (.bool (decide (gmay x n)))] := by
  refine symFunc_sound hmix tree_grid_may (by kernel_rfl) rfl ?_
  unfold ir_grid_may
  simp only [HH, gW, gD, V3.l, M4.l, Fr.l, Sp.l, RV.l, RM.l, RF.l, RS.l]
  refine call_step (f_rat_Sign h hl) rfl ?_
  simp only [HH, gW, gD, V3.l, M4.l, Fr.l, Sp.l, RV.l, RM.l, RF.l, RS.l]
  refine primS (.bool (decide _)) pr_gt ?_
  refine itD rfl (fun c1 => ?_) (fun c1 => ?_)
  · refine primS (.bool (decide _)) d_geq ?_
    refine itD rfl (fun c2 => ?_) (fun c2 => ?_)
    · refine primS (.bool (decide _)) d_leq ?_
      exact ret_step (by rw [show decide (gmay x n) = decide (n ≤ 256) from decide_eq_decide.2 ⟨fun h => h.2.2, fun h => ⟨c1, c2, h⟩⟩]; rfl)
    · exact ret_step (by rw [show decide (gmay x n) = false from decide_eq_false fun h => c2 h.2.1]; rfl)
  · exact ret_step (by rw [show decide (gmay x n) = false from decide_eq_false fun h => c1 h.1]; rfl)
theorem glimbs {R : Nat} (h : R < 4294967296) (h0 : R ≠ 0) : limbs R = [R] := by
  rw [limbs_pos h0, Nat.mod_eq_of_lt h, Nat.div_eq_of_lt h, limbs_zero]
theorem emod_natAbs {f : Int} {m : Nat} (hm : 0 < m) : f % (m : Int) = if f < 0 then (if f.natAbs % m = 0 then 0 else (m : Int) - (f.natAbs % m : Nat)) else ((f.natAbs % m : Nat) : Int) := by
  have e := Nat.div_add_mod f.natAbs m
  have hlt := Nat.mod_lt f.natAbs hm
  have e' : (f.natAbs : Int) = (m : Int) * ((f.natAbs / m : Nat) : Int) + ((f.natAbs % m : Nat) : Int) := by exact_mod_cast e.symm
  generalize f.natAbs % m = R at *
  generalize f.natAbs / m = D at *
  by_cases hf : f < 0
  · rw [if_pos hf]
    have hf' : f = -(f.natAbs : Int) := by omega
    rw [e'] at hf'
    split
    · rename_i h0; subst h0
      exact emod_of (by omega) (by omega) (q := -(D : Int)) (by rw [hf']; simp [Int.mul_neg])
    · exact emod_of (by omega) (by omega) (q := -(D : Int) - 1) (by rw [hf', Int.mul_sub, Int.mul_neg]; omega)
  · rw [if_neg hf]
    have hf' : f = (f.natAbs : Int) := by omega
    rw [e'] at hf'
    exact emod_of (by omega) (by omega) (q := (D : Int)) (by omega)
theorem f_grid_rest (hs : gmay s n) (h : Num L r x) (g : Num M rs s) (hl : L ≤ 60000000000 ∧ M ≤ 60000000000) : PureCalls prog F.grid_rest [.agg (gW [r]), .agg (gW [rs]), .one (.int .i64 n)] [.one (.int .i64 (cz x s % n))] := by
  have hn := hs.2
  obtain ⟨m, hm⟩ : ∃ m : Nat, n = (m : Int) := ⟨n.toNat, by omega⟩
  subst hm
  have hm0 : 0 < m := by omega
  replace h := h.mono hl.1
  replace g := g.mono hl.2
  refine symFunc_sound hmix tree_grid_rest (by kernel_rfl) rfl ?_
  unfold ir_grid_rest
  simp only [HH, gW, gD, V3.l, M4.l, Fr.l, Sp.l, RV.l, RM.l, RF.l, RS.l]
  refine call_step (f_rat_Div h g (by decide)) rfl ?_
  simp only [HH, gW, gD, V3.l, M4.l, Fr.l, Sp.l, RV.l, RM.l, RF.l, RS.l]
  have m1 := Num.of (h.sm.div g.sm)
  refine call_step (f_rat_Floor m1 (by decide)) rfl ?_
  simp only [HH, gW, gD, V3.l, M4.l, Fr.l, Sp.l, RV.l, RM.l, RF.l, RS.l]
  simp only [gnum, gden]
  rw [show (x / s).floor = cz x s from rfl]
  have hsf : (limbs (cz x s).natAbs).length ≤ 120000000001 := (h.sm.div g.sm).floor.1
  generalize cz x s = f at hsf ⊢
  refine primS (.int .u64 (m : Int)) (d_conv64 (by omega) (by omega)) ?_
  refine call_step (c_of m (by omega)) rfl ?_
  simp only [HH, gW, gD, V3.l, M4.l, Fr.l, Sp.l, RV.l, RM.l, RF.l, RS.l]
  refine call_step (res := [.one (nn (f.natAbs / m)), .one (nn (f.natAbs % m)), .one (.bool true)]) (by
    have k := c_divmod (limbs f.natAbs) (limbs m) ⟨WL_limbs _, Nat.le_trans hsf (by decide)⟩ ⟨WL_limbs _, Nat.le_trans (limbs_len (k := 1) (by omega)) (by decide)⟩
    rw [val_limbs, val_limbs] at k
    unfold divRes at k
    rw [if_neg (by omega)] at k
    exact k) rfl ?_
  simp only [HH, gW, gD, V3.l, M4.l, Fr.l, Sp.l, RV.l, RM.l, RF.l, RS.l]
  rw [emod_natAbs hm0]
  have hR := Nat.mod_lt f.natAbs hm0
  generalize f.natAbs % m = R at *
  refine primS (.int .i64 ((limbs R).length : Int)) rfl ?_
  by_cases hR0 : R = 0
  · subst hR0
    refine primS (.bool false) (d_gtr.trans (by rw [limbs_zero]; rfl)) ?_
    refine itF rfl ?_
    refine itD rfl (fun c1 => ?_) (fun c1 => ?_)
    · rw [if_pos c1]; exact ret_step rfl
    · rw [if_neg c1]; exact ret_step rfl
  · have hl1 := glimbs (R := R) (by omega) hR0
    have hR' : ((R : Int) : Int) ≠ 0 := by omega
    rw [show nn R = nl [R] from congrArg nl hl1]
    refine primS (.bool true) (d_gtr.trans (by rw [hl1]; rfl)) ?_
    refine itT rfl ?_
    refine primS (.bool true) (den_inb (by omega) (by simp)) ?_
    refine primS (.int .u32 (R : Int)) (den_get (by omega) (by simp)) ?_
    refine primS (.int .i64 (R : Int)) (d_convi (by omega) (by omega)) ?_
    refine itD rfl (fun c1 => ?_) (fun c1 => ?_)
    · rw [if_pos c1, if_neg hR0]
      refine primS (.bool true) (d_gtr.trans (by rw [decide_eq_true (by omega)])) ?_
      refine itT rfl ?_
      refine primS (.int .i64 ((m : Int) - (R : Int))) (d_sub64 (by omega) (by omega)) ?_
      exact ret_step rfl
    · rw [if_neg c1]; exact ret_step rfl
theorem f_grid_Slot (h : NV L rp p) (g : Num M rs s) (hl : L ≤ 60000000000 ∧ M ≤ 60000000000) : PureCalls prog F.grid_Slot [.agg (gW rp.l), .agg (gW [rs]), .one (.int .i64 n)] [.one (.int .i64 (if gmay s n then slot p s n else 0)), .one (.bool (decide (gmay s n)))] := by
  replace h := h.mono hl.1
  replace g := g.mono hl.2
  refine symFunc_sound hmix tree_grid_Slot (by kernel_rfl) rfl ?_
  unfold ir_grid_Slot
  simp only [HH, gW, gD, V3.l, M4.l, Fr.l, Sp.l, RV.l, RM.l, RF.l, RS.l]
  refine call_step (f_grid_may g (by decide)) rfl ?_
  simp only [HH, gW, gD, V3.l, M4.l, Fr.l, Sp.l, RV.l, RM.l, RF.l, RS.l]
  refine primS (.bool (!_)) rfl ?_
  refine itN rfl (fun c => ?_) (fun c => ?_)
  · rw [if_neg c, decide_eq_false c]; exact ret_step rfl
  rw [if_pos c, decide_eq_true c]
  have hn := c.2
  have r1 := Int.emod_nonneg (cz p.x s) (b := n) (by omega)
  have r2 := Int.emod_lt_of_pos (cz p.x s) (b := n) (by omega)
  have r3 := Int.emod_nonneg (cz p.y s) (b := n) (by omega)
  have r4 := Int.emod_lt_of_pos (cz p.y s) (b := n) (by omega)
  have r5 := Int.emod_nonneg (cz p.z s) (b := n) (by omega)
  have r6 := Int.emod_lt_of_pos (cz p.z s) (b := n) (by omega)
  refine call_step (f_grid_rest c h.x g (by decide)) rfl ?_
  simp only [HH, gW, gD, V3.l, M4.l, Fr.l, Sp.l, RV.l, RM.l, RF.l, RS.l]
  refine call_step (f_grid_rest c h.y g (by decide)) rfl ?_
  simp only [HH, gW, gD, V3.l, M4.l, Fr.l, Sp.l, RV.l, RM.l, RF.l, RS.l]
  refine primS (.int .i64 (31 * (cz p.y s % n))) (d_mul64 (by omega) (by omega)) ?_
  refine primS (.int .i64 (cz p.x s % n + 31 * (cz p.y s % n))) (d_add64 (by omega) (by omega)) ?_
  refine call_step (f_grid_rest c h.z g (by decide)) rfl ?_
  simp only [HH, gW, gD, V3.l, M4.l, Fr.l, Sp.l, RV.l, RM.l, RF.l, RS.l]
  refine primS (.int .i64 (961 * (cz p.z s % n))) (d_mul64 (by omega) (by omega)) ?_
  refine primS (.int .i64 (cz p.x s % n + 31 * (cz p.y s % n) + 961 * (cz p.z s % n))) (d_add64 (by omega) (by omega)) ?_
  refine primS (.int .i64 ((cz p.x s % n + 31 * (cz p.y s % n) + 961 * (cz p.z s % n)) % n)) (d_rem64 (by omega) (by omega)) ?_
  refine ret_step ?_
  have e : (cz p.x s % n + 31 * (cz p.y s % n) + 961 * (cz p.z s % n)) % n = slot p s n := by
    unfold slot
    rw [Int.add_emod (cz p.x s % n + 31 * (cz p.y s % n)), Int.add_emod (cz p.x s % n), Int.mul_emod 31, Int.mul_emod 961, Int.emod_emod, Int.emod_emod, Int.emod_emod]
    rw [Int.add_emod (cz p.x s + 31 * cz p.y s), Int.add_emod (cz p.x s), Int.mul_emod 31 (cz p.y s), Int.mul_emod 961 (cz p.z s)]
  rw [← e]; rfl
theorem fl_div {S n : Int} (h : 0 < n) : S - ((S : Rat) / (n : Rat)).floor * n = S % n := by
  have hn : (0 : Rat) < (n : Rat) := by have := Rat.intCast_lt_intCast.2 h; simpa using this
  have hne : (n : Rat) ≠ 0 := fun z => by rw [z] at hn; exact absurd hn (by decide)
  have e : (S : Rat) / (n : Rat) * (n : Rat) = (S : Rat) := Rat.div_mul_cancel hne
  have h1 := Rat.mul_le_mul_of_nonneg_right (Rat.floor_le ((S : Rat) / (n : Rat))) (Rat.le_of_lt hn)
  have h2 := Rat.mul_lt_mul_of_pos_right (Rat.lt_floor_add_one ((S : Rat) / (n : Rat))) hn
  generalize ((S : Rat) / (n : Rat)).floor = q at *
  rw [e, ← Rat.intCast_mul, Rat.intCast_le_intCast] at h1
  rw [e, ← Rat.intCast_mul, Rat.intCast_lt_intCast, Int.add_mul, Int.one_mul] at h2
  exact (emod_of (q := q) (by omega) (by omega) (by rw [Int.mul_comm n q]; omega)).symm
end
end Go.Px.Na

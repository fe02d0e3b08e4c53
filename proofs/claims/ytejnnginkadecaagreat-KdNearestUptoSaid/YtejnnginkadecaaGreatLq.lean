/- Lq: numbers as they are handed over (how they lie, what they are worth, how long they are), and the contracts in these words. -/
import Derived.Test.YtejnnginkadecaaGreatVs0
set_option maxRecDepth 10000
set_option linter.unusedSimpArgs false
set_option linter.unusedVariables false
namespace Go.Px.Na
open Go.RowKit
open Go.Proofs.Tryz (prog)

/-- r is worth x, and has at most so many limbs. -/
def Num (L : Nat) (r : RR) (x : Rat) : Prop := r.ok L ∧ r.v = x ∧ 0 < L
theorem Num.mono {L M : Nat} {r : RR} {x : Rat} (h : Num L r x) (hl : L ≤ M) : Num M r x := ⟨h.1.mono hl, h.2.1, by have := h.2.2; omega⟩
theorem Num.sm {L : Nat} {r : RR} {x : Rat} (h : Num L r x) : Sm L x := h.2.1 ▸ h.1.sm h.2.2
theorem Num.of {L : Nat} {x : Rat} (h : Sm L x) : Num L (cr x) x := ⟨cr_ok h, cr_v x, h.pos⟩
theorem Num.eqn {L : Nat} {x y : Rat} (e : x = y) (h : Sm L y) : Num L (cr x) x := by subst e; exact .of h
theorem Num.c {x q : Rat} (e : x = q) (h1 : q.num.natAbs < 4294967296) (h2 : q.den < 4294967296) : Num 1 (cr x) x := .eqn e ⟨limbs_len (by simpa using h1), limbs_len (by simpa using h2)⟩
/-- A number of which nothing is said. -/
abbrev rz : RR := ⟨false, [], []⟩
theorem Num.zz {Z0 : Rat} (e : Z0 = 0) : Num 1 rz Z0 := by
  subst e
  exact ⟨⟨by simp [WL], by simp [WL], by simp, by simp⟩, by simp [RR.v, sg, val], by decide⟩
/-- Some numbers as they lie, and as they are worth. -/
def gv : List RR → List DV
  | [] => []
  | r :: l => .bool r.neg :: nl r.num :: nl r.den :: gv l
section
variable {r0 r1 r2 : RR} {x0 x1 x2 k0 : Rat}
theorem n_rat_Sum_3 (h0 : Num LL r0 x0) (h1 : Num LL r1 x1) (h2 : Num LL r2 x2) (e : k0 = x0 + x1 + x2) : PureCalls prog F.rat_Sum [.one (rl [r0, r1, r2])] [.agg ([.bool (decide ((k0).num < 0)), nn (k0).num.natAbs, nn (k0).den])] := by rw [e, ← h0.2.1, ← h1.2.1, ← h2.2.1]; exact k_sumR3 h0.1 h1.1 h2.1
theorem n_rat_Product_2 (h0 : Num LL r0 x0) (h1 : Num LL r1 x1) (e : k0 = x0 * x1) : PureCalls prog F.rat_Product [.one (rl [r0, r1])] [.agg ([.bool (decide ((k0).num < 0)), nn (k0).num.natAbs, nn (k0).den])] := by rw [e, ← h0.2.1, ← h1.2.1]; exact k_prodR2 h0.1 h1.1
theorem n_rat_Sub (h0 : Num LL r0 x0) (h1 : Num LL r1 x1) (e : k0 = x0 - x1) : PureCalls prog F.rat_Sub [.agg ([.bool r0.neg, nl r0.num, nl r0.den]), .agg ([.bool r1.neg, nl r1.num, nl r1.den])] [.agg ([.bool (decide ((k0).num < 0)), nn (k0).num.natAbs, nn (k0).den])] := by rw [e, ← h0.2.1, ← h1.2.1]; exact k_subR h0.1 h1.1
theorem n_rat_Sign (h0 : Num LL r0 x0) : PureCalls prog F.rat_Sign [.agg ([.bool r0.neg, nl r0.num, nl r0.den])] [.one (.int .i64 x0.num.sign)] := by rw [← h0.2.1]; exact k_signR h0.1
theorem n_rat_Cmp (h0 : Num LL r0 x0) (h1 : Num LL r1 x1) : PureCalls prog F.rat_Cmp [.agg ([.bool r0.neg, nl r0.num, nl r0.den]), .agg ([.bool r1.neg, nl r1.num, nl r1.den])] [.one (.int .i64 (cmpQ x0 x1))] := by rw [← h0.2.1, ← h1.2.1]; exact c_cmpQ _ _ (okK h0.1) (okK h1.1)
theorem n_penumbraref03_Sub (h0 : Num LL r0 x0) (h1 : Num LL r1 x1) (e : k0 = x0 - x1) : PureCalls prog F.penumbraref03_Sub [.agg ([.bool r0.neg, nl r0.num, nl r0.den]), .agg ([.bool r1.neg, nl r1.num, nl r1.den])] [.agg ([.bool (decide ((k0).num < 0)), nn (k0).num.natAbs, nn (k0).den])] := by rw [e, ← h0.2.1, ← h1.2.1]; exact kr_subR h0.1 h1.1
theorem n_penumbraref03_Add (h0 : Num LL r0 x0) (h1 : Num LL r1 x1) (e : k0 = x0 + x1) : PureCalls prog F.penumbraref03_Add [.agg ([.bool r0.neg, nl r0.num, nl r0.den]), .agg ([.bool r1.neg, nl r1.num, nl r1.den])] [.agg ([.bool (decide ((k0).num < 0)), nn (k0).num.natAbs, nn (k0).den])] := by rw [e, ← h0.2.1, ← h1.2.1]; exact kr_addR h0.1 h1.1
theorem n_penumbraref03_Mul (h0 : Num LL r0 x0) (h1 : Num LL r1 x1) (e : k0 = x0 * x1) : PureCalls prog F.penumbraref03_Mul [.agg ([.bool r0.neg, nl r0.num, nl r0.den]), .agg ([.bool r1.neg, nl r1.num, nl r1.den])] [.agg ([.bool (decide ((k0).num < 0)), nn (k0).num.natAbs, nn (k0).den])] := by rw [e, ← h0.2.1, ← h1.2.1]; exact kr_mulR h0.1 h1.1
theorem n_penumbraref03_Cmp (h0 : Num LL r0 x0) (h1 : Num LL r1 x1) : PureCalls prog F.penumbraref03_Cmp [.agg ([.bool r0.neg, nl r0.num, nl r0.den]), .agg ([.bool r1.neg, nl r1.num, nl r1.den])] [.one (.int .i64 (cmpQ x0 x1))] := by rw [← h0.2.1, ← h1.2.1]; exact cr_cmpQ _ _ (h0.1.mono (by decide)) (h1.1.mono (by decide))
theorem n_vec_Of {o0 o1 o2 : Rat} (x y z : Int) (h0 : -9223372036854775808 ≤ x) (h1 : x < 9223372036854775808) (h2 : -9223372036854775808 ≤ y) (h3 : y < 9223372036854775808) (h4 : -9223372036854775808 ≤ z) (h5 : z < 9223372036854775808) (e0 : o0 = ofQ x 1) (e1 : o1 = ofQ y 1) (e2 : o2 = ofQ z 1) : PureCalls prog F.vec_Of [.one (.int .i64 x), .one (.int .i64 y), .one (.int .i64 z)] [.agg ([.bool (decide ((o0).num < 0)), nn (o0).num.natAbs, nn (o0).den, .bool (decide ((o1).num < 0)), nn (o1).num.natAbs, nn (o1).den, .bool (decide ((o2).num < 0)), nn (o2).num.natAbs, nn (o2).den])] := by
  rw [e0, e1, e2]; exact k_vOf x y z h0 h1 h2 h3 h4 h5
variable {a0 a1 a2 b0 b1 b2 c0 c1 c2 : RR} {x3 x4 x5 x6 x7 x8 o0 o1 o2 : Rat}
end

/-! Signs and orders, asked for against 0. -/
section
variable {x y : Rat}
theorem sg_lt {Z0 : Rat} (y : Z0 = 0) : x.num.sign < 0 ↔ x < Z0 := by
  subst y; rw [Int.sign_neg_iff, num_neg_iff]
theorem sg_gt {Z0 : Rat} (y : Z0 = 0) : 0 < x.num.sign ↔ Z0 < x := by
  subst y; rw [Int.sign_pos_iff, num_pos_iff]
theorem cq_lt : cmpQ x y < 0 ↔ x < y := by
  unfold cmpQ; rw [sg_lt rfl]; grind
theorem cq_gt : 0 < cmpQ x y ↔ y < x := by
  unfold cmpQ; rw [sg_gt rfl]; grind
theorem cq_eq : cmpQ x y = 0 ↔ x = y := cmpQ_eq
end
end Go.Px.Na

/- Lq: numbers as they are handed over (how they lie, what they are worth, how long they are), and the contracts in these words. -/
import Derived.Test.YtnohcccgfefnkaaGreatVs0
set_option maxRecDepth 10000
set_option linter.unusedSimpArgs false
set_option linter.unusedVariables false
namespace Go.Px.Na
open Go.RowKit
open Go.Proofs.Tryz (prog)

/-- r is worth x, and has at most so many limbs. -/
def Num (L : Nat) (r : RR) (x : Rat) : Prop := r.ok L ∧ r.v = x ∧ 0 < L
theorem Num.mono {L M : Nat} {r : RR} {x : Rat} (h : Num L r x) (hl : L ≤ M) : Num M r x := ⟨h.1.mono hl, h.2.1, by have := h.2.2; omega⟩
theorem Num.sm {L : Nat} {r : RR} {x : Rat} (h : Num L r x) : Sm L x := h.2.1 ▸ h.1.sm h.2.2
theorem Num.of {L : Nat} {x : Rat} (h : Sm L x) : Num L (cr x) x := ⟨cr_ok h, cr_v x, h.pos⟩
theorem Num.eqn {L : Nat} {x y : Rat} (e : x = y) (h : Sm L y) : Num L (cr x) x := by subst e; exact .of h
theorem Num.c {x q : Rat} (e : x = q) (h1 : q.num.natAbs < 4294967296) (h2 : q.den < 4294967296) : Num 1 (cr x) x := .eqn e ⟨limbs_len (by simpa using h1), limbs_len (by simpa using h2)⟩
/-- A number of which nothing is said. -/
abbrev rz : RR := ⟨false, [], []⟩
theorem Num.zz {Z0 : Rat} (e : Z0 = 0) : Num 1 rz Z0 := by
  subst e
  exact ⟨⟨by simp [WL], by simp [WL], by simp, by simp⟩, by simp [RR.v, sg, val], by decide⟩
theorem sq_nn (a : Rat) : 0 ≤ a * a := by
  rcases Rat.le_total (a := 0) (b := a) with h | h
  · exact Rat.mul_nonneg h h
  · have := Rat.mul_nonneg (a := -a) (b := -a) (by grind) (by grind)
    grind
theorem sq_z {a : Rat} (h : a * a = 0) : a = 0 := by rcases Rat.mul_eq_zero.1 h with h | h <;> exact h
theorem sq3_0 {Z0 a b c : Rat} (y : Z0 = 0) (h : a * a + b * b + c * c = Z0) : a = Z0 := by
  subst y
  exact sq_z (by have := sq_nn a; have := sq_nn b; have := sq_nn c; grind)
theorem sq3_1 {Z0 a b c : Rat} (y : Z0 = 0) (h : a * a + b * b + c * c = Z0) : b = Z0 := by
  subst y
  exact sq_z (by have := sq_nn a; have := sq_nn b; have := sq_nn c; grind)
theorem sq3_2 {Z0 a b c : Rat} (y : Z0 = 0) (h : a * a + b * b + c * c = Z0) : c = Z0 := by
  subst y
  exact sq_z (by have := sq_nn a; have := sq_nn b; have := sq_nn c; grind)
/-- How dense slopes lie. -/
def dns (x : Rat) : Rat := (1 / 2) / ((1 + x.abs) * (1 + x.abs))
theorem Sm.dns {L : Nat} {x : Rat} (h : Sm L x) : Sm (3 * (2 * L + 4)) (dns x) := by
  have s1 : Sm 1 (1 : Rat) := Sm1
  have s2 : Sm 1 (1 / 2 : Rat) := ⟨limbs_len (by decide +kernel), limbs_len (by decide +kernel)⟩
  exact (s2.div ((s1.add h.abs).mul (s1.add h.abs))).mono (by omega)

/-- Some numbers as they lie, and as they are worth. -/
def gv : List RR → List DV
  | [] => []
  | r :: l => .bool r.neg :: nl r.num :: nl r.den :: gv l
section
variable {r0 r1 r2 : RR} {x0 x1 x2 k0 : Rat}
theorem n_rat_Sum_2 (h0 : Num LL r0 x0) (h1 : Num LL r1 x1) (e : k0 = x0 + x1) : PureCalls prog F.rat_Sum [.one (rl [r0, r1])] [.agg ([.bool (decide ((k0).num < 0)), nn (k0).num.natAbs, nn (k0).den])] := by rw [e, ← h0.2.1, ← h1.2.1]; exact k_sumR2 h0.1 h1.1
theorem n_rat_Sum_3 (h0 : Num LL r0 x0) (h1 : Num LL r1 x1) (h2 : Num LL r2 x2) (e : k0 = x0 + x1 + x2) : PureCalls prog F.rat_Sum [.one (rl [r0, r1, r2])] [.agg ([.bool (decide ((k0).num < 0)), nn (k0).num.natAbs, nn (k0).den])] := by rw [e, ← h0.2.1, ← h1.2.1, ← h2.2.1]; exact k_sumR3 h0.1 h1.1 h2.1
theorem n_rat_Product_2 (h0 : Num LL r0 x0) (h1 : Num LL r1 x1) (e : k0 = x0 * x1) : PureCalls prog F.rat_Product [.one (rl [r0, r1])] [.agg ([.bool (decide ((k0).num < 0)), nn (k0).num.natAbs, nn (k0).den])] := by rw [e, ← h0.2.1, ← h1.2.1]; exact k_prodR2 h0.1 h1.1
theorem n_rat_Product_3 (h0 : Num LL r0 x0) (h1 : Num LL r1 x1) (h2 : Num LL r2 x2) (e : k0 = x0 * x1 * x2) : PureCalls prog F.rat_Product [.one (rl [r0, r1, r2])] [.agg ([.bool (decide ((k0).num < 0)), nn (k0).num.natAbs, nn (k0).den])] := by rw [e, ← h0.2.1, ← h1.2.1, ← h2.2.1]; exact k_prodR3 h0.1 h1.1 h2.1
theorem n_rat_Read (h0 : Num LL r0 x0) : PureCalls prog F.rat_Read [.agg ([.bool r0.neg, nl r0.num, nl r0.den])] [.agg ([.bool (decide ((x0).num < 0)), nn (x0).num.natAbs, nn (x0).den])] := by rw [← h0.2.1]; exact k_readR h0.1
theorem n_rat_Neg (h0 : Num LL r0 x0) (e : k0 = -x0) : PureCalls prog F.rat_Neg [.agg ([.bool r0.neg, nl r0.num, nl r0.den])] [.agg ([.bool (decide ((k0).num < 0)), nn (k0).num.natAbs, nn (k0).den])] := by rw [e, ← h0.2.1]; exact k_negR h0.1
theorem n_rat_Abs_o (h0 : Num LL r0 x0) (e : k0 = x0.abs) : PureCalls prog F.rat_Abs [.agg ([.bool r0.neg, nl r0.num, nl r0.den])] [.agg ([.bool (decide ((k0).num < 0)), nn (k0).num.natAbs, nn (k0).den])] := by rw [e, ← h0.2.1]; exact k_absR h0.1
theorem n_rat_Sub (h0 : Num LL r0 x0) (h1 : Num LL r1 x1) (e : k0 = x0 - x1) : PureCalls prog F.rat_Sub [.agg ([.bool r0.neg, nl r0.num, nl r0.den]), .agg ([.bool r1.neg, nl r1.num, nl r1.den])] [.agg ([.bool (decide ((k0).num < 0)), nn (k0).num.natAbs, nn (k0).den])] := by rw [e, ← h0.2.1, ← h1.2.1]; exact k_subR h0.1 h1.1
theorem n_rat_Of (n d : Int) (h0 : -9223372036854775808 ≤ n) (h1 : n < 9223372036854775808) (h2 : -9223372036854775808 ≤ d) (h3 : d < 9223372036854775808) (e : k0 = ofQ n d) : PureCalls prog F.rat_Of [.one (.int .i64 n), .one (.int .i64 d)] [.agg ([.bool (decide ((k0).num < 0)), nn (k0).num.natAbs, nn (k0).den])] := by rw [e]; exact c_ofQ n d h0 h1 h2 h3
theorem n_rat_Same_t (h0 : Num LL r0 x0) (h1 : Num LL r1 x1) (c : x0 = x1) : PureCalls prog F.rat_Same [.agg ([.bool r0.neg, nl r0.num, nl r0.den]), .agg ([.bool r1.neg, nl r1.num, nl r1.den])] [.one (.bool true)] := by have k := k_sameR h0.1 h1.1; rw [h0.2.1, h1.2.1, decide_eq_true c] at k; exact k
theorem n_rat_Same_f (h0 : Num LL r0 x0) (h1 : Num LL r1 x1) (c : ¬x0 = x1) : PureCalls prog F.rat_Same [.agg ([.bool r0.neg, nl r0.num, nl r0.den]), .agg ([.bool r1.neg, nl r1.num, nl r1.den])] [.one (.bool false)] := by have k := k_sameR h0.1 h1.1; rw [h0.2.1, h1.2.1, decide_eq_false c] at k; exact k
theorem n_rat_Div_t {Z0 : Rat} (y : Z0 = 0) (h0 : Num LL r0 x0) (h1 : Num LL r1 x1) (c : x1 = Z0) : PureCalls prog F.rat_Div [.agg ([.bool r0.neg, nl r0.num, nl r0.den]), .agg ([.bool r1.neg, nl r1.num, nl r1.den])] [.agg ([.bool (decide ((Z0).num < 0)), nn (Z0).num.natAbs, nn (Z0).den]), .one (.bool false)] := by
  subst y
  have k := k_divR h0.1 h1.1; rw [h0.2.1, h1.2.1] at k; unfold divQ at k; rw [if_pos c] at k; exact k
theorem n_rat_Div_f {Z0 : Rat} (y : Z0 = 0) (h0 : Num LL r0 x0) (h1 : Num LL r1 x1) (e : k0 = x0 / x1) (c : ¬x1 = Z0) : PureCalls prog F.rat_Div [.agg ([.bool r0.neg, nl r0.num, nl r0.den]), .agg ([.bool r1.neg, nl r1.num, nl r1.den])] [.agg ([.bool (decide ((k0).num < 0)), nn (k0).num.natAbs, nn (k0).den]), .one (.bool true)] := by
  subst y
  have k := k_divR h0.1 h1.1; rw [h0.2.1, h1.2.1] at k; unfold divQ at k; rw [if_neg c] at k; rw [e]; exact k
theorem n_rat_Sign (h0 : Num LL r0 x0) : PureCalls prog F.rat_Sign [.agg ([.bool r0.neg, nl r0.num, nl r0.den])] [.one (.int .i64 x0.num.sign)] := by rw [← h0.2.1]; exact k_signR h0.1
theorem n_rat_Cmp (h0 : Num LL r0 x0) (h1 : Num LL r1 x1) : PureCalls prog F.rat_Cmp [.agg ([.bool r0.neg, nl r0.num, nl r0.den]), .agg ([.bool r1.neg, nl r1.num, nl r1.den])] [.one (.int .i64 (cmpQ x0 x1))] := by rw [← h0.2.1, ← h1.2.1]; exact c_cmpQ _ _ (okK h0.1) (okK h1.1)
theorem n_penumbraref03_Zero {Z0 : Rat} (y : Z0 = 0) : PureCalls prog F.penumbraref03_Zero [] [.agg ([.bool (decide ((Z0).num < 0)), nn (Z0).num.natAbs, nn (Z0).den])] := by subst y; exact cr_zeroQ
theorem n_penumbraref03_One {Z1 : Rat} (y : Z1 = 1) : PureCalls prog F.penumbraref03_One [] [.agg ([.bool (decide ((Z1).num < 0)), nn (Z1).num.natAbs, nn (Z1).den])] := by subst y; exact cr_one
theorem n_penumbraref03_Read (h0 : Num LL r0 x0) : PureCalls prog F.penumbraref03_Read [.agg ([.bool r0.neg, nl r0.num, nl r0.den])] [.agg ([.bool (decide ((x0).num < 0)), nn (x0).num.natAbs, nn (x0).den])] := by rw [← h0.2.1]; exact kr_readR h0.1
theorem n_penumbraref03_Sub (h0 : Num LL r0 x0) (h1 : Num LL r1 x1) (e : k0 = x0 - x1) : PureCalls prog F.penumbraref03_Sub [.agg ([.bool r0.neg, nl r0.num, nl r0.den]), .agg ([.bool r1.neg, nl r1.num, nl r1.den])] [.agg ([.bool (decide ((k0).num < 0)), nn (k0).num.natAbs, nn (k0).den])] := by rw [e, ← h0.2.1, ← h1.2.1]; exact kr_subR h0.1 h1.1
theorem n_penumbraref03_Add (h0 : Num LL r0 x0) (h1 : Num LL r1 x1) (e : k0 = x0 + x1) : PureCalls prog F.penumbraref03_Add [.agg ([.bool r0.neg, nl r0.num, nl r0.den]), .agg ([.bool r1.neg, nl r1.num, nl r1.den])] [.agg ([.bool (decide ((k0).num < 0)), nn (k0).num.natAbs, nn (k0).den])] := by rw [e, ← h0.2.1, ← h1.2.1]; exact kr_addR h0.1 h1.1
theorem n_penumbraref03_Mul (h0 : Num LL r0 x0) (h1 : Num LL r1 x1) (e : k0 = x0 * x1) : PureCalls prog F.penumbraref03_Mul [.agg ([.bool r0.neg, nl r0.num, nl r0.den]), .agg ([.bool r1.neg, nl r1.num, nl r1.den])] [.agg ([.bool (decide ((k0).num < 0)), nn (k0).num.natAbs, nn (k0).den])] := by rw [e, ← h0.2.1, ← h1.2.1]; exact kr_mulR h0.1 h1.1
theorem n_penumbraref03_Over (h0 : Num LL r0 x0) (h1 : Num LL r1 x1) (e : k0 = x0 / x1) : PureCalls prog F.penumbraref03_Over [.agg ([.bool r0.neg, nl r0.num, nl r0.den]), .agg ([.bool r1.neg, nl r1.num, nl r1.den])] [.agg ([.bool (decide ((k0).num < 0)), nn (k0).num.natAbs, nn (k0).den])] := by rw [e, ← h0.2.1, ← h1.2.1]; exact kr_overR h0.1 h1.1
theorem n_penumbraref03_Sign (h0 : Num LL r0 x0) : PureCalls prog F.penumbraref03_Sign [.agg ([.bool r0.neg, nl r0.num, nl r0.den])] [.one (.int .i64 x0.num.sign)] := by rw [← h0.2.1]; exact kr_signR h0.1
theorem n_penumbraref03_Cmp (h0 : Num LL r0 x0) (h1 : Num LL r1 x1) : PureCalls prog F.penumbraref03_Cmp [.agg ([.bool r0.neg, nl r0.num, nl r0.den]), .agg ([.bool r1.neg, nl r1.num, nl r1.den])] [.one (.int .i64 (cmpQ x0 x1))] := by rw [← h0.2.1, ← h1.2.1]; exact cr_cmpQ _ _ (h0.1.mono (by decide)) (h1.1.mono (by decide))
theorem n_penumbraref03_Of (n d : Int) (h0 : -9223372036854775808 ≤ n) (h1 : n < 9223372036854775808) (h2 : -9223372036854775808 ≤ d) (h3 : d < 9223372036854775808) (e : k0 = ofQ n d) : PureCalls prog F.penumbraref03_Of [.one (.int .i64 n), .one (.int .i64 d)] [.agg ([.bool (decide ((k0).num < 0)), nn (k0).num.natAbs, nn (k0).den])] := by rw [e]; exact cr_ofQ n d h0 h1 h2 h3
theorem n_penumbraref03_Is_t (h0 : Num LL (cr x0) x0) (h1 : Num LL (cr x1) x1) (c : x0 = x1) : PureCalls prog F.penumbraref03_Is [.agg ([.bool (decide ((x0).num < 0)), nn (x0).num.natAbs, nn (x0).den]), .agg ([.bool (decide ((x1).num < 0)), nn (x1).num.natAbs, nn (x1).den])] [.one (.bool true)] := k_is h0.sm c
theorem n_penumbraref03_Is_f (h0 : Num LL (cr x0) x0) (h1 : Num LL (cr x1) x1) (c : ¬x0 = x1) : PureCalls prog F.penumbraref03_Is [.agg ([.bool (decide ((x0).num < 0)), nn (x0).num.natAbs, nn (x0).den]), .agg ([.bool (decide ((x1).num < 0)), nn (x1).num.natAbs, nn (x1).den])] [.one (.bool false)] := by
  have k := cr_is (cr x0) (cr x1) (smK h0.sm) (smK h1.sm)
  rw [eqRR_cr, decide_eq_false c] at k
  exact k
theorem n_vec_Of {o0 o1 o2 : Rat} (x y z : Int) (h0 : -9223372036854775808 ≤ x) (h1 : x < 9223372036854775808) (h2 : -9223372036854775808 ≤ y) (h3 : y < 9223372036854775808) (h4 : -9223372036854775808 ≤ z) (h5 : z < 9223372036854775808) (e0 : o0 = ofQ x 1) (e1 : o1 = ofQ y 1) (e2 : o2 = ofQ z 1) : PureCalls prog F.vec_Of [.one (.int .i64 x), .one (.int .i64 y), .one (.int .i64 z)] [.agg ([.bool (decide ((o0).num < 0)), nn (o0).num.natAbs, nn (o0).den, .bool (decide ((o1).num < 0)), nn (o1).num.natAbs, nn (o1).den, .bool (decide ((o2).num < 0)), nn (o2).num.natAbs, nn (o2).den])] := by
  rw [e0, e1, e2]; exact k_vOf x y z h0 h1 h2 h3 h4 h5
theorem n_penumbraref05_Of {o0 o1 o2 : Rat} (x y z : Int) (h0 : -9223372036854775808 ≤ x) (h1 : x < 9223372036854775808) (h2 : -9223372036854775808 ≤ y) (h3 : y < 9223372036854775808) (h4 : -9223372036854775808 ≤ z) (h5 : z < 9223372036854775808) (e0 : o0 = ofQ x 1) (e1 : o1 = ofQ y 1) (e2 : o2 = ofQ z 1) : PureCalls prog F.penumbraref05_Of [.one (.int .i64 x), .one (.int .i64 y), .one (.int .i64 z)] [.agg ([.bool (decide ((o0).num < 0)), nn (o0).num.natAbs, nn (o0).den, .bool (decide ((o1).num < 0)), nn (o1).num.natAbs, nn (o1).den, .bool (decide ((o2).num < 0)), nn (o2).num.natAbs, nn (o2).den])] := by
  rw [e0, e1, e2]; exact kr_vOf x y z h0 h1 h2 h3 h4 h5
variable {a0 a1 a2 b0 b1 b2 c0 c1 c2 : RR} {x3 x4 x5 x6 x7 x8 o0 o1 o2 : Rat}
theorem n_vec_Sum_2 (h0 : Num 9000000000 a0 x0) (h1 : Num 9000000000 a1 x1) (h2 : Num 9000000000 a2 x2) (h3 : Num 9000000000 b0 x3) (h4 : Num 9000000000 b1 x4) (h5 : Num 9000000000 b2 x5)
    (e0 : o0 = x0 + x3) (e1 : o1 = x1 + x4) (e2 : o2 = x2 + x5) : PureCalls prog F.vec_Sum [.one (rl3 [(a0, a1, a2), (b0, b1, b2)])] [.agg ([.bool (decide ((o0).num < 0)), nn (o0).num.natAbs, nn (o0).den, .bool (decide ((o1).num < 0)), nn (o1).num.natAbs, nn (o1).den, .bool (decide ((o2).num < 0)), nn (o2).num.natAbs, nn (o2).den])] := by
  rw [e0, e1, e2, ← h0.2.1, ← h1.2.1, ← h2.2.1, ← h3.2.1, ← h4.2.1, ← h5.2.1]
  exact k_vsum2 h0.1 h1.1 h2.1 h3.1 h4.1 h5.1
end

/-! Signs and orders, asked for against 0. -/
section
variable {x y : Rat}
theorem sg_lt {Z0 : Rat} (y : Z0 = 0) : x.num.sign < 0 ↔ x < Z0 := by
  subst y; rw [Int.sign_neg_iff, num_neg_iff]
theorem sg_eq {Z0 : Rat} (y : Z0 = 0) : x.num.sign = 0 ↔ x = Z0 := by
  subst y; exact sign_zero
theorem sg_gt {Z0 : Rat} (y : Z0 = 0) : 0 < x.num.sign ↔ Z0 < x := by
  subst y; rw [Int.sign_pos_iff, num_pos_iff]
theorem cq_lt : cmpQ x y < 0 ↔ x < y := by
  unfold cmpQ; rw [sg_lt rfl]; grind
theorem ii_mul {a b c d r : Int} (h : a = c) (k : b = d) (e : IntKind.i64.wrap (c * d) = r) : Prim.den (.bin .mul) [.int .i64 a, .int .i64 b] = some (.int .i64 r) := by subst h k e; rfl
end
end Go.Px.Na

/- Lq: numbers as they are handed over (how they lie, what they are worth, how long they are), and the contracts in these words. -/
import Derived.Test.YtgnhhdgepnfnmaaGreatVs0
set_option maxRecDepth 10000
set_option linter.unusedSimpArgs false
set_option linter.unusedVariables false
namespace Go.Px.Na
open Go.RowKit
open Go.Proofs.Tryz (prog)

/-- r is worth x, and has at most so many limbs. -/
def Num (L : Nat) (r : RR) (x : Rat) : Prop := r.ok L ∧ r.v = x ∧ 0 < L
theorem Num.mono {L M : Nat} {r : RR} {x : Rat} (h : Num L r x) (hl : L ≤ M) : Num M r x := ⟨h.1.mono hl, h.2.1, by have := h.2.2; omega⟩
theorem Num.sm {L : Nat} {r : RR} {x : Rat} (h : Num L r x) : Sm L x := h.2.1 ▸ h.1.sm h.2.2
theorem Num.of {L : Nat} {x : Rat} (h : Sm L x) : Num L (cr x) x := ⟨cr_ok h, cr_v x, h.pos⟩
theorem Num.eqn {L : Nat} {x y : Rat} (e : x = y) (h : Sm L y) : Num L (cr x) x := by subst e; exact .of h
theorem Num.raw {L : Nat} {r : RR} (h : r.ok L) (hl : 0 < L) : ∃ x, Num L r x := ⟨_, h, rfl, hl⟩
theorem Num.c {x q : Rat} (e : x = q) (h1 : q.num.natAbs < 4294967296) (h2 : q.den < 4294967296) : Num 1 (cr x) x := .eqn e ⟨limbs_len (by simpa using h1), limbs_len (by simpa using h2)⟩
/-- A number of which nothing is said. -/
abbrev rz : RR := ⟨false, [], []⟩
theorem Num.zz {Z0 : Rat} (e : Z0 = 0) : Num 1 rz Z0 := by
  subst e
  exact ⟨⟨by simp [WL], by simp [WL], by simp, by simp⟩, by simp [RR.v, sg, val], by decide⟩
theorem t_eq {x y : Rat} (h : ¬x < y) (k : ¬y < x) : x = y := Rat.le_antisymm (Rat.not_lt.1 k) (Rat.not_lt.1 h)
theorem t_nlt {x y : Rat} (h : x = y) : ¬x < y := h ▸ Rat.lt_irrefl
theorem t_asym {x y : Rat} (h : x < y) : ¬y < x := fun k => by grind
theorem t_lt {x y : Rat} (h : ¬y < x) (k : ¬x = y) : x < y := by grind
theorem sq_nn (a : Rat) : 0 ≤ a * a := by
  rcases Rat.le_total (a := 0) (b := a) with h | h
  · exact Rat.mul_nonneg h h
  · have := Rat.mul_nonneg (a := -a) (b := -a) (by grind) (by grind)
    grind
theorem sq_z {a : Rat} (h : a * a = 0) : a = 0 := by rcases Rat.mul_eq_zero.1 h with h | h <;> exact h
theorem sq2_0 {Z0 a b : Rat} (y : Z0 = 0) (h : a * a + b * b = Z0) : a = Z0 := by
  subst y
  exact sq_z (by have := sq_nn a; have := sq_nn b; grind)
theorem sq2_1 {Z0 a b : Rat} (y : Z0 = 0) (h : a * a + b * b = Z0) : b = Z0 := by
  subst y
  exact sq_z (by have := sq_nn a; have := sq_nn b; grind)
theorem sq3_0 {Z0 a b c : Rat} (y : Z0 = 0) (h : a * a + b * b + c * c = Z0) : a = Z0 := by
  subst y
  exact sq_z (by have := sq_nn a; have := sq_nn b; have := sq_nn c; grind)
theorem sq3_1 {Z0 a b c : Rat} (y : Z0 = 0) (h : a * a + b * b + c * c = Z0) : b = Z0 := by
  subst y
  exact sq_z (by have := sq_nn a; have := sq_nn b; have := sq_nn c; grind)
theorem sq3_2 {Z0 a b c : Rat} (y : Z0 = 0) (h : a * a + b * b + c * c = Z0) : c = Z0 := by
  subst y
  exact sq_z (by have := sq_nn a; have := sq_nn b; have := sq_nn c; grind)
theorem ex_eq (y : Rat) : ∃ q, q = y := ⟨y, rfl⟩
theorem div_mul {Z0 q p d : Rat} (y : Z0 = 0) (e : q = p / d) (h : ¬d = Z0) : q * d = p := by subst y; rw [e]; exact Rat.div_mul_cancel h

/-- How dense slopes lie. -/
def dns (x : Rat) : Rat := (1 / 2) / ((1 + x.abs) * (1 + x.abs))
theorem abs_nn (x : Rat) : 0 ≤ x.abs := by
  rcases Rat.le_total (a := 0) (b := x) with h | h
  · rw [Rat.abs_of_nonneg h]; exact h
  · rw [Rat.abs_of_nonpos h]; grind
theorem dns_ne {Z0 Z1 x : Rat} (y : Z0 = 0) (z : Z1 = 1) : ¬(Z1 + x.abs) * (Z1 + x.abs) = Z0 := by
  subst y z
  intro h
  have := abs_nn x
  rcases Rat.mul_eq_zero.1 h with h | h <;> grind
theorem dns_ne2 {Z0 Z1 Z2 x : Rat} (w : Z2 = 2) (y : Z0 = 0) (z : Z1 = 1) : ¬Z2 * ((Z1 + x.abs) * (Z1 + x.abs)) = Z0 := by
  subst w
  intro h
  rcases Rat.mul_eq_zero.1 (y ▸ h) with h | h
  · exact absurd h (by decide)
  · exact dns_ne y z (h.trans y.symm)
theorem dns_eq {Z1 Z1_2 x : Rat} (z : Z1 = 1) (w : Z1_2 = 1 / 2) : dns x = Z1_2 / ((Z1 + x.abs) * (Z1 + x.abs)) := by subst z w; rfl
theorem dns_eq2 {Z1 Z2 x : Rat} (w : Z2 = 2) (z : Z1 = 1) : dns x = Z1 / (Z2 * ((Z1 + x.abs) * (Z1 + x.abs))) := by
  subst z w
  have h := dns_ne (x := x) (Z0 := 0) (Z1 := 1) rfl rfl
  unfold dns
  generalize (1 + x.abs) * (1 + x.abs) = t at h ⊢
  grind
theorem dns_pos {Z0 q x : Rat} (y : Z0 = 0) (e : q = dns x) : Z0 < q := by
  subst y e
  have h := abs_nn x
  have h1 : (0 : Rat) < (1 + x.abs) * (1 + x.abs) := Rat.mul_pos (by grind) (by grind)
  unfold dns
  rw [Rat.div_def]
  exact Rat.mul_pos (by decide +kernel) (Rat.inv_pos.2 h1)
theorem Sm.dns {L : Nat} {x : Rat} (h : Sm L x) : Sm (3 * (2 * L + 4)) (dns x) := by
  have s1 : Sm 1 (1 : Rat) := Sm1
  have s2 : Sm 1 (1 / 2 : Rat) := ⟨limbs_len (by decide +kernel), limbs_len (by decide +kernel)⟩
  exact (s2.div ((s1.add h.abs).mul (s1.add h.abs))).mono (by omega)

/-- Some numbers as they lie, and as they are worth. -/
def gv : List RR → List DV
  | [] => []
  | r :: l => .bool r.neg :: nl r.num :: nl r.den :: gv l
section
variable {r0 r1 r2 : RR} {x0 x1 x2 k0 : Rat}
theorem n_rat_Sum_1 (h0 : Num LL r0 x0) : PureCalls prog F.rat_Sum [.one (rl [r0])] [.agg ([.bool (decide ((x0).num < 0)), nn (x0).num.natAbs, nn (x0).den])] := by rw [← h0.2.1]; exact k_sumR1 h0.1
theorem n_rat_Sum_2 (h0 : Num LL r0 x0) (h1 : Num LL r1 x1) (e : k0 = x0 + x1) : PureCalls prog F.rat_Sum [.one (rl [r0, r1])] [.agg ([.bool (decide ((k0).num < 0)), nn (k0).num.natAbs, nn (k0).den])] := by rw [e, ← h0.2.1, ← h1.2.1]; exact k_sumR2 h0.1 h1.1
theorem n_rat_Sum_3 (h0 : Num LL r0 x0) (h1 : Num LL r1 x1) (h2 : Num LL r2 x2) (e : k0 = x0 + x1 + x2) : PureCalls prog F.rat_Sum [.one (rl [r0, r1, r2])] [.agg ([.bool (decide ((k0).num < 0)), nn (k0).num.natAbs, nn (k0).den])] := by rw [e, ← h0.2.1, ← h1.2.1, ← h2.2.1]; exact k_sumR3 h0.1 h1.1 h2.1
theorem n_rat_Product_1 (h0 : Num LL r0 x0) : PureCalls prog F.rat_Product [.one (rl [r0])] [.agg ([.bool (decide ((x0).num < 0)), nn (x0).num.natAbs, nn (x0).den])] := by rw [← h0.2.1]; exact k_prodR1 h0.1
theorem n_rat_Product_2 (h0 : Num LL r0 x0) (h1 : Num LL r1 x1) (e : k0 = x0 * x1) : PureCalls prog F.rat_Product [.one (rl [r0, r1])] [.agg ([.bool (decide ((k0).num < 0)), nn (k0).num.natAbs, nn (k0).den])] := by rw [e, ← h0.2.1, ← h1.2.1]; exact k_prodR2 h0.1 h1.1
theorem n_rat_Product_3 (h0 : Num LL r0 x0) (h1 : Num LL r1 x1) (h2 : Num LL r2 x2) (e : k0 = x0 * x1 * x2) : PureCalls prog F.rat_Product [.one (rl [r0, r1, r2])] [.agg ([.bool (decide ((k0).num < 0)), nn (k0).num.natAbs, nn (k0).den])] := by rw [e, ← h0.2.1, ← h1.2.1, ← h2.2.1]; exact k_prodR3 h0.1 h1.1 h2.1
theorem n_rat_Product_5 {r3 r4 : RR} {x3 x4 : Rat} (h0 : Num 20000000000 r0 x0) (h1 : Num 20000000000 r1 x1) (h2 : Num 20000000000 r2 x2) (h3 : Num 20000000000 r3 x3) (h4 : Num 20000000000 r4 x4) (e : k0 = x0 * x1 * x2 * x3 * x4) : PureCalls prog F.rat_Product [.one (rl [r0, r1, r2, r3, r4])] [.agg ([.bool (decide ((k0).num < 0)), nn (k0).num.natAbs, nn (k0).den])] := by
  rw [e, ← h0.2.1, ← h1.2.1, ← h2.2.1, ← h3.2.1, ← h4.2.1]
  have s0 := h0.1.sm h0.2.2
  have s1 := h1.1.sm h1.2.2
  have s2 := h2.1.sm h2.2.2
  have s3 := h3.1.sm h3.2.2
  have s4 := h4.1.sm h4.2.2
  have h := c_product [r0, r1, r2, r3, r4] (by simp) (fun x hx => by
    simp only [List.mem_cons, List.not_mem_nil, or_false] at hx
    rcases hx with rfl | rfl | rfl | rfl | rfl
    · exact h0.1.mono (by decide)
    · exact h1.1.mono (by decide)
    · exact h2.1.mono (by decide)
    · exact h3.1.mono (by decide)
    · exact h4.1.mono (by decide)) (fun k => by
    match k with
    | 0 => exact Sm1.mono (by decide)
    | 1 => simp only [prodL, List.take, List.foldl, Rat.one_mul]; exact s0.mono (by decide)
    | 2 => simp only [prodL, List.take, List.foldl, Rat.one_mul]; exact (s0.mul s1).mono (by decide)
    | 3 => simp only [prodL, List.take, List.foldl, Rat.one_mul]; exact ((s0.mul s1).mul s2).mono (by decide)
    | 4 => simp only [prodL, List.take, List.foldl, Rat.one_mul]; exact (((s0.mul s1).mul s2).mul s3).mono (by decide)
    | k + 5 => simp only [prodL, List.take_succ_cons, List.take_nil, List.foldl, Rat.one_mul]; exact ((((s0.mul s1).mul s2).mul s3).mul s4).mono (by decide))
  simp only [prodL, List.foldl, Rat.one_mul] at h
  exact h
theorem n_rat_Read (h0 : Num LL r0 x0) : PureCalls prog F.rat_Read [.agg ([.bool r0.neg, nl r0.num, nl r0.den])] [.agg ([.bool (decide ((x0).num < 0)), nn (x0).num.natAbs, nn (x0).den])] := by rw [← h0.2.1]; exact k_readR h0.1
theorem n_rat_Neg (h0 : Num LL r0 x0) (e : k0 = -x0) : PureCalls prog F.rat_Neg [.agg ([.bool r0.neg, nl r0.num, nl r0.den])] [.agg ([.bool (decide ((k0).num < 0)), nn (k0).num.natAbs, nn (k0).den])] := by rw [e, ← h0.2.1]; exact k_negR h0.1
theorem n_rat_Abs_t {Z0 : Rat} (y : Z0 = 0) (h0 : Num LL r0 x0) (e : k0 = -x0) (c : x0 < Z0) : PureCalls prog F.rat_Abs [.agg ([.bool r0.neg, nl r0.num, nl r0.den])] [.agg ([.bool (decide ((k0).num < 0)), nn (k0).num.natAbs, nn (k0).den])] := by
  subst y
  have k := k_absR h0.1
  rw [h0.2.1] at k
  rw [e, ← Rat.abs_of_nonpos (Rat.le_of_lt c)]; exact k
theorem n_rat_Abs_f {Z0 : Rat} (y : Z0 = 0) (h0 : Num LL r0 x0) (c : ¬x0 < Z0) : PureCalls prog F.rat_Abs [.agg ([.bool r0.neg, nl r0.num, nl r0.den])] [.agg ([.bool (decide ((x0).num < 0)), nn (x0).num.natAbs, nn (x0).den])] := by
  subst y
  have k := k_absR h0.1
  rw [h0.2.1, Rat.abs_of_nonneg (Rat.not_lt.1 c)] at k
  exact k
theorem n_rat_Abs_o (h0 : Num LL r0 x0) (e : k0 = x0.abs) : PureCalls prog F.rat_Abs [.agg ([.bool r0.neg, nl r0.num, nl r0.den])] [.agg ([.bool (decide ((k0).num < 0)), nn (k0).num.natAbs, nn (k0).den])] := by rw [e, ← h0.2.1]; exact k_absR h0.1
theorem n_rat_Sub (h0 : Num LL r0 x0) (h1 : Num LL r1 x1) (e : k0 = x0 - x1) : PureCalls prog F.rat_Sub [.agg ([.bool r0.neg, nl r0.num, nl r0.den]), .agg ([.bool r1.neg, nl r1.num, nl r1.den])] [.agg ([.bool (decide ((k0).num < 0)), nn (k0).num.natAbs, nn (k0).den])] := by rw [e, ← h0.2.1, ← h1.2.1]; exact k_subR h0.1 h1.1
theorem n_rat_Of (n d : Int) (h0 : -9223372036854775808 ≤ n) (h1 : n < 9223372036854775808) (h2 : -9223372036854775808 ≤ d) (h3 : d < 9223372036854775808) (e : k0 = ofQ n d) : PureCalls prog F.rat_Of [.one (.int .i64 n), .one (.int .i64 d)] [.agg ([.bool (decide ((k0).num < 0)), nn (k0).num.natAbs, nn (k0).den])] := by rw [e]; exact c_ofQ n d h0 h1 h2 h3
theorem n_rat_Same_t (h0 : Num LL r0 x0) (h1 : Num LL r1 x1) (c : x0 = x1) : PureCalls prog F.rat_Same [.agg ([.bool r0.neg, nl r0.num, nl r0.den]), .agg ([.bool r1.neg, nl r1.num, nl r1.den])] [.one (.bool true)] := by have k := k_sameR h0.1 h1.1; rw [h0.2.1, h1.2.1, decide_eq_true c] at k; exact k
theorem n_rat_Same_f (h0 : Num LL r0 x0) (h1 : Num LL r1 x1) (c : ¬x0 = x1) : PureCalls prog F.rat_Same [.agg ([.bool r0.neg, nl r0.num, nl r0.den]), .agg ([.bool r1.neg, nl r1.num, nl r1.den])] [.one (.bool false)] := by have k := k_sameR h0.1 h1.1; rw [h0.2.1, h1.2.1, decide_eq_false c] at k; exact k
theorem n_rat_Div_t {Z0 : Rat} (y : Z0 = 0) (h0 : Num LL r0 x0) (h1 : Num LL r1 x1) (c : x1 = Z0) : PureCalls prog F.rat_Div [.agg ([.bool r0.neg, nl r0.num, nl r0.den]), .agg ([.bool r1.neg, nl r1.num, nl r1.den])] [.agg ([.bool (decide ((Z0).num < 0)), nn (Z0).num.natAbs, nn (Z0).den]), .one (.bool false)] := by
  subst y
  have k := k_divR h0.1 h1.1; rw [h0.2.1, h1.2.1] at k; unfold divQ at k; rw [if_pos c] at k; exact k
theorem n_rat_Div_f {Z0 : Rat} (y : Z0 = 0) (h0 : Num LL r0 x0) (h1 : Num LL r1 x1) (e : k0 = x0 / x1) (c : ¬x1 = Z0) : PureCalls prog F.rat_Div [.agg ([.bool r0.neg, nl r0.num, nl r0.den]), .agg ([.bool r1.neg, nl r1.num, nl r1.den])] [.agg ([.bool (decide ((k0).num < 0)), nn (k0).num.natAbs, nn (k0).den]), .one (.bool true)] := by
  subst y
  have k := k_divR h0.1 h1.1; rw [h0.2.1, h1.2.1] at k; unfold divQ at k; rw [if_neg c] at k; rw [e]; exact k
theorem n_rat_Sign (h0 : Num LL r0 x0) : PureCalls prog F.rat_Sign [.agg ([.bool r0.neg, nl r0.num, nl r0.den])] [.one (.int .i64 x0.num.sign)] := by rw [← h0.2.1]; exact k_signR h0.1
theorem n_rat_Cmp (h0 : Num LL r0 x0) (h1 : Num LL r1 x1) : PureCalls prog F.rat_Cmp [.agg ([.bool r0.neg, nl r0.num, nl r0.den]), .agg ([.bool r1.neg, nl r1.num, nl r1.den])] [.one (.int .i64 (cmpQ x0 x1))] := by rw [← h0.2.1, ← h1.2.1]; exact c_cmpQ _ _ (okK h0.1) (okK h1.1)
theorem n_penumbraref03_Zero {Z0 : Rat} (y : Z0 = 0) : PureCalls prog F.penumbraref03_Zero [] [.agg ([.bool (decide ((Z0).num < 0)), nn (Z0).num.natAbs, nn (Z0).den])] := by subst y; exact cr_zeroQ
theorem n_penumbraref03_One {Z1 : Rat} (y : Z1 = 1) : PureCalls prog F.penumbraref03_One [] [.agg ([.bool (decide ((Z1).num < 0)), nn (Z1).num.natAbs, nn (Z1).den])] := by subst y; exact cr_one
theorem n_rat_Product_0 {Z1 : Rat} (y : Z1 = 1) : PureCalls prog F.rat_Product [.one (.list 0 [])] [.agg ([.bool (decide ((Z1).num < 0)), nn (Z1).num.natAbs, nn (Z1).den])] := by subst y; exact k_prod0
theorem n_penumbraref03_Read (h0 : Num LL r0 x0) : PureCalls prog F.penumbraref03_Read [.agg ([.bool r0.neg, nl r0.num, nl r0.den])] [.agg ([.bool (decide ((x0).num < 0)), nn (x0).num.natAbs, nn (x0).den])] := by rw [← h0.2.1]; exact kr_readR h0.1
theorem n_penumbraref03_Neg (h0 : Num LL r0 x0) (e : k0 = -x0) : PureCalls prog F.penumbraref03_Neg [.agg ([.bool r0.neg, nl r0.num, nl r0.den])] [.agg ([.bool (decide ((k0).num < 0)), nn (k0).num.natAbs, nn (k0).den])] := by rw [e, ← h0.2.1]; exact kr_negR h0.1
theorem n_penumbraref03_Abs_t {Z0 : Rat} (y : Z0 = 0) (h0 : Num LL r0 x0) (e : k0 = -x0) (c : x0 < Z0) : PureCalls prog F.penumbraref03_Abs [.agg ([.bool r0.neg, nl r0.num, nl r0.den])] [.agg ([.bool (decide ((k0).num < 0)), nn (k0).num.natAbs, nn (k0).den])] := by
  subst y
  have k := kr_absR h0.1
  rw [h0.2.1] at k
  rw [e, ← Rat.abs_of_nonpos (Rat.le_of_lt c)]; exact k
theorem n_penumbraref03_Abs_f {Z0 : Rat} (y : Z0 = 0) (h0 : Num LL r0 x0) (c : ¬x0 < Z0) : PureCalls prog F.penumbraref03_Abs [.agg ([.bool r0.neg, nl r0.num, nl r0.den])] [.agg ([.bool (decide ((x0).num < 0)), nn (x0).num.natAbs, nn (x0).den])] := by
  subst y
  have k := kr_absR h0.1
  rw [h0.2.1, Rat.abs_of_nonneg (Rat.not_lt.1 c)] at k
  exact k
theorem n_penumbraref03_Sub (h0 : Num LL r0 x0) (h1 : Num LL r1 x1) (e : k0 = x0 - x1) : PureCalls prog F.penumbraref03_Sub [.agg ([.bool r0.neg, nl r0.num, nl r0.den]), .agg ([.bool r1.neg, nl r1.num, nl r1.den])] [.agg ([.bool (decide ((k0).num < 0)), nn (k0).num.natAbs, nn (k0).den])] := by rw [e, ← h0.2.1, ← h1.2.1]; exact kr_subR h0.1 h1.1
theorem n_penumbraref03_Add (h0 : Num LL r0 x0) (h1 : Num LL r1 x1) (e : k0 = x0 + x1) : PureCalls prog F.penumbraref03_Add [.agg ([.bool r0.neg, nl r0.num, nl r0.den]), .agg ([.bool r1.neg, nl r1.num, nl r1.den])] [.agg ([.bool (decide ((k0).num < 0)), nn (k0).num.natAbs, nn (k0).den])] := by rw [e, ← h0.2.1, ← h1.2.1]; exact kr_addR h0.1 h1.1
theorem n_penumbraref03_Mul (h0 : Num LL r0 x0) (h1 : Num LL r1 x1) (e : k0 = x0 * x1) : PureCalls prog F.penumbraref03_Mul [.agg ([.bool r0.neg, nl r0.num, nl r0.den]), .agg ([.bool r1.neg, nl r1.num, nl r1.den])] [.agg ([.bool (decide ((k0).num < 0)), nn (k0).num.natAbs, nn (k0).den])] := by rw [e, ← h0.2.1, ← h1.2.1]; exact kr_mulR h0.1 h1.1
theorem n_penumbraref03_Over (h0 : Num LL r0 x0) (h1 : Num LL r1 x1) (e : k0 = x0 / x1) : PureCalls prog F.penumbraref03_Over [.agg ([.bool r0.neg, nl r0.num, nl r0.den]), .agg ([.bool r1.neg, nl r1.num, nl r1.den])] [.agg ([.bool (decide ((k0).num < 0)), nn (k0).num.natAbs, nn (k0).den])] := by rw [e, ← h0.2.1, ← h1.2.1]; exact kr_overR h0.1 h1.1
theorem n_penumbraref03_Div_t {Z0 : Rat} (y : Z0 = 0) (h0 : Num LL r0 x0) (h1 : Num LL r1 x1) (c : x1 = Z0) : PureCalls prog F.penumbraref03_Div [.agg ([.bool r0.neg, nl r0.num, nl r0.den]), .agg ([.bool r1.neg, nl r1.num, nl r1.den])] [.agg ([.bool (decide ((Z0).num < 0)), nn (Z0).num.natAbs, nn (Z0).den]), .one (.bool false)] := by
  subst y
  have k := kr_divR h0.1 h1.1; rw [h0.2.1, h1.2.1] at k; unfold divQ at k; rw [if_pos c] at k; exact k
theorem n_penumbraref03_Div_f {Z0 : Rat} (y : Z0 = 0) (h0 : Num LL r0 x0) (h1 : Num LL r1 x1) (e : k0 = x0 / x1) (c : ¬x1 = Z0) : PureCalls prog F.penumbraref03_Div [.agg ([.bool r0.neg, nl r0.num, nl r0.den]), .agg ([.bool r1.neg, nl r1.num, nl r1.den])] [.agg ([.bool (decide ((k0).num < 0)), nn (k0).num.natAbs, nn (k0).den]), .one (.bool true)] := by
  subst y
  have k := kr_divR h0.1 h1.1; rw [h0.2.1, h1.2.1] at k; unfold divQ at k; rw [if_neg c] at k; rw [e]; exact k
theorem n_penumbraref03_Sign (h0 : Num LL r0 x0) : PureCalls prog F.penumbraref03_Sign [.agg ([.bool r0.neg, nl r0.num, nl r0.den])] [.one (.int .i64 x0.num.sign)] := by rw [← h0.2.1]; exact kr_signR h0.1
theorem n_penumbraref03_Cmp (h0 : Num LL r0 x0) (h1 : Num LL r1 x1) : PureCalls prog F.penumbraref03_Cmp [.agg ([.bool r0.neg, nl r0.num, nl r0.den]), .agg ([.bool r1.neg, nl r1.num, nl r1.den])] [.one (.int .i64 (cmpQ x0 x1))] := by rw [← h0.2.1, ← h1.2.1]; exact cr_cmpQ _ _ (h0.1.mono (by decide)) (h1.1.mono (by decide))
theorem n_penumbraref03_Of (n d : Int) (h0 : -9223372036854775808 ≤ n) (h1 : n < 9223372036854775808) (h2 : -9223372036854775808 ≤ d) (h3 : d < 9223372036854775808) (e : k0 = ofQ n d) : PureCalls prog F.penumbraref03_Of [.one (.int .i64 n), .one (.int .i64 d)] [.agg ([.bool (decide ((k0).num < 0)), nn (k0).num.natAbs, nn (k0).den])] := by rw [e]; exact cr_ofQ n d h0 h1 h2 h3
theorem n_penumbraref03_Is_t (h0 : Num LL (cr x0) x0) (h1 : Num LL (cr x1) x1) (c : x0 = x1) : PureCalls prog F.penumbraref03_Is [.agg ([.bool (decide ((x0).num < 0)), nn (x0).num.natAbs, nn (x0).den]), .agg ([.bool (decide ((x1).num < 0)), nn (x1).num.natAbs, nn (x1).den])] [.one (.bool true)] := k_is h0.sm c
theorem n_penumbraref03_Is_f (h0 : Num LL (cr x0) x0) (h1 : Num LL (cr x1) x1) (c : ¬x0 = x1) : PureCalls prog F.penumbraref03_Is [.agg ([.bool (decide ((x0).num < 0)), nn (x0).num.natAbs, nn (x0).den]), .agg ([.bool (decide ((x1).num < 0)), nn (x1).num.natAbs, nn (x1).den])] [.one (.bool false)] := by
  have k := cr_is (cr x0) (cr x1) (smK h0.sm) (smK h1.sm)
  rw [eqRR_cr, decide_eq_false c] at k
  exact k
theorem n_vec_Of {o0 o1 o2 : Rat} (x y z : Int) (h0 : -9223372036854775808 ≤ x) (h1 : x < 9223372036854775808) (h2 : -9223372036854775808 ≤ y) (h3 : y < 9223372036854775808) (h4 : -9223372036854775808 ≤ z) (h5 : z < 9223372036854775808) (e0 : o0 = ofQ x 1) (e1 : o1 = ofQ y 1) (e2 : o2 = ofQ z 1) : PureCalls prog F.vec_Of [.one (.int .i64 x), .one (.int .i64 y), .one (.int .i64 z)] [.agg ([.bool (decide ((o0).num < 0)), nn (o0).num.natAbs, nn (o0).den, .bool (decide ((o1).num < 0)), nn (o1).num.natAbs, nn (o1).den, .bool (decide ((o2).num < 0)), nn (o2).num.natAbs, nn (o2).den])] := by
  rw [e0, e1, e2]; exact k_vOf x y z h0 h1 h2 h3 h4 h5
theorem n_penumbraref05_Of {o0 o1 o2 : Rat} (x y z : Int) (h0 : -9223372036854775808 ≤ x) (h1 : x < 9223372036854775808) (h2 : -9223372036854775808 ≤ y) (h3 : y < 9223372036854775808) (h4 : -9223372036854775808 ≤ z) (h5 : z < 9223372036854775808) (e0 : o0 = ofQ x 1) (e1 : o1 = ofQ y 1) (e2 : o2 = ofQ z 1) : PureCalls prog F.penumbraref05_Of [.one (.int .i64 x), .one (.int .i64 y), .one (.int .i64 z)] [.agg ([.bool (decide ((o0).num < 0)), nn (o0).num.natAbs, nn (o0).den, .bool (decide ((o1).num < 0)), nn (o1).num.natAbs, nn (o1).den, .bool (decide ((o2).num < 0)), nn (o2).num.natAbs, nn (o2).den])] := by
  rw [e0, e1, e2]; exact kr_vOf x y z h0 h1 h2 h3 h4 h5
theorem n_vec_Sum_0 {Z0 : Rat} (y : Z0 = 0) : PureCalls prog F.vec_Sum [.one (.list 0 [])] [.agg ([.bool (decide ((Z0).num < 0)), nn (Z0).num.natAbs, nn (Z0).den, .bool (decide ((Z0).num < 0)), nn (Z0).num.natAbs, nn (Z0).den, .bool (decide ((Z0).num < 0)), nn (Z0).num.natAbs, nn (Z0).den])] := by subst y; exact k_vsum0
variable {a0 a1 a2 b0 b1 b2 c0 c1 c2 : RR} {x3 x4 x5 x6 x7 x8 o0 o1 o2 : Rat}
theorem n_vec_Sum_2 (h0 : Num 9000000000 a0 x0) (h1 : Num 9000000000 a1 x1) (h2 : Num 9000000000 a2 x2) (h3 : Num 9000000000 b0 x3) (h4 : Num 9000000000 b1 x4) (h5 : Num 9000000000 b2 x5)
    (e0 : o0 = x0 + x3) (e1 : o1 = x1 + x4) (e2 : o2 = x2 + x5) : PureCalls prog F.vec_Sum [.one (rl3 [(a0, a1, a2), (b0, b1, b2)])] [.agg ([.bool (decide ((o0).num < 0)), nn (o0).num.natAbs, nn (o0).den, .bool (decide ((o1).num < 0)), nn (o1).num.natAbs, nn (o1).den, .bool (decide ((o2).num < 0)), nn (o2).num.natAbs, nn (o2).den])] := by
  rw [e0, e1, e2, ← h0.2.1, ← h1.2.1, ← h2.2.1, ← h3.2.1, ← h4.2.1, ← h5.2.1]
  exact k_vsum2 h0.1 h1.1 h2.1 h3.1 h4.1 h5.1
theorem n_vec_Sum_3 (h0 : Num 9000000000 a0 x0) (h1 : Num 9000000000 a1 x1) (h2 : Num 9000000000 a2 x2) (h3 : Num 9000000000 b0 x3) (h4 : Num 9000000000 b1 x4) (h5 : Num 9000000000 b2 x5) (h6 : Num 9000000000 c0 x6) (h7 : Num 9000000000 c1 x7) (h8 : Num 9000000000 c2 x8)
    (e0 : o0 = x0 + x3 + x6) (e1 : o1 = x1 + x4 + x7) (e2 : o2 = x2 + x5 + x8) : PureCalls prog F.vec_Sum [.one (rl3 [(a0, a1, a2), (b0, b1, b2), (c0, c1, c2)])] [.agg ([.bool (decide ((o0).num < 0)), nn (o0).num.natAbs, nn (o0).den, .bool (decide ((o1).num < 0)), nn (o1).num.natAbs, nn (o1).den, .bool (decide ((o2).num < 0)), nn (o2).num.natAbs, nn (o2).den])] := by
  rw [e0, e1, e2, ← h0.2.1, ← h1.2.1, ← h2.2.1, ← h3.2.1, ← h4.2.1, ← h5.2.1, ← h6.2.1, ← h7.2.1, ← h8.2.1]
  exact k_vsum3 h0.1 h1.1 h2.1 h3.1 h4.1 h5.1 h6.1 h7.1 h8.1
end

/-! Signs and orders, asked for against 0. -/
section
variable {x y : Rat}
theorem sg_lt {Z0 : Rat} (y : Z0 = 0) : x.num.sign < 0 ↔ x < Z0 := by
  subst y; rw [Int.sign_neg_iff, num_neg_iff]
theorem sg_eq {Z0 : Rat} (y : Z0 = 0) : x.num.sign = 0 ↔ x = Z0 := by
  subst y; exact sign_zero
theorem sg_gt {Z0 : Rat} (y : Z0 = 0) : 0 < x.num.sign ↔ Z0 < x := by
  subst y; rw [Int.sign_pos_iff, num_pos_iff]
theorem cq_lt : cmpQ x y < 0 ↔ x < y := by
  unfold cmpQ; rw [sg_lt rfl]; grind
theorem cq_gt : 0 < cmpQ x y ↔ y < x := by
  unfold cmpQ; rw [sg_gt rfl]; grind
theorem cq_eq : cmpQ x y = 0 ↔ x = y := cmpQ_eq
theorem cs_lss_t {z : Int} (c : z < 0) : Prim.den (.bin .lss) [.int .i64 z, .int .i64 0] = some (.bool true) := by rw [d_lss, decide_eq_true c]
theorem cs_lss_f {z : Int} (c : ¬z < 0) : Prim.den (.bin .lss) [.int .i64 z, .int .i64 0] = some (.bool false) := by rw [d_lss, decide_eq_false c]
theorem cs_geq_t {z : Int} (c : ¬z < 0) : Prim.den (.bin .geq) [.int .i64 z, .int .i64 0] = some (.bool true) := by rw [d_geq, decide_eq_true (by omega)]
theorem cs_geq_f {z : Int} (c : z < 0) : Prim.den (.bin .geq) [.int .i64 z, .int .i64 0] = some (.bool false) := by rw [d_geq, decide_eq_false (by omega)]
theorem cs_gtr_t {z : Int} (c : 0 < z) : Prim.den (.bin .gtr) [.int .i64 z, .int .i64 0] = some (.bool true) := by rw [d_gtr, decide_eq_true c]
theorem cs_gtr_f {z : Int} (c : ¬0 < z) : Prim.den (.bin .gtr) [.int .i64 z, .int .i64 0] = some (.bool false) := by rw [d_gtr, decide_eq_false c]
theorem cs_leq_t {z : Int} (c : ¬0 < z) : Prim.den (.bin .leq) [.int .i64 z, .int .i64 0] = some (.bool true) := by rw [d_leq, decide_eq_true (by omega)]
theorem cs_leq_f {z : Int} (c : 0 < z) : Prim.den (.bin .leq) [.int .i64 z, .int .i64 0] = some (.bool false) := by rw [d_leq, decide_eq_false (by omega)]
theorem cs_eql_t {z : Int} (c : z = 0) : Prim.den (.bin .eql) [.int .i64 z, .int .i64 0] = some (.bool true) := by rw [d_eql, decide_eq_true c]
theorem cs_eql_f {z : Int} (c : ¬z = 0) : Prim.den (.bin .eql) [.int .i64 z, .int .i64 0] = some (.bool false) := by rw [d_eql, decide_eq_false c]
theorem cs_neq_t {z : Int} (c : ¬z = 0) : Prim.den (.bin .neq) [.int .i64 z, .int .i64 0] = some (.bool true) := by rw [d_neq, decide_eq_true c]
theorem cs_neq_f {z : Int} (c : z = 0) : Prim.den (.bin .neq) [.int .i64 z, .int .i64 0] = some (.bool false) := by rw [d_neq, decide_eq_false (by simpa using c)]
theorem sgn_m {Z0 : Rat} (y : Z0 = 0) (c : x < Z0) : x.num.sign = -1 := by have h := (sg_lt y).2 c; rcases Int.sign_trichotomy x.num with k | k | k <;> omega
theorem sgn_z {Z0 : Rat} (y : Z0 = 0) (c : x = Z0) : x.num.sign = 0 := (sg_eq y).2 c
theorem sgn_p {Z0 : Rat} (y : Z0 = 0) (c : ¬x < Z0) (d : ¬x = Z0) : x.num.sign = 1 := by
  subst y
  have h : ¬x.num.sign < 0 := fun z => c ((sg_lt rfl).1 z)
  have h' : ¬x.num.sign = 0 := fun z => d (sign_zero.1 z)
  rcases Int.sign_trichotomy x.num with k | k | k <;> omega
theorem cmp_m (c : x < y) : cmpQ x y = -1 := cmpQ_lt.2 c
theorem cmp_z (c : x = y) : cmpQ x y = 0 := cmpQ_eq.2 c
theorem cmp_p (c : ¬x < y) (d : ¬x = y) : cmpQ x y = 1 := cmpQ_gt.2 (t_lt c fun z => d z.symm)
theorem ii_eql {a b c d : Int} {r : Bool} (h : a = c) (k : b = d) (e : decide (c = d) = r) : Prim.den (.bin .eql) [.int .i64 a, .int .i64 b] = some (.bool r) := by subst h k e; exact d_eql
theorem ii_mul {a b c d r : Int} (h : a = c) (k : b = d) (e : IntKind.i64.wrap (c * d) = r) : Prim.den (.bin .mul) [.int .i64 a, .int .i64 b] = some (.int .i64 r) := by subst h k e; rfl
theorem ii_neq {a b c d : Int} {r : Bool} (h : a = c) (k : b = d) (e : decide (c ≠ d) = r) : Prim.den (.bin .neq) [.int .i64 a, .int .i64 b] = some (.bool r) := by subst h k e; exact d_neq
theorem sg_mp {p q : Prop} (h : p ↔ q) : (q → p) ∧ (¬q → ¬p) := ⟨h.2, fun a b => a (h.1 b)⟩
end
end Go.Px.Na

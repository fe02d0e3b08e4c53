/- Rr: the document's numbers. -/
import Derived.Test.YtnohcccgfefnkaaGreatRt3
set_option maxRecDepth 10000
set_option linter.unusedSimpArgs false
set_option linter.unusedVariables false
namespace Go.Px.Na
open Go.RowKit
variable {P : Program}

theorem RR.ok.wl {r : RR} (h : r.ok KL) : (r.num.length ≤ 2600000000000 ∧ r.den.length ≤ 2600000000000) := ⟨Nat.le_trans h.2.2.1 (by decide), Nat.le_trans h.2.2.2 (by decide)⟩

def CRIs (P : Program) : Prop := ∀ r s : RR, r.ok KL → s.ok KL → PureCalls P F.penumbraref03_Is [.agg r.dv, .agg s.dv] [.one (.bool (eqRR r s))]
theorem wr_is (c : CRSame P) {r s : RR} (hr : r.ok KL) (hs : s.ok KL) : IRwp P [] (flatAll [.agg r.dv, .agg s.dv]) ir_penumbraref03_Is (· = [.one (.bool (eqRR r s))]) := by
  unfold ir_penumbraref03_Is
  rw [fa_aggdv, fa_aggdv]
  have l1 := hr.len
  have l2 := hs.len
  unfold eqRR
  simp (disch := omega) only [STP]
  refine itb_step rfl ?_ ?_
  · intro h1
    refine call_step (c _ _ l1.1 l2.1) rfl ?_
    simp (disch := omega) only [STP]
    refine ite_step rfl ?_ ?_
    · intro h2
      refine call_step (c _ _ l1.2 l2.2) rfl ?_
      refine ret_step ?_
      rw [h1]; simp [h2, Arg.ev, A.ev, flatAll, AV.flat]
    · intro h2
      refine ret_step ?_
      rw [h1]; simp [h2, Arg.ev, A.ev]
  · intro h1
    refine ret_step ?_
    rw [h1]; rfl

def CROne (P : Program) : Prop := PureCalls P F.penumbraref03_One [] [.agg (rd 1)]
theorem wr_one : IRwp P [] [] ir_penumbraref03_One (· = [.agg (rd 1)]) := by
  unfold ir_penumbraref03_One
  have e : Prim.den (.mk 1) [.int .u32 1] = some (nl [1]) := rfl
  simp (disch := omega) only [STP, e]
  refine ret_step ?_
  rw [rd_one]; rfl
def CRZeroQ (P : Program) : Prop := PureCalls P F.penumbraref03_Zero [] [.agg (rd 0)]
theorem wr_zeroQ : IRwp P [] [] ir_penumbraref03_Zero (· = [.agg (rd 0)]) := by
  unfold ir_penumbraref03_Zero
  have e : Prim.den (.mk 1) [.int .u32 1] = some (nl [1]) := rfl
  simp (disch := omega) only [STP, e]
  refine ret_step ?_
  rw [rd_zero]; rfl

/-- Twice as many limbs as a number has. -/
abbrev KL2 : Nat := 2600000000001
theorem ok_wh {r : RR} (h : r.ok KL2) : WH r.num ∧ WH r.den := ⟨⟨h.1, Nat.le_trans h.2.2.1 (by decide)⟩, ⟨h.2.1, Nat.le_trans h.2.2.2 (by decide)⟩⟩
theorem RR.ok.two {r : RR} (h : r.ok KL) : r.ok KL2 := h.mono (by decide)
def CRRead (P : Program) : Prop := ∀ r : RR, r.ok KL2 → PureCalls P F.penumbraref03_Read [.agg r.dv] [.agg (rd r.v)]
theorem wr_read (c0 : CRZero P) (c1 : CRZeroQ P) (c2 : CRGcd P) (c3 : CRDivMod P) {r : RR} (hr : r.ok KL2) : IRwp P [] (flatAll [.agg r.dv]) ir_penumbraref03_Read (· = [.agg (rd r.v)]) := by
  unfold ir_penumbraref03_Read
  rw [fa_aggdv]
  obtain ⟨h1, h2⟩ := ok_wh hr
  refine call_step (c0 r.den h2.1 (Nat.le_trans h2.2 (by decide))) rfl ?_
  refine ite_step rfl ?_ ?_
  · intro hz
    refine call_step c1 rfl ?_
    have : r.v = 0 := by unfold RR.v; rw [hz, Rat.mkRat_zero]
    rw [this]
    exact ret_step rfl
  · intro hd
    refine call_step (c0 r.num h1.1 (Nat.le_trans h1.2 (by decide))) rfl ?_
    refine ite_step rfl ?_ ?_
    · intro hz
      refine call_step c1 rfl ?_
      have : r.v = 0 := by unfold RR.v; rw [hz, sg_zero, Rat.zero_mkRat]
      rw [this]
      exact ret_step rfl
    · intro hn
      refine call_step (c2 r.num r.den h1 h2) rfl ?_
      have hg : 0 < Nat.gcd (val r.num) (val r.den) := Nat.gcd_pos_of_pos_left _ (by omega)
      have hgl : (limbs (Nat.gcd (val r.num) (val r.den))).length ≤ r.num.length := Nat.le_trans (limbs_len_mono (Nat.le_of_dvd (by omega) (Nat.gcd_dvd_left _ _))) (limbs_len_le h1.1)
      have wg : WH (limbs (Nat.gcd (val r.num) (val r.den))) := ⟨WL_limbs _, Nat.le_trans hgl h1.2⟩
      have k1 := c3 r.num _ h1 wg
      have k2 := c3 r.den _ h2 wg
      rw [val_limbs] at k1 k2
      unfold divRes at k1 k2
      rw [if_neg (by omega)] at k1 k2
      refine call_step k1 rfl ?_
      refine call_step k2 rfl ?_
      refine ret_step ?_
      unfold RR.v
      rw [rd_mkRat hn hd]; rfl

def CRSign (P : Program) : Prop := ∀ r : RR, r.ok KL → PureCalls P F.penumbraref03_Sign [.agg r.dv] [.one (.int .i64 r.v.num.sign)]
theorem wr_sign (c : CRZero P) {r : RR} (hr : r.ok KL) : IRwp P [] (flatAll [.agg r.dv]) ir_penumbraref03_Sign (· = [.one (.int .i64 r.v.num.sign)]) := by
  unfold ir_penumbraref03_Sign
  rw [fa_aggdv, sign_v]
  have l := hr.len
  refine call_step (c r.num hr.1 l.1) rfl ?_
  refine ite_step rfl ?_ ?_
  · intro h
    rw [if_pos (.inl h)]
    exact ret_step rfl
  · intro hn
    refine call_step (c r.den hr.2.1 l.2) rfl ?_
    refine ite_step rfl ?_ ?_
    · intro h
      rw [if_pos (.inr h)]
      exact ret_step rfl
    · intro hd
      rw [if_neg (by simp [hn, hd])]
      refine itb_step rfl ?_ ?_
      · intro h
        have h : r.neg = true := h
        rw [h]; exact ret_step rfl
      · intro h
        have h : r.neg = false := h
        rw [h]; exact ret_step rfl

def CRNeg (P : Program) : Prop := ∀ r : RR, r.ok KL → PureCalls P F.penumbraref03_Neg [.agg r.dv] [.agg (rd (-r.v))]
theorem wr_neg (c : CRRead P) {r : RR} (hr : r.ok KL) : IRwp P [] (flatAll [.agg r.dv]) ir_penumbraref03_Neg (· = [.agg (rd (-r.v))]) := by
  unfold ir_penumbraref03_Neg
  rw [fa_aggdv]
  simp (disch := omega) only [STP]
  have k := c r.ng (ng_ok hr).two
  rw [ng_v] at k
  refine call_step k rfl ?_
  exact ret_step rfl

theorem mul_len {a b : List Nat} (ha : WL a) (hb : WL b) (hla : a.length ≤ KL) (hlb : b.length ≤ KL) : (limbs (val a * val b)).length ≤ KL2 - 1 := by
  refine Nat.le_trans (limbs_len (k := a.length + b.length) ?_) ?_
  · rw [Nat.pow_add]; exact Nat.mul_lt_mul'' (val_lt ha) (val_lt hb)
  · have : KL + KL ≤ KL2 - 1 := by decide
    omega
theorem add_len {m n : Nat} {L : Nat} (h1 : (limbs m).length ≤ L) (h2 : (limbs n).length ≤ L) : (limbs (m + n)).length ≤ L + 1 := by
  refine limbs_len ?_
  have a := len_le_iff.1 h1
  have b := len_le_iff.1 h2
  rw [Nat.pow_succ]
  generalize (4294967296 : Nat) ^ L = Z at *
  omega
theorem n218 : KL2 - 1 ≤ 4398046511103 := by decide

def CRAddQ (P : Program) : Prop := ∀ r s : RR, r.ok KL → s.ok KL → PureCalls P F.penumbraref03_Add [.agg r.dv, .agg s.dv] [.agg (rd (r.v + s.v))]
theorem wr_addQ (c0 : CRSign P) (c1 : CRRead P) (c2 : CRMul P) (c3 : CRAdd P) (c4 : CRCmp P) (c5 : CRSub P) {r s : RR} (hr : r.ok KL) (hs : s.ok KL) : IRwp P [] (flatAll [.agg r.dv, .agg s.dv]) ir_penumbraref03_Add (· = [.agg (rd (r.v + s.v))]) := by
  unfold ir_penumbraref03_Add
  rw [fa_aggdv, fa_aggdv]
  refine call_step (c0 r hr) rfl ?_
  simp (disch := omega) only [STP]
  refine ite_step rfl ?_ ?_
  · intro h
    refine call_step (c1 s hs.two) rfl ?_
    rw [sign_zero.1 h, Rat.zero_add]
    exact ret_step rfl
  · intro h1
    refine call_step (c0 s hs) rfl ?_
    simp (disch := omega) only [STP]
    refine ite_step rfl ?_ ?_
    · intro h
      refine call_step (c1 r hr.two) rfl ?_
      rw [sign_zero.1 h, Rat.add_zero]
      exact ret_step rfl
    · intro h2
      have z1 : val r.den ≠ 0 := fun hz => h1 (by unfold RR.v; rw [hz, Rat.mkRat_zero]; rfl)
      have z2 : val s.den ≠ 0 := fun hz => h2 (by unfold RR.v; rw [hz, Rat.mkRat_zero]; rfl)
      have a1 := hr.wl
      have a2 := hs.wl
      refine call_step (c2 _ _ hr.1 hs.2.1 (by omega) (by omega)) rfl ?_
      refine call_step (c2 _ _ hs.1 hr.2.1 (by omega) (by omega)) rfl ?_
      refine call_step (c2 _ _ hr.2.1 hs.2.1 (by omega) (by omega)) rfl ?_
      have l1 := mul_len hr.1 hs.2.1 hr.2.2.1 hs.2.2.2
      have l2 := mul_len hs.1 hr.2.1 hs.2.2.1 hr.2.2.2
      have l3 := mul_len hr.2.1 hs.2.1 hr.2.2.2 hs.2.2.2
      have hsum : r.v + s.v = mkRat (sg r.neg (val r.num * val s.den) + sg s.neg (val s.num * val r.den)) (val r.den * val s.den) := by
        unfold RR.v
        rw [Rat.mkRat_add_mkRat _ _ z1 z2, sg_mul, sg_mul]
      rw [hsum]
      generalize val r.num * val s.den = x at *
      generalize val s.num * val r.den = y at *
      generalize val r.den * val s.den = d at *
      generalize r.neg = a at *
      generalize s.neg = b at *
      have lx := add_len l1 l2
      have w1 : ∀ (c : Bool) (n : Nat), (limbs n).length ≤ KL2 - 1 + 1 → PureCalls P F.penumbraref03_Read [.agg [.bool c, nn n, nn d]] [.agg (rd (mkRat (sg c n) d))] := fun c n hn => by
        have k := c1 ⟨c, limbs n, limbs d⟩ ⟨WL_limbs _, WL_limbs _, hn, Nat.le_trans l3 (by decide)⟩
        unfold RR.v at k
        simp only [val_limbs] at k
        exact k
      have b4 := n218
      simp (disch := omega) only [STP]
      refine itb_step rfl ?_ ?_
      · intro hab
        have hab : a = b := by simpa using hab
        subst hab
        have k1 := c3 (limbs x) (limbs y) (WL_limbs _) (WL_limbs _) (Nat.le_trans l1 b4) (Nat.le_trans l2 b4)
        rw [val_limbs, val_limbs] at k1
        refine call_step k1 rfl ?_
        have k2 := w1 a (x + y) lx
        rw [plus_same] at k2
        refine call_step k2 rfl ?_
        exact ret_step rfl
      · intro hab
        have hab : a ≠ b := by simpa using hab
        have k0 := c4 (limbs x) (limbs y) (WL_limbs _) (WL_limbs _) (Nat.le_trans (Nat.le_trans l1 b4) (by decide)) (Nat.le_trans (Nat.le_trans l2 b4) (by decide))
        rw [val_limbs, val_limbs] at k0
        refine call_step k0 rfl ?_
        simp (disch := omega) only [STP]
        refine ite_step rfl ?_ ?_
        · intro hge
          have hge := cmpI_ge.1 hge
          have k1 := c5 (limbs x) (limbs y) (WL_limbs _) (WL_limbs _) (Nat.le_trans l1 b4) (Nat.le_trans l2 b4)
          rw [val_limbs, val_limbs, if_neg (by omega)] at k1
          refine call_step k1 rfl ?_
          have k2 := w1 a (x - y) (Nat.le_succ_of_le (Nat.le_trans (limbs_len_mono (Nat.sub_le _ _)) l1))
          rw [plus_diff hab (by omega)] at k2
          refine call_step k2 rfl ?_
          exact ret_step rfl
        · intro hge
          have hge : ¬y ≤ x := fun h => hge (cmpI_ge.2 h)
          have k1 := c5 (limbs y) (limbs x) (WL_limbs _) (WL_limbs _) (Nat.le_trans l2 b4) (Nat.le_trans l1 b4)
          rw [val_limbs, val_limbs, if_neg (by omega)] at k1
          refine call_step k1 rfl ?_
          have k2 := w1 b (y - x) (Nat.le_succ_of_le (Nat.le_trans (limbs_len_mono (Nat.sub_le _ _)) l2))
          rw [plus_diff (Ne.symm hab) (by omega), Int.add_comm] at k2
          refine call_step k2 rfl ?_
          exact ret_step rfl

def CRSubQ (P : Program) : Prop := ∀ r s : RR, r.ok KL → s.ok KL → PureCalls P F.penumbraref03_Sub [.agg r.dv, .agg s.dv] [.agg (rd (r.v - s.v))]
theorem wr_subQ (c0 : CRNeg P) (c1 : CRAddQ P) {r s : RR} (hr : r.ok KL) (hs : s.ok KL) : IRwp P [] (flatAll [.agg r.dv, .agg s.dv]) ir_penumbraref03_Sub (· = [.agg (rd (r.v - s.v))]) := by
  unfold ir_penumbraref03_Sub
  rw [fa_aggdv, fa_aggdv]
  refine call_step (c0 s hs) rfl ?_
  have k := c1 r (cr (-s.v)) hr (cr_ok (hs.sm (by decide)).neg)
  rw [cr_v, ← Rat.sub_eq_add_neg] at k
  refine call_step k rfl ?_
  exact ret_step rfl

theorem mul_v (r s : RR) : mkRat (sg (!(r.neg == s.neg)) (val r.num * val s.num)) (val r.den * val s.den) = r.v * s.v := by
  unfold RR.v
  rw [Rat.mkRat_mul_mkRat]
  congr 1
  cases r.neg <;> cases s.neg <;> simp [sg, Int.neg_mul, Int.mul_neg]
def CRMulQ (P : Program) : Prop := ∀ r s : RR, r.ok KL → s.ok KL → PureCalls P F.penumbraref03_Mul [.agg r.dv, .agg s.dv] [.agg (rd (r.v * s.v))]
theorem wr_mulQ (c1 : CRRead P) (c2 : CRMul P) {r s : RR} (hr : r.ok KL) (hs : s.ok KL) : IRwp P [] (flatAll [.agg r.dv, .agg s.dv]) ir_penumbraref03_Mul (· = [.agg (rd (r.v * s.v))]) := by
  unfold ir_penumbraref03_Mul
  rw [fa_aggdv, fa_aggdv]
  have a1 := hr.wl
  have a2 := hs.wl
  simp (disch := omega) only [STP]
  refine call_step (c2 _ _ hr.1 hs.1 (by omega) (by omega)) rfl ?_
  refine call_step (c2 _ _ hr.2.1 hs.2.1 (by omega) (by omega)) rfl ?_
  have k := c1 ⟨!(r.neg == s.neg), limbs (val r.num * val s.num), limbs (val r.den * val s.den)⟩ ⟨WL_limbs _, WL_limbs _, Nat.le_trans (mul_len hr.1 hs.1 hr.2.2.1 hs.2.2.1) (by decide), Nat.le_trans (mul_len hr.2.1 hs.2.1 hr.2.2.2 hs.2.2.2) (by decide)⟩
  rw [← mul_v]
  unfold RR.v at k
  simp only [val_limbs] at k
  refine call_step k rfl ?_
  exact ret_step rfl

def CRDivQ (P : Program) : Prop := ∀ r s : RR, r.ok KL → s.ok KL → PureCalls P F.penumbraref03_Div [.agg r.dv, .agg s.dv] (divQ r.v s.v)
theorem wr_divQ (c0 : CRZeroQ P) (c1 : CRSign P) (c2 : CRMulQ P) {r s : RR} (hr : r.ok KL) (hs : s.ok KL) : IRwp P [] (flatAll [.agg r.dv, .agg s.dv]) ir_penumbraref03_Div (· = divQ r.v s.v) := by
  unfold ir_penumbraref03_Div
  rw [fa_aggdv, fa_aggdv]
  refine call_step (c1 s hs) rfl ?_
  simp (disch := omega) only [STP]
  refine ite_step rfl ?_ ?_
  · intro h
    have h0 : s.v = 0 := sign_zero.1 h
    refine call_step c0 rfl ?_
    refine ret_step ?_
    unfold divQ; rw [if_pos h0]; rfl
  · intro h
    have h0 : s.v ≠ 0 := fun hz => h (sign_zero.2 hz)
    have k := c2 r s.iv hr (iv_ok hs)
    rw [iv_v, ← Rat.div_def] at k
    refine call_step k rfl ?_
    refine ret_step ?_
    unfold divQ; rw [if_neg h0]; rfl
def CROver (P : Program) : Prop := ∀ r s : RR, r.ok KL → s.ok KL → PureCalls P F.penumbraref03_Over [.agg r.dv, .agg s.dv] [.agg (rd (r.v / s.v))]
theorem wr_over (c : CRDivQ P) {r s : RR} (hr : r.ok KL) (hs : s.ok KL) : IRwp P [] (flatAll [.agg r.dv, .agg s.dv]) ir_penumbraref03_Over (· = [.agg (rd (r.v / s.v))]) := by
  unfold ir_penumbraref03_Over
  rw [fa_aggdv, fa_aggdv]
  have k := c r s hr hs
  unfold divQ at k
  by_cases h : s.v = 0
  · rw [if_pos h] at k
    refine call_step k rfl ?_
    rw [h, Rat.div_def, Rat.inv_zero, Rat.mul_zero]
    exact ret_step rfl
  · rw [if_neg h] at k
    refine call_step k rfl ?_
    exact ret_step rfl

def CRCmpQ (P : Program) : Prop := ∀ r s : RR, r.ok 430000000000 → s.ok 430000000000 → PureCalls P F.penumbraref03_Cmp [.agg r.dv, .agg s.dv] [.one (.int .i64 (cmpQ r.v s.v))]
theorem wr_cmpQ (c0 : CRSubQ P) (c1 : CRSign P) {r s : RR} (hr : r.ok 430000000000) (hs : s.ok 430000000000) : IRwp P [] (flatAll [.agg r.dv, .agg s.dv]) ir_penumbraref03_Cmp (· = [.one (.int .i64 (cmpQ r.v s.v))]) := by
  unfold ir_penumbraref03_Cmp
  rw [fa_aggdv, fa_aggdv]
  refine call_step (c0 r s (hr.mono (by decide)) (hs.mono (by decide))) rfl ?_
  have h1 : Sm 430000000000 r.v := hr.sm (by decide)
  have h2 : Sm 430000000000 s.v := hs.sm (by decide)
  have k := c1 (cr (r.v - s.v)) (cr_ok ((h1.sub h2).mono (by decide)))
  rw [cr_v] at k
  refine call_step k rfl ?_
  exact ret_step rfl

def CRAbsQ (P : Program) : Prop := ∀ r : RR, r.ok KL → PureCalls P F.penumbraref03_Abs [.agg r.dv] [.agg (rd r.v.abs)]
theorem wr_absQ (c : CRRead P) {r : RR} (hr : r.ok KL) : IRwp P [] (flatAll [.agg r.dv]) ir_penumbraref03_Abs (· = [.agg (rd r.v.abs)]) := by
  unfold ir_penumbraref03_Abs
  rw [fa_aggdv]
  have k := c ⟨false, r.num, r.den⟩ (RR.ok.two (r := ⟨false, r.num, r.den⟩) hr)
  have e : (⟨false, r.num, r.den⟩ : RR).v = r.v.abs := abs_v r
  rw [e] at k
  refine call_step k rfl ?_
  exact ret_step rfl

def CRabs (P : Program) : Prop := ∀ n : Int, -9223372036854775808 ≤ n → n < 9223372036854775808 → PureCalls P F.penumbraref03_abs [.one (.int .i64 n)] [.one (nn n.natAbs)]
theorem wr_abs (c : CROf P) {n : Int} (h0 : -9223372036854775808 ≤ n) (h1 : n < 9223372036854775808) : IRwp P [] [.int .i64 n] ir_penumbraref03_abs (· = [.one (nn n.natAbs)]) := by
  unfold ir_penumbraref03_abs
  simp (disch := omega) only [STP]
  refine ite_step rfl ?_ ?_
  · intro hn
    have e2 : Prim.den .neg [.int .i64 (n + 1)] = some (.int .i64 (0 - (n + 1))) := by
      simp only [Prim.den]; rw [wi64 (by omega) (by omega)]
    have e3 : (0 - (n + 1) + 1 : Int) = (n.natAbs : Int) := by omega
    simp (disch := omega) only [STP, e2, e3]
    refine call_step (c n.natAbs (by omega)) rfl ?_
    exact ret_step rfl
  · intro hn
    have e : (n : Int) = (n.natAbs : Int) := by omega
    have e1 : Prim.den (.conv .u64) [.int .i64 n] = some (.int .u64 (n.natAbs : Int)) := by
      rw [d_conv64 (by omega) (by omega), ← e]
    simp (disch := omega) only [STP, e1]
    refine call_step (c n.natAbs (by omega)) rfl ?_
    exact ret_step rfl

def CROfQ (P : Program) : Prop := ∀ n d : Int, -9223372036854775808 ≤ n → n < 9223372036854775808 → -9223372036854775808 ≤ d → d < 9223372036854775808 → PureCalls P F.penumbraref03_Of [.one (.int .i64 n), .one (.int .i64 d)] [.agg (rd (ofQ n d))]
theorem wr_ofQ (c1 : CRabs P) (c2 : CRRead P) {n d : Int} (h0 : -9223372036854775808 ≤ n) (h1 : n < 9223372036854775808) (h2 : -9223372036854775808 ≤ d) (h3 : d < 9223372036854775808) : IRwp P [] [.int .i64 n, .int .i64 d] ir_penumbraref03_Of (· = [.agg (rd (ofQ n d))]) := by
  unfold ir_penumbraref03_Of
  have l2 : ∀ m : Int, -9223372036854775808 ≤ m → m < 9223372036854775808 → (limbs m.natAbs).length ≤ 2 := fun m a b => limbs_len (by
    have : (4294967296 : Nat) ^ 2 = 18446744073709551616 := by decide
    omega)
  have kk : ∀ c : Bool, c = (!(decide (n < 0) == decide (d < 0))) → PureCalls P F.penumbraref03_Read [.agg [.bool c, nn n.natAbs, nn d.natAbs]] [.agg (rd (ofQ n d))] := fun c hc => by
    have k := c2 ⟨c, limbs n.natAbs, limbs d.natAbs⟩ ⟨WL_limbs _, WL_limbs _, Nat.le_trans (l2 n h0 h1) (by decide), Nat.le_trans (l2 d h2 h3) (by decide)⟩
    unfold RR.v at k
    simp only [val_limbs, hc, of_mk] at k
    rw [hc]; exact k
  have ka := c1 n h0 h1
  have kb := c1 d h2 h3
  simp (disch := omega) only [STP]
  refine ite_step rfl ?_ ?_
  · intro hn
    simp (disch := omega) only [STP]
    refine ite_step rfl ?_ ?_
    · intro hd
      refine call_step ka rfl ?_
      refine call_step kb rfl ?_
      refine call_step (kk true (by simp [hn]; omega)) rfl ?_
      exact ret_step rfl
    · intro hd
      simp (disch := omega) only [STP]
      refine ite_step rfl ?_ ?_
      · intro h; exfalso; omega
      · intro h
        refine call_step ka rfl ?_
        refine call_step kb rfl ?_
        refine call_step (kk false (by simp [hn]; omega)) rfl ?_
        exact ret_step rfl
  · intro hn
    simp (disch := omega) only [STP]
    refine ite_step rfl ?_ ?_
    · intro h
      simp (disch := omega) only [STP]
      refine call_step ka rfl ?_
      refine call_step kb rfl ?_
      refine call_step (kk (decide (d < 0)) (by simp [hn])) rfl ?_
      exact ret_step rfl
    · intro h; exfalso; omega

end Go.Px.Na

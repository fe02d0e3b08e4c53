/- Rq: rational numbers as data: plain facts. -/
import Derived.Test.YtnohcccgfefnkaaGreatWg
set_option maxRecDepth 10000
set_option linter.unusedSimpArgs false
set_option linter.unusedVariables false
namespace Go.Px.Na
open Go.RowKit

/-- A natural with a sign. -/
def sg (neg : Bool) (n : Nat) : Int := if neg then -(n : Int) else n
theorem sg_natAbs (b : Bool) (n : Nat) : (sg b n).natAbs = n := by cases b <;> simp [sg]
theorem sg_zero (b : Bool) : sg b 0 = 0 := by cases b <;> rfl
theorem sg_neg {b : Bool} {n : Nat} (h : n ≠ 0) : decide (sg b n < 0) = b := by cases b <;> simp [sg] <;> omega

/-- A number as it is handed over: its sign, its limbs. -/
structure RR where
  neg : Bool
  num : List Nat
  den : List Nat
def RR.dv (r : RR) : List DV := [.bool r.neg, nl r.num, nl r.den]
def RR.v (r : RR) : Rat := mkRat (sg r.neg (val r.num)) (val r.den)
def RR.ok (L : Nat) (r : RR) : Prop := WL r.num ∧ WL r.den ∧ r.num.length ≤ L ∧ r.den.length ≤ L
theorem RR.ok.mono {L M : Nat} {r : RR} (h : r.ok L) (hl : L ≤ M) : r.ok M := ⟨h.1, h.2.1, by have := h.2.2.1; omega, by have := h.2.2.2; omega⟩

/-- The canonical one. -/
def cr (q : Rat) : RR := ⟨decide (q.num < 0), limbs q.num.natAbs, limbs q.den⟩
def rd (q : Rat) : List DV := [.bool (decide (q.num < 0)), nn q.num.natAbs, nn q.den]
theorem sg_num (q : Rat) : sg (decide (q.num < 0)) q.num.natAbs = q.num := by
  unfold sg
  by_cases h : q.num < 0
  · simp [h]; omega
  · simp [h]; omega
theorem cr_v (q : Rat) : (cr q).v = q := by
  unfold RR.v cr
  simp only [val_limbs, sg_num]
  exact Rat.mkRat_self q
/-- How many limbs a number takes at most. -/
def Sm (L : Nat) (q : Rat) : Prop := (limbs q.num.natAbs).length ≤ L ∧ (limbs q.den).length ≤ L
theorem cr_ok {L : Nat} {q : Rat} (h : Sm L q) : (cr q).ok L := ⟨WL_limbs _, WL_limbs _, h.1, h.2⟩
theorem Sm.mono {L M : Nat} {q : Rat} (h : Sm L q) (hl : L ≤ M) : Sm M q := ⟨by have := h.1; omega, by have := h.2; omega⟩
theorem len_le_iff {n L : Nat} : (limbs n).length ≤ L ↔ n < 4294967296 ^ L :=
  ⟨fun h => Nat.lt_of_lt_of_le (limbs_lt_pow n) (Nat.pow_le_pow_right (by omega) h), limbs_len⟩

theorem rd_inj {p q : Rat} (h : cr p = cr q) : p = q := by rw [← cr_v p, h, cr_v]

/-- What 'made' makes. -/
theorem rd_mkRat {b : Bool} {n d : Nat} (hn : n ≠ 0) (hd : d ≠ 0) : rd (mkRat (sg b n) d) = [.bool b, nn (n / Nat.gcd n d), nn (d / Nat.gcd n d)] := by
  have hg : 0 < Nat.gcd n d := Nat.gcd_pos_of_pos_left _ (by omega)
  have hnum : (mkRat (sg b n) d).num = sg b (n / Nat.gcd n d) := by
    rw [Rat.num_mkRat, if_neg hd, sg_natAbs, Nat.gcd_comm d n]
    cases b
    · simp [sg]
    · simp only [sg, if_true]
      rw [Int.neg_ediv_of_dvd (by exact_mod_cast Nat.gcd_dvd_left n d)]
      simp
  have hden : (mkRat (sg b n) d).den = d / Nat.gcd n d := by
    rw [Rat.den_mkRat, if_neg hd, sg_natAbs, Nat.gcd_comm d n]
  have hq : n / Nat.gcd n d ≠ 0 := by
    have := Nat.div_pos (Nat.le_of_dvd (by omega) (Nat.gcd_dvd_left n d)) hg
    omega
  unfold rd
  rw [hnum, hden, sg_natAbs, sg_neg hq]
theorem rd_zero : rd 0 = [.bool false, nl [], nl [1]] := by
  unfold rd nn
  rw [show (0 : Rat).num = 0 from rfl, show (0 : Rat).den = 1 from rfl]
  rw [show Int.natAbs 0 = 0 from rfl, limbs_zero, limbs_pos (by omega)]
  simp [limbs_zero]
theorem limbs_one : limbs 1 = [1] := by rw [limbs_pos (by omega)]; simp [limbs_zero]
theorem rd_one : rd 1 = [.bool false, nl [1], nl [1]] := by
  unfold rd nn
  rw [show (1 : Rat).num = 1 from rfl, show (1 : Rat).den = 1 from rfl]
  rw [show Int.natAbs 1 = 1 from rfl, limbs_one]; rfl

theorem Sm_mkRat {n : Int} {d L : Nat} (h1 : n.natAbs < 4294967296 ^ L) (h2 : d < 4294967296 ^ L) (hL : 0 < L) : Sm L (mkRat n d) := by
  by_cases hd : d = 0
  · subst hd
    rw [Rat.mkRat_zero]
    refine ⟨?_, ?_⟩
    · rw [show (0 : Rat).num.natAbs = 0 from rfl, limbs_zero]; simp
    · rw [show (0 : Rat).den = 1 from rfl, limbs_one]; simp; omega
  · refine ⟨len_le_iff.2 (Nat.lt_of_le_of_lt ?_ h1), len_le_iff.2 (Nat.lt_of_le_of_lt ?_ h2)⟩
    · rw [Rat.num_mkRat, if_neg hd, Int.natAbs_ediv_of_dvd]
      · rw [Int.natAbs_natCast]; exact Nat.div_le_self _ _
      · rw [← Int.dvd_natAbs, Int.ofNat_dvd]; exact Nat.gcd_dvd_right _ _
    · rw [Rat.den_mkRat, if_neg hd]; exact Nat.div_le_self _ _
theorem Sm.num {L : Nat} {q : Rat} (h : Sm L q) : q.num.natAbs < 4294967296 ^ L := len_le_iff.1 h.1
theorem Sm.den {L : Nat} {q : Rat} (h : Sm L q) : q.den < 4294967296 ^ L := len_le_iff.1 h.2
theorem Sm.pos {L : Nat} {q : Rat} (h : Sm L q) : 0 < L := by
  have := h.den
  have := q.den_pos
  rcases Nat.eq_zero_or_pos L with h1 | h1
  · subst h1; simp at *; omega
  · exact h1
theorem Sm.add {L M : Nat} {p q : Rat} (h : Sm L p) (k : Sm M q) : Sm (L + M + 1) (p + q) := by
  rw [Rat.add_def']
  have a1 := h.num; have a2 := h.den; have b1 := k.num; have b2 := k.den
  have e : (4294967296 : Nat) ^ (L + M + 1) = 4294967296 * (4294967296 ^ L * 4294967296 ^ M) := by rw [Nat.pow_succ, Nat.pow_add, Nat.mul_comm]
  have c1 := Nat.mul_lt_mul'' a1 b2
  have c2 := Nat.mul_lt_mul'' a2 b1
  have c3 := Nat.mul_lt_mul'' a2 b2
  refine Sm_mkRat ?_ ?_ (by omega)
  · rw [e]
    have : (p.num * (q.den : Int) + q.num * (p.den : Int)).natAbs ≤ p.num.natAbs * q.den + p.den * q.num.natAbs := by
      refine Nat.le_trans (Int.natAbs_add_le _ _) ?_
      rw [Int.natAbs_mul, Int.natAbs_mul, Int.natAbs_natCast, Int.natAbs_natCast, Nat.mul_comm q.num.natAbs]
      exact Nat.le_refl _
    omega
  · rw [e]; omega
theorem Sm.mul {L M : Nat} {p q : Rat} (h : Sm L p) (k : Sm M q) : Sm (L + M) (p * q) := by
  rw [Rat.mul_def']
  have hp := h.pos
  refine Sm_mkRat ?_ ?_ (by omega)
  · rw [Int.natAbs_mul, Nat.pow_add]; exact Nat.mul_lt_mul'' h.num k.num
  · rw [Nat.pow_add]; exact Nat.mul_lt_mul'' h.den k.den
theorem Sm.neg {L : Nat} {q : Rat} (h : Sm L q) : Sm L (-q) := ⟨by rw [Rat.neg_num, Int.natAbs_neg]; exact h.1, h.2⟩
theorem Sm.sub {L M : Nat} {p q : Rat} (h : Sm L p) (k : Sm M q) : Sm (L + M + 1) (p - q) := by rw [Rat.sub_eq_add_neg]; exact h.add k.neg
theorem Sm.inv {L : Nat} {q : Rat} (h : Sm L q) : Sm L q⁻¹ := by
  have hp := h.pos
  refine ⟨?_, ?_⟩
  · rw [Rat.num_inv, Int.natAbs_mul, Int.natAbs_natCast]
    refine Nat.le_trans (limbs_len_mono (n := q.den) ?_) h.2
    have : q.num.sign.natAbs ≤ 1 := by rw [Int.natAbs_sign]; split <;> omega
    calc q.num.sign.natAbs * q.den ≤ 1 * q.den := Nat.mul_le_mul_right _ this
      _ = q.den := Nat.one_mul _
  · rw [Rat.den_inv]
    split
    · rw [limbs_one]; simp; omega
    · exact h.1
theorem Sm.div {L M : Nat} {p q : Rat} (h : Sm L p) (k : Sm M q) : Sm (L + M) (p / q) := by rw [Rat.div_def]; exact h.mul k.inv
theorem Sm_int {n : Int} {L : Nat} (h : n.natAbs < 4294967296 ^ L) (hL : 0 < L) : Sm L (n : Rat) := ⟨len_le_iff.2 h, by rw [Rat.den_intCast, limbs_one]; simp; omega⟩
theorem Sm.abs {L : Nat} {q : Rat} (h : Sm L q) : Sm L q.abs := by
  unfold Rat.abs
  split
  · exact h
  · exact h.neg
theorem RR.ok.sm {L : Nat} {r : RR} (h : r.ok L) (hL : 0 < L) : Sm L r.v :=
  Sm_mkRat (by rw [sg_natAbs]; exact len_le_iff.1 (Nat.le_trans (limbs_len_le h.1) h.2.2.1)) (len_le_iff.1 (Nat.le_trans (limbs_len_le h.2.1) h.2.2.2)) hL

/-! ### Order -/
def cmpQ (p q : Rat) : Int := (p - q).num.sign
theorem sign_mkRat {n : Int} {d : Nat} (hd : d ≠ 0) : (mkRat n d).num.sign = n.sign := by
  obtain ⟨k, hk, h1, _⟩ := Rat.normalize_num_den' n d hd
  rw [Rat.normalize_eq_mkRat] at h1
  conv => rhs; rw [h1]
  rw [Int.sign_mul, Int.sign_natCast_of_ne_zero hk, Int.mul_one]
theorem mkRat_sub {n1 n2 : Int} {d1 d2 : Nat} (h1 : d1 ≠ 0) (h2 : d2 ≠ 0) : mkRat n1 d1 - mkRat n2 d2 = mkRat (n1 * d2 - n2 * d1) (d1 * d2) := by
  rw [Rat.sub_eq_add_neg, Rat.neg_mkRat, Rat.mkRat_add_mkRat _ _ h1 h2, Int.neg_mul, Int.sub_eq_add_neg]
theorem cmpQ_mkRat {n1 n2 : Int} {d1 d2 : Nat} (h1 : d1 ≠ 0) (h2 : d2 ≠ 0) : cmpQ (mkRat n1 d1) (mkRat n2 d2) = (n1 * d2 - n2 * d1).sign := by
  unfold cmpQ
  rw [mkRat_sub h1 h2, sign_mkRat (Nat.mul_ne_zero h1 h2)]
theorem num_pos_iff {q : Rat} : 0 < q.num ↔ 0 < q := by
  have h1 := @Rat.num_nonneg q
  have h2 := @Rat.num_eq_zero q
  rw [Rat.lt_iff_le_and_ne]
  constructor
  · intro h; exact ⟨h1.1 (by omega), fun he => by rw [← he] at h; simp at h⟩
  · rintro ⟨h, hn⟩
    have := h1.2 h
    have : q.num ≠ 0 := fun he => hn (h2.1 he).symm
    omega
theorem num_neg_iff {q : Rat} : q.num < 0 ↔ q < 0 := by
  rw [← Rat.not_le, ← Rat.num_nonneg]; omega
theorem cmpQ_lt {p q : Rat} : cmpQ p q = -1 ↔ p < q := by
  unfold cmpQ
  rw [Int.sign_eq_neg_one_iff_neg, num_neg_iff]
  grind
theorem cmpQ_gt {p q : Rat} : cmpQ p q = 1 ↔ q < p := by
  unfold cmpQ
  rw [Int.sign_eq_one_iff_pos, num_pos_iff]
  grind
theorem cmpQ_eq {p q : Rat} : cmpQ p q = 0 ↔ p = q := by
  unfold cmpQ
  rw [Int.sign_eq_zero_iff_zero, Rat.num_eq_zero]
  grind

end Go.Px.Na
/- Rt1: numbers: made, Read, whole, plus, times. -/
set_option maxRecDepth 10000
set_option linter.unusedSimpArgs false
set_option linter.unusedVariables false
namespace Go.Px.Na
open Go.RowKit
variable {P : Program}

/-- How many limbs a number has at most that is reckoned with. -/
abbrev KL : Nat := 1300000000000

def COne (P : Program) : Prop := PureCalls P F.rat_one [] [.one (nl [1])]
theorem w_one : IRwp P [] [] ir_rat_one (· = [.one (nl [1])]) := by
  unfold ir_rat_one
  have e : Prim.den (.mk 1) [.int .u32 1] = some (nl [1]) := rfl
  simp (disch := omega) only [STP, e]
  exact ret_step rfl

def CMade (P : Program) : Prop := ∀ (b : Bool) (x y : List Nat), WF x → WF y → PureCalls P F.rat_made [.one (.bool b), .one (nl x), .one (nl y)] [.agg (rd (mkRat (sg b (val x)) (val y)))]
theorem w_made (c0 : COne P) (c1 : CNorm P) (c2 : CGcd P) (c3 : CDivMod P) {b : Bool} {x y : List Nat} (hx : WF x) (hy : WF y) : IRwp P [] [.bool b, nl x, nl y] ir_rat_made (· = [.agg (rd (mkRat (sg b (val x)) (val y)))]) := by
  unfold ir_rat_made
  refine call_step (c1 x hx) rfl ?_
  refine call_step (c1 y hy) rfl ?_
  have l1 := limbs_len_le hx.1
  have l2 := limbs_len_le hy.1
  have l1' := hx.2
  have l2' := hy.2
  generalize val x = m at *
  generalize val y = n at *
  have wm : WF (limbs m) := ⟨WL_limbs m, by omega⟩
  have wn : WF (limbs n) := ⟨WL_limbs n, by omega⟩
  simp only [nn]
  simp (disch := omega) only [STP]
  refine ite_step rfl ?_ ?_
  · intro h
    have hm : m = 0 := limbs_eq_nil.1 (List.eq_nil_of_length_eq_zero (by omega))
    refine call_step c0 rfl ?_
    refine ret_step ?_
    rw [hm, sg_zero, Rat.zero_mkRat, rd_zero]; rfl
  · intro h
    have hm : m ≠ 0 := fun hz => by rw [hz, limbs_zero] at h; simp at h
    simp (disch := omega) only [STP]
    refine ite_step rfl ?_ ?_
    · intro h
      have hn : n = 0 := limbs_eq_nil.1 (List.eq_nil_of_length_eq_zero (by omega))
      refine call_step c0 rfl ?_
      refine ret_step ?_
      rw [hn, Rat.mkRat_zero, rd_zero]; rfl
    · intro h
      have hn : n ≠ 0 := fun hz => by rw [hz, limbs_zero] at h; simp at h
      have kg := c2 (limbs m) (limbs n) wm wn
      rw [val_limbs, val_limbs] at kg
      refine call_step kg rfl ?_
      have hg : 0 < Nat.gcd m n := Nat.gcd_pos_of_pos_left _ (by omega)
      have hgl : (limbs (Nat.gcd m n)).length ≤ (limbs m).length := limbs_len_mono (Nat.le_of_dvd (by omega) (Nat.gcd_dvd_left m n))
      have wg : WF (limbs (Nat.gcd m n)) := ⟨WL_limbs _, by omega⟩
      have k1 := c3 (limbs m) (limbs (Nat.gcd m n)) wm wg
      have k2 := c3 (limbs n) (limbs (Nat.gcd m n)) wn wg
      rw [val_limbs, val_limbs] at k1 k2
      unfold divRes at k1 k2
      rw [if_neg (by omega)] at k1 k2
      rw [rd_mkRat hm hn]
      simp only [nn]
      simp (disch := omega) only [STP]
      refine ite_step rfl ?_ ?_
      · intro h1
        refine call_step k1 rfl ?_
        refine call_step k2 rfl ?_
        exact ret_step rfl
      · intro h1
        have hpos := limbs_len_pos (n := Nat.gcd m n) (by omega)
        simp (disch := omega) only [STP]
        refine ite_step rfl ?_ ?_
        · intro h2
          refine call_step k1 rfl ?_
          refine call_step k2 rfl ?_
          exact ret_step rfl
        · intro h2
          have hg1 : Nat.gcd m n = 1 := by
            have hv := val_limbs (Nat.gcd m n)
            match hl : limbs (Nat.gcd m n) with
            | [] => rw [hl] at hpos; simp at hpos
            | [z] =>
              rw [hl] at hv h2
              rw [val_single] at hv
              have : ([z] : List Nat).getD 0 0 = z := rfl
              rw [this] at h2
              omega
            | z :: w :: r => rw [hl] at h1; simp at h1; omega
          rw [hg1, Nat.div_one, Nat.div_one]
          exact ret_step rfl

def CRead (P : Program) : Prop := ∀ r : RR, r.ok KL → PureCalls P F.rat_Read [.agg r.dv] [.agg (rd r.v)]
theorem RR.ok.wf {r : RR} (h : r.ok KL) : WF r.num ∧ WF r.den := ⟨⟨h.1, Nat.le_trans h.2.2.1 (by decide)⟩, ⟨h.2.1, Nat.le_trans h.2.2.2 (by decide)⟩⟩
theorem fa_aggdv {r : RR} {q : List AV} : flatAll (.agg r.dv :: q) = .bool r.neg :: nl r.num :: nl r.den :: flatAll q := by simp [flatAll, AV.flat, RR.dv]
theorem fa_aggc {d : DV} {l : List DV} {q : List AV} : flatAll (.agg (d :: l) :: q) = d :: flatAll (.agg l :: q) := by simp [flatAll, AV.flat]
theorem fa_aggn {q : List AV} : flatAll (.agg [] :: q) = flatAll q := by simp [flatAll, AV.flat]
theorem fa_aggrd {x : Rat} {q : List AV} : flatAll (.agg (rd x) :: q) = .bool (decide (x.num < 0)) :: nn x.num.natAbs :: nn x.den :: flatAll q := by simp [flatAll, AV.flat, rd]
theorem w_read (c : CMade P) {r : RR} (h : r.ok KL) : IRwp P [] (flatAll [.agg r.dv]) ir_rat_Read (· = [.agg (rd r.v)]) := by
  unfold ir_rat_Read
  rw [fa_aggdv]
  refine call_step (c r.neg r.num r.den h.wf.1 h.wf.2) rfl ?_
  exact ret_step rfl

/-- A number with a denominator. -/
def wh (r : RR) : RR := if val r.den = 0 then ⟨false, [], [1]⟩ else r
theorem wh_v (r : RR) : (wh r).v = r.v := by
  unfold wh
  split
  · rename_i h
    unfold RR.v
    rw [h, Rat.mkRat_zero]
    show mkRat (sg false (val [])) (val [1]) = 0
    rw [show val [] = 0 from rfl, sg_zero, Rat.zero_mkRat]
  · rfl
theorem wh_den (r : RR) : val (wh r).den ≠ 0 := by
  unfold wh
  split
  · show val [1] ≠ 0; rw [val_single]; omega
  · assumption
theorem wh_ok {L : Nat} {r : RR} (h : r.ok L) (hL : 0 < L) : (wh r).ok L := by
  unfold wh
  split
  · exact ⟨WL.nil, WL.single (by omega), by simp, by simp; omega⟩
  · exact h
def CWhole (P : Program) : Prop := ∀ r : RR, r.ok KL → PureCalls P F.rat_whole [.agg r.dv] [.agg (wh r).dv]
theorem nbits_zero {n : Nat} : nbits n = 0 ↔ n = 0 := by
  unfold nbits; split <;> simp [*]
theorem w_whole (c0 : COne P) (c1 : CBits P) {r : RR} (h : r.ok KL) : IRwp P [] (flatAll [.agg r.dv]) ir_rat_whole (· = [.agg (wh r).dv]) := by
  unfold ir_rat_whole
  rw [fa_aggdv]
  refine call_step (c1 r.den h.wf.2) rfl ?_
  simp (disch := omega) only [STP]
  refine ite_step rfl ?_ ?_
  · intro hz
    have : val r.den = 0 := nbits_zero.1 (by omega)
    refine call_step c0 rfl ?_
    refine ret_step ?_
    unfold wh; rw [if_pos this]; rfl
  · intro hz
    have : ¬val r.den = 0 := fun h => hz (by rw [nbits_zero.2 h]; rfl)
    refine ret_step ?_
    unfold wh; rw [if_neg this]; rfl

theorem WF_limbs {n L : Nat} (h : n < 4294967296 ^ L) (hL : L ≤ 4398000000000) : WF (limbs n) := ⟨WL_limbs n, Nat.le_trans (limbs_len h) hL⟩

theorem plus_same {b : Bool} {x y d : Nat} : mkRat (sg b (x + y)) d = mkRat (sg b x + sg b y) d := by
  congr 1; cases b <;> simp [sg]; omega
theorem plus_diff {a b : Bool} (hab : a ≠ b) {x y d : Nat} (h : y ≤ x) : mkRat (sg a (x - y)) d = mkRat (sg a x + sg b y) d := by
  congr 1; cases a <;> cases b <;> simp [sg] at * <;> omega
theorem sg_mul (b : Bool) (x y : Nat) : sg b (x * y) = sg b x * (y : Int) := by cases b <;> simp [sg, Int.neg_mul]

def CPlus (P : Program) : Prop := ∀ r s : RR, r.ok KL → s.ok KL → PureCalls P F.rat_plus [.agg r.dv, .agg s.dv] [.agg (rd (r.v + s.v))]
theorem w_plus (c0 : CWhole P) (c1 : CMul P) (c2 : CAdd P) (c3 : CSub P) (c4 : CMade P) {r s : RR} (hr : r.ok KL) (hs : s.ok KL) : IRwp P [] (flatAll [.agg r.dv, .agg s.dv]) ir_rat_plus (· = [.agg (rd (r.v + s.v))]) := by
  unfold ir_rat_plus
  rw [fa_aggdv, fa_aggdv]
  refine call_step (c0 r hr) rfl ?_
  refine call_step (c0 s hs) rfl ?_
  simp only [fa_aggdv]
  have hr' := wh_ok hr (by decide)
  have hs' := wh_ok hs (by decide)
  rw [← wh_v r, ← wh_v s]
  have hr0 := wh_den r
  have hs0 := wh_den s
  generalize wh r = r' at *
  generalize wh s = s' at *
  simp (disch := omega) only [STP]
  refine call_step (c1 _ _ hr'.wf.1 hs'.wf.2) rfl ?_
  refine call_step (c1 _ _ hs'.wf.1 hr'.wf.2) rfl ?_
  refine call_step (c1 _ _ hr'.wf.2 hs'.wf.2) rfl ?_
  obtain ⟨K, hK, hK2⟩ : ∃ K, KL ≤ K ∧ K + K + 1 ≤ 4398000000000 := ⟨KL, Nat.le_refl _, by decide⟩
  have v1 : ∀ {l : List Nat}, WL l → l.length ≤ KL → val l < 4294967296 ^ K := fun hw hl => Nat.lt_of_lt_of_le (val_lt hw) (Nat.pow_le_pow_right (by omega) (Nat.le_trans hl hK))
  have n1 := v1 hr'.1 hr'.2.2.1
  have d1 := v1 hr'.2.1 hr'.2.2.2
  have n2 := v1 hs'.1 hs'.2.2.1
  have d2 := v1 hs'.2.1 hs'.2.2.2
  have hsum : r'.v + s'.v = mkRat (sg r'.neg (val r'.num * val s'.den) + sg s'.neg (val s'.num * val r'.den)) (val r'.den * val s'.den) := by
    unfold RR.v
    rw [Rat.mkRat_add_mkRat _ _ hr0 hs0, sg_mul, sg_mul]
  rw [hsum]
  have m1 := Nat.mul_lt_mul'' n1 d2
  have m2 := Nat.mul_lt_mul'' n2 d1
  have m3 := Nat.mul_lt_mul'' d1 d2
  rw [← Nat.pow_add] at m1 m2 m3
  have b1 : r'.neg = s'.neg → _ := fun _ => True.intro
  generalize val r'.num * val s'.den = x at *
  generalize val s'.num * val r'.den = y at *
  generalize val r'.den * val s'.den = d at *
  have wx := WF_limbs m1 (by omega)
  have wy := WF_limbs m2 (by omega)
  have wd := WF_limbs m3 (by omega)
  generalize r'.neg = a at *
  generalize s'.neg = b at *
  simp (disch := omega) only [STP]
  refine itb_step rfl ?_ ?_
  · intro hab
    have hab : a = b := by simpa using hab
    subst hab
    have k1 := c2 (limbs x) (limbs y) wx wy
    rw [val_limbs, val_limbs] at k1
    refine call_step k1 rfl ?_
    have ws : WF (limbs (x + y)) := WF_limbs (L := K + K + 1) (by
      rw [Nat.pow_succ]; generalize (4294967296 : Nat) ^ (K + K) = Z at *; omega) (by omega)
    have k2 := c4 a (limbs (x + y)) (limbs d) ws wd
    rw [val_limbs, val_limbs, plus_same] at k2
    refine call_step k2 rfl ?_
    exact ret_step rfl
  · intro hab
    have hab : a ≠ b := by simpa using hab
    have k1 := c3 (limbs x) (limbs y) wx wy
    rw [val_limbs, val_limbs] at k1
    by_cases hlt : x < y
    · rw [if_pos hlt] at k1
      refine call_step k1 rfl ?_
      simp (disch := omega) only [STP]
      refine itb_step rfl ?_ ?_
      · intro h; cases h
      · intro _
        have k2 := c3 (limbs y) (limbs x) wy wx
        rw [val_limbs, val_limbs, if_neg (by omega)] at k2
        refine call_step k2 rfl ?_
        have k3 := c4 b (limbs (y - x)) (limbs d) ⟨WL_limbs _, Nat.le_trans (limbs_len_mono (Nat.sub_le y x)) wy.2⟩ wd
        rw [val_limbs, val_limbs, plus_diff (Ne.symm hab) (by omega), Int.add_comm] at k3
        refine call_step k3 rfl ?_
        exact ret_step rfl
    · rw [if_neg hlt] at k1
      refine call_step k1 rfl ?_
      simp (disch := omega) only [STP]
      refine itb_step rfl ?_ ?_
      · intro _
        have k3 := c4 a (limbs (x - y)) (limbs d) ⟨WL_limbs _, Nat.le_trans (limbs_len_mono (Nat.sub_le x y)) wx.2⟩ wd
        rw [val_limbs, val_limbs, plus_diff hab (by omega)] at k3
        refine call_step k3 rfl ?_
        exact ret_step rfl
      · intro h; cases h

/-- Two numbers that share nothing. -/
theorem rd_mul {X Y : Rat} (h1 : Nat.gcd X.num.natAbs Y.den = 1) (h2 : Nat.gcd Y.num.natAbs X.den = 1) (hX : X.num ≠ 0) (hY : Y.num ≠ 0) :
    rd (X * Y) = [.bool (!(decide (X.num < 0) == decide (Y.num < 0))), nn (X.num.natAbs * Y.num.natAbs), nn (X.den * Y.den)] := by
  have hc : Nat.gcd (X.num * Y.num).natAbs (X.den * Y.den) = 1 := by
    rw [Int.natAbs_mul]
    have e1 : Nat.Coprime X.num.natAbs X.den := X.reduced
    have e2 : Nat.Coprime Y.num.natAbs Y.den := Y.reduced
    exact Nat.Coprime.mul_left (Nat.Coprime.mul_right e1 h1) (Nat.Coprime.mul_right h2 e2)
  have hn : (X * Y).num = X.num * Y.num := by rw [Rat.num_mul, hc]; simp
  have hd : (X * Y).den = X.den * Y.den := by rw [Rat.den_mul, hc]; simp
  unfold rd
  rw [hn, hd, Int.natAbs_mul]
  congr 2
  rcases Int.lt_or_gt_of_ne hX with h | h <;> rcases Int.lt_or_gt_of_ne hY with k | k
  · have := Int.mul_pos_of_neg_of_neg h k
    simp [h, k]; omega
  · have := Int.mul_neg_of_neg_of_pos h k
    have : ¬Y.num < 0 := by omega
    simp [*]
  · have := Int.mul_neg_of_pos_of_neg h k
    have : ¬X.num < 0 := by omega
    simp [*]
  · have := Int.mul_pos h k
    have : ¬X.num < 0 := by omega
    have : ¬Y.num < 0 := by omega
    simp [*]; omega
theorem mkRat_dvd (n : Int) {d : Nat} (hd : d ≠ 0) : (mkRat n d).num.natAbs ∣ n.natAbs ∧ (mkRat n d).den ∣ d := by
  obtain ⟨k, hk, h1, h2⟩ := Rat.normalize_num_den' n d hd
  rw [Rat.normalize_eq_mkRat] at h1 h2
  constructor
  · conv => rhs; rw [h1]
    rw [Int.natAbs_mul]; exact Nat.dvd_mul_right _ _
  · conv => rhs; rw [h2]
    exact Nat.dvd_mul_right _ _

def CTimes (P : Program) : Prop := ∀ p q : Rat, Sm KL p → Sm KL q → PureCalls P F.rat_times [.agg (rd p), .agg (rd q)] [.agg (rd (p * q))]
theorem w_times (c0 : COne P) (c1 : CMade P) (c2 : CMul P) {p q : Rat} (hp : Sm KL p) (hq : Sm KL q) : IRwp P [] (flatAll [.agg (rd p), .agg (rd q)]) ir_rat_times (· = [.agg (rd (p * q))]) := by
  unfold ir_rat_times
  rw [fa_aggrd, fa_aggrd]
  simp only [nn]
  simp (disch := omega) only [STP]
  refine ite_step rfl ?_ ?_
  · intro h
    have h0 : p.num.natAbs = 0 := limbs_eq_nil.1 (List.eq_nil_of_length_eq_zero (by omega))
    have hp0 : p = 0 := Rat.num_eq_zero.1 (by omega)
    refine call_step c0 rfl ?_
    refine ret_step ?_
    rw [hp0, Rat.zero_mul, rd_zero]; rfl
  · intro h
    have hp0 : p.num ≠ 0 := fun hz => by rw [hz] at h; simp [limbs_zero] at h
    simp (disch := omega) only [STP]
    refine ite_step rfl ?_ ?_
    · intro h
      have h0 : q.num.natAbs = 0 := limbs_eq_nil.1 (List.eq_nil_of_length_eq_zero (by omega))
      have hq0 : q = 0 := Rat.num_eq_zero.1 (by omega)
      refine call_step c0 rfl ?_
      refine ret_step ?_
      rw [hq0, Rat.mul_zero, rd_zero]; rfl
    · intro h
      have hq0 : q.num ≠ 0 := fun hz => by rw [hz] at h; simp [limbs_zero] at h
      have wf : ∀ n, (limbs n).length ≤ KL → WF (limbs n) := fun n h => ⟨WL_limbs n, Nat.le_trans h (by decide)⟩
      have k1 := c1 (decide (p.num < 0)) (limbs p.num.natAbs) (limbs q.den) (wf _ hp.1) (wf _ hq.2)
      have k2 := c1 (decide (q.num < 0)) (limbs q.num.natAbs) (limbs p.den) (wf _ hq.1) (wf _ hp.2)
      rw [val_limbs, val_limbs, sg_num] at k1 k2
      refine call_step k1 rfl ?_
      refine call_step k2 rfl ?_
      have hpq : p * q = mkRat p.num q.den * mkRat q.num p.den := by
        rw [Rat.mkRat_mul_mkRat, Rat.mul_def', Nat.mul_comm q.den]
      have sX : Sm KL (mkRat p.num q.den) := Sm_mkRat hp.num hq.den (by decide)
      have sY : Sm KL (mkRat q.num p.den) := Sm_mkRat hq.num hp.den (by decide)
      obtain ⟨x1, x2⟩ := mkRat_dvd p.num q.den_nz
      obtain ⟨y1, y2⟩ := mkRat_dvd q.num p.den_nz
      have g1 : Nat.gcd (mkRat p.num q.den).num.natAbs (mkRat q.num p.den).den = 1 := Nat.Coprime.coprime_dvd_left x1 (Nat.Coprime.coprime_dvd_right y2 p.reduced)
      have g2 : Nat.gcd (mkRat q.num p.den).num.natAbs (mkRat p.num q.den).den = 1 := Nat.Coprime.coprime_dvd_left y1 (Nat.Coprime.coprime_dvd_right x2 q.reduced)
      have z1 : (mkRat p.num q.den).num ≠ 0 := fun hz => hp0 ((Rat.mkRat_eq_zero q.den_nz).1 (Rat.num_eq_zero.1 hz))
      have z2 : (mkRat q.num p.den).num ≠ 0 := fun hz => hq0 ((Rat.mkRat_eq_zero p.den_nz).1 (Rat.num_eq_zero.1 hz))
      rw [hpq, rd_mul g1 g2 z1 z2]
      generalize mkRat p.num q.den = X at *
      generalize mkRat q.num p.den = Y at *
      simp only [fa_aggrd, nn]
      simp (disch := omega) only [STP]
      have k3 := c2 (limbs X.num.natAbs) (limbs Y.num.natAbs) (wf _ sX.1) (wf _ sY.1)
      have k4 := c2 (limbs X.den) (limbs Y.den) (wf _ sX.2) (wf _ sY.2)
      rw [val_limbs, val_limbs] at k3 k4
      refine call_step k3 rfl ?_
      refine call_step k4 rfl ?_
      exact ret_step rfl

/-- What flattens numbers. -/
theorem FF : type_of% (And.intro @fa_aggrd (And.intro @fa_one (And.intro @fa_nil (And.intro @fa_aggdv (And.intro @fa_aggc (And.intro @fa_aggn (@fa_own))))))) := And.intro @fa_aggrd (And.intro @fa_one (And.intro @fa_nil (And.intro @fa_aggdv (And.intro @fa_aggc (And.intro @fa_aggn (@fa_own))))))
end Go.Px.Na

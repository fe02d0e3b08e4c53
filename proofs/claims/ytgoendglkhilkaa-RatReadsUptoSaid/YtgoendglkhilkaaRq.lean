/- Rq: rational numbers as data: plain facts. -/
import Derived.Test.YtgoendglkhilkaaWg
set_option maxRecDepth 10000
set_option linter.unusedSimpArgs false
set_option linter.unusedVariables false
namespace Go.Px.Na
open Go.RowKit

/-- A natural with a sign. -/
def sg (neg : Bool) (n : Nat) : Int := if neg then -(n : Int) else n
theorem sg_natAbs (b : Bool) (n : Nat) : (sg b n).natAbs = n := by cases b <;> simp [sg]
theorem sg_zero (b : Bool) : sg b 0 = 0 := by cases b <;> rfl
theorem sg_neg {b : Bool} {n : Nat} (h : n ≠ 0) : decide (sg b n < 0) = b := by cases b <;> simp [sg] <;> omega

/-- A number as it is handed over: its sign, its limbs. -/
structure RR where
  neg : Bool
  num : List Nat
  den : List Nat
def RR.dv (r : RR) : List DV := [.bool r.neg, nl r.num, nl r.den]
def RR.v (r : RR) : Rat := mkRat (sg r.neg (val r.num)) (val r.den)
def RR.ok (L : Nat) (r : RR) : Prop := WL r.num ∧ WL r.den ∧ r.num.length ≤ L ∧ r.den.length ≤ L
theorem RR.ok.mono {L M : Nat} {r : RR} (h : r.ok L) (hl : L ≤ M) : r.ok M := ⟨h.1, h.2.1, by have := h.2.2.1; omega, by have := h.2.2.2; omega⟩

/-- The canonical one. -/
def cr (q : Rat) : RR := ⟨decide (q.num < 0), limbs q.num.natAbs, limbs q.den⟩
def rd (q : Rat) : List DV := [.bool (decide (q.num < 0)), nn q.num.natAbs, nn q.den]
theorem cr_dv (q : Rat) : (cr q).dv = rd q := rfl
theorem sg_num (q : Rat) : sg (decide (q.num < 0)) q.num.natAbs = q.num := by
  unfold sg
  by_cases h : q.num < 0
  · simp [h]; omega
  · simp [h]; omega
theorem cr_v (q : Rat) : (cr q).v = q := by
  unfold RR.v cr
  simp only [val_limbs, sg_num]
  exact Rat.mkRat_self q
/-- How many limbs a number takes at most. -/
def Sm (L : Nat) (q : Rat) : Prop := (limbs q.num.natAbs).length ≤ L ∧ (limbs q.den).length ≤ L
theorem cr_ok {L : Nat} {q : Rat} (h : Sm L q) : (cr q).ok L := ⟨WL_limbs _, WL_limbs _, h.1, h.2⟩
theorem Sm.mono {L M : Nat} {q : Rat} (h : Sm L q) (hl : L ≤ M) : Sm M q := ⟨by have := h.1; omega, by have := h.2; omega⟩
theorem len_le_iff {n L : Nat} : (limbs n).length ≤ L ↔ n < 4294967296 ^ L :=
  ⟨fun h => Nat.lt_of_lt_of_le (limbs_lt_pow n) (Nat.pow_le_pow_right (by omega) h), limbs_len⟩

theorem rd_inj {p q : Rat} (h : cr p = cr q) : p = q := by rw [← cr_v p, h, cr_v]

/-- What 'made' makes. -/
theorem rd_mkRat {b : Bool} {n d : Nat} (hn : n ≠ 0) (hd : d ≠ 0) : rd (mkRat (sg b n) d) = [.bool b, nn (n / Nat.gcd n d), nn (d / Nat.gcd n d)] := by
  have hg : 0 < Nat.gcd n d := Nat.gcd_pos_of_pos_left _ (by omega)
  have hnum : (mkRat (sg b n) d).num = sg b (n / Nat.gcd n d) := by
    rw [Rat.num_mkRat, if_neg hd, sg_natAbs, Nat.gcd_comm d n]
    cases b
    · simp [sg]
    · simp only [sg, if_true]
      rw [Int.neg_ediv_of_dvd (by exact_mod_cast Nat.gcd_dvd_left n d)]
      simp
  have hden : (mkRat (sg b n) d).den = d / Nat.gcd n d := by
    rw [Rat.den_mkRat, if_neg hd, sg_natAbs, Nat.gcd_comm d n]
  have hq : n / Nat.gcd n d ≠ 0 := by
    have := Nat.div_pos (Nat.le_of_dvd (by omega) (Nat.gcd_dvd_left n d)) hg
    omega
  unfold rd
  rw [hnum, hden, sg_natAbs, sg_neg hq]
theorem rd_zero : rd 0 = [.bool false, nl [], nl [1]] := by
  unfold rd nn
  rw [show (0 : Rat).num = 0 from rfl, show (0 : Rat).den = 1 from rfl]
  rw [show Int.natAbs 0 = 0 from rfl, limbs_zero, limbs_pos (by omega)]
  simp [limbs_zero]
theorem limbs_one : limbs 1 = [1] := by rw [limbs_pos (by omega)]; simp [limbs_zero]
theorem rd_one : rd 1 = [.bool false, nl [1], nl [1]] := by
  unfold rd nn
  rw [show (1 : Rat).num = 1 from rfl, show (1 : Rat).den = 1 from rfl]
  rw [show Int.natAbs 1 = 1 from rfl, limbs_one]; rfl

theorem Sm_mkRat {n : Int} {d L : Nat} (h1 : n.natAbs < 4294967296 ^ L) (h2 : d < 4294967296 ^ L) (hL : 0 < L) : Sm L (mkRat n d) := by
  by_cases hd : d = 0
  · subst hd
    rw [Rat.mkRat_zero]
    refine ⟨?_, ?_⟩
    · rw [show (0 : Rat).num.natAbs = 0 from rfl, limbs_zero]; simp
    · rw [show (0 : Rat).den = 1 from rfl, limbs_one]; simp; omega
  · refine ⟨len_le_iff.2 (Nat.lt_of_le_of_lt ?_ h1), len_le_iff.2 (Nat.lt_of_le_of_lt ?_ h2)⟩
    · rw [Rat.num_mkRat, if_neg hd, Int.natAbs_ediv_of_dvd]
      · rw [Int.natAbs_natCast]; exact Nat.div_le_self _ _
      · rw [← Int.dvd_natAbs, Int.ofNat_dvd]; exact Nat.gcd_dvd_right _ _
    · rw [Rat.den_mkRat, if_neg hd]; exact Nat.div_le_self _ _
theorem Sm.num {L : Nat} {q : Rat} (h : Sm L q) : q.num.natAbs < 4294967296 ^ L := len_le_iff.1 h.1
theorem Sm.den {L : Nat} {q : Rat} (h : Sm L q) : q.den < 4294967296 ^ L := len_le_iff.1 h.2
theorem Sm.pos {L : Nat} {q : Rat} (h : Sm L q) : 0 < L := by
  have := h.den
  have := q.den_pos
  rcases Nat.eq_zero_or_pos L with h1 | h1
  · subst h1; simp at *; omega
  · exact h1
theorem Sm.add {L M : Nat} {p q : Rat} (h : Sm L p) (k : Sm M q) : Sm (L + M + 1) (p + q) := by
  rw [Rat.add_def']
  have a1 := h.num; have a2 := h.den; have b1 := k.num; have b2 := k.den
  have e : (4294967296 : Nat) ^ (L + M + 1) = 4294967296 * (4294967296 ^ L * 4294967296 ^ M) := by rw [Nat.pow_succ, Nat.pow_add, Nat.mul_comm]
  have c1 := Nat.mul_lt_mul'' a1 b2
  have c2 := Nat.mul_lt_mul'' a2 b1
  have c3 := Nat.mul_lt_mul'' a2 b2
  refine Sm_mkRat ?_ ?_ (by omega)
  · rw [e]
    have : (p.num * (q.den : Int) + q.num * (p.den : Int)).natAbs ≤ p.num.natAbs * q.den + p.den * q.num.natAbs := by
      refine Nat.le_trans (Int.natAbs_add_le _ _) ?_
      rw [Int.natAbs_mul, Int.natAbs_mul, Int.natAbs_natCast, Int.natAbs_natCast, Nat.mul_comm q.num.natAbs]
      exact Nat.le_refl _
    omega
  · rw [e]; omega
theorem Sm.mul {L M : Nat} {p q : Rat} (h : Sm L p) (k : Sm M q) : Sm (L + M) (p * q) := by
  rw [Rat.mul_def']
  have hp := h.pos
  refine Sm_mkRat ?_ ?_ (by omega)
  · rw [Int.natAbs_mul, Nat.pow_add]; exact Nat.mul_lt_mul'' h.num k.num
  · rw [Nat.pow_add]; exact Nat.mul_lt_mul'' h.den k.den
theorem Sm.neg {L : Nat} {q : Rat} (h : Sm L q) : Sm L (-q) := ⟨by rw [Rat.neg_num, Int.natAbs_neg]; exact h.1, h.2⟩
theorem Sm.sub {L M : Nat} {p q : Rat} (h : Sm L p) (k : Sm M q) : Sm (L + M + 1) (p - q) := by rw [Rat.sub_eq_add_neg]; exact h.add k.neg
theorem Sm.inv {L : Nat} {q : Rat} (h : Sm L q) : Sm L q⁻¹ := by
  have hp := h.pos
  refine ⟨?_, ?_⟩
  · rw [Rat.num_inv, Int.natAbs_mul, Int.natAbs_natCast]
    refine Nat.le_trans (limbs_len_mono (n := q.den) ?_) h.2
    have : q.num.sign.natAbs ≤ 1 := by rw [Int.natAbs_sign]; split <;> omega
    calc q.num.sign.natAbs * q.den ≤ 1 * q.den := Nat.mul_le_mul_right _ this
      _ = q.den := Nat.one_mul _
  · rw [Rat.den_inv]
    split
    · rw [limbs_one]; simp; omega
    · exact h.1
theorem Sm.div {L M : Nat} {p q : Rat} (h : Sm L p) (k : Sm M q) : Sm (L + M) (p / q) := by rw [Rat.div_def]; exact h.mul k.inv
theorem Sm_int {n : Int} {L : Nat} (h : n.natAbs < 4294967296 ^ L) (hL : 0 < L) : Sm L (n : Rat) := ⟨len_le_iff.2 h, by rw [Rat.den_intCast, limbs_one]; simp; omega⟩
theorem Sm.abs {L : Nat} {q : Rat} (h : Sm L q) : Sm L q.abs := by
  unfold Rat.abs
  split
  · exact h
  · exact h.neg
theorem RR.ok.sm {L : Nat} {r : RR} (h : r.ok L) (hL : 0 < L) : Sm L r.v :=
  Sm_mkRat (by rw [sg_natAbs]; exact len_le_iff.1 (Nat.le_trans (limbs_len_le h.1) h.2.2.1)) (len_le_iff.1 (Nat.le_trans (limbs_len_le h.2.1) h.2.2.2)) hL

/-! ### Order -/
def cmpQ (p q : Rat) : Int := (p - q).num.sign
theorem sign_mkRat {n : Int} {d : Nat} (hd : d ≠ 0) : (mkRat n d).num.sign = n.sign := by
  obtain ⟨k, hk, h1, _⟩ := Rat.normalize_num_den' n d hd
  rw [Rat.normalize_eq_mkRat] at h1
  conv => rhs; rw [h1]
  rw [Int.sign_mul, Int.sign_natCast_of_ne_zero hk, Int.mul_one]
theorem mkRat_sub {n1 n2 : Int} {d1 d2 : Nat} (h1 : d1 ≠ 0) (h2 : d2 ≠ 0) : mkRat n1 d1 - mkRat n2 d2 = mkRat (n1 * d2 - n2 * d1) (d1 * d2) := by
  rw [Rat.sub_eq_add_neg, Rat.neg_mkRat, Rat.mkRat_add_mkRat _ _ h1 h2, Int.neg_mul, Int.sub_eq_add_neg]
theorem cmpQ_mkRat {n1 n2 : Int} {d1 d2 : Nat} (h1 : d1 ≠ 0) (h2 : d2 ≠ 0) : cmpQ (mkRat n1 d1) (mkRat n2 d2) = (n1 * d2 - n2 * d1).sign := by
  unfold cmpQ
  rw [mkRat_sub h1 h2, sign_mkRat (Nat.mul_ne_zero h1 h2)]
theorem num_pos_iff {q : Rat} : 0 < q.num ↔ 0 < q := by
  have h1 := @Rat.num_nonneg q
  have h2 := @Rat.num_eq_zero q
  rw [Rat.lt_iff_le_and_ne]
  constructor
  · intro h; exact ⟨h1.1 (by omega), fun he => by rw [← he] at h; simp at h⟩
  · rintro ⟨h, hn⟩
    have := h1.2 h
    have : q.num ≠ 0 := fun he => hn (h2.1 he).symm
    omega
theorem num_neg_iff {q : Rat} : q.num < 0 ↔ q < 0 := by
  rw [← Rat.not_le, ← Rat.num_nonneg]; omega
theorem cmpQ_lt {p q : Rat} : cmpQ p q = -1 ↔ p < q := by
  unfold cmpQ
  rw [Int.sign_eq_neg_one_iff_neg, num_neg_iff]
  grind
theorem cmpQ_gt {p q : Rat} : cmpQ p q = 1 ↔ q < p := by
  unfold cmpQ
  rw [Int.sign_eq_one_iff_pos, num_pos_iff]
  grind
theorem cmpQ_eq {p q : Rat} : cmpQ p q = 0 ↔ p = q := by
  unfold cmpQ
  rw [Int.sign_eq_zero_iff_zero, Rat.num_eq_zero]
  grind

end Go.Px.Na

/- Rt2: numbers: Sum, Product, Sub, Neg, Abs, Sign, Div, Cmp, Same, Of. -/
import Derived.Test.YtnohcccgfefnkaaGreatRt1
set_option maxRecDepth 10000
set_option linter.unusedSimpArgs false
set_option linter.unusedVariables false
namespace Go.Px.Na
open Go.RowKit
variable {P : Program}

/-- A row of numbers. -/
def rl (l : List RR) : DV := .list l.length (l.flatMap RR.dv)
theorem rl_get : ∀ {l : List RR} {i : Nat} {r : RR} (k : Nat), l[i]? = some r → k < 3 → (l.flatMap RR.dv)[i * 3 + k]? = r.dv[k]?
  | [], i, r, k, h, _ => by simp at h
  | s :: q, 0, r, k, h, hk => by
    simp at h; subst h
    simp only [List.flatMap_cons, Nat.zero_mul, Nat.zero_add]
    rw [List.getElem?_append_left (by simpa [RR.dv] using hk)]
  | s :: q, i + 1, r, k, h, hk => by
    simp only [List.flatMap_cons]
    rw [List.getElem?_append_right (by simp [RR.dv]; omega)]
    have := rl_get (l := q) (i := i) k (by simpa using h) hk
    rw [← this]; congr 1; simp [RR.dv]; omega
theorem rl_len (l : List RR) : (l.flatMap RR.dv).length = l.length * 3 := by
  induction l with
  | nil => rfl
  | cons r q ih => simp only [List.flatMap_cons, List.length_append, ih, List.length_cons]; simp [RR.dv]; omega
theorem d_len3 (l : List RR) : Prim.den .len [rl l] = some (.int .i64 (l.length : Int)) := rfl
theorem d_inb3 {l : List RR} {k : IntKind} {i : Int} (h0 : 0 ≤ i) (h1 : i < l.length) : Prim.den (.inb 3) [rl l, .int k i] = some (.bool true) := by
  simp only [rl, Prim.den, rl_len]
  rw [if_pos ⟨h0, h1, by omega⟩]
theorem d_get3 {l : List RR} {k : IntKind} {i : Int} {r : RR} (h0 : 0 ≤ i) (h : l[i.toNat]? = some r) : Prim.den (.get 3 0) [rl l, .int k i] = some (.bool r.neg) ∧ Prim.den (.get 3 1) [rl l, .int k i] = some (nl r.num) ∧ Prim.den (.get 3 2) [rl l, .int k i] = some (nl r.den) := by
  have hlt := (List.getElem?_eq_some_iff.1 h).1
  simp only [rl, Prim.den]
  rw [if_pos ⟨h0, by omega⟩, if_pos ⟨h0, by omega⟩, if_pos ⟨h0, by omega⟩, rl_get 0 h (by omega), rl_get 1 h (by omega), rl_get 2 h (by omega)]
  exact ⟨rfl, rfl, rfl⟩

def sumL (l : List RR) : Rat := l.foldl (fun a r => a + r.v) 0
def prodL (l : List RR) : Rat := l.foldl (fun a r => a * r.v) 1
theorem sumL_succ {l : List RR} {i : Nat} {r : RR} (h : l[i]? = some r) : sumL (l.take (i + 1)) = sumL (l.take i) + r.v := by
  unfold sumL
  rw [List.take_add_one, h]; simp
theorem prodL_succ {l : List RR} {i : Nat} {r : RR} (h : l[i]? = some r) : prodL (l.take (i + 1)) = prodL (l.take i) * r.v := by
  unfold prodL
  rw [List.take_add_one, h]; simp

def CSum (P : Program) : Prop := ∀ l : List RR, l.length ≤ 1000000 → (∀ r ∈ l, r.ok KL) → (∀ k, Sm KL (sumL (l.take k))) → PureCalls P F.rat_Sum [.one (rl l)] [.agg (rd (sumL l))]
theorem w_sum (c0 : COne P) (c1 : CRead P) (c2 : CPlus P) {l : List RR} (hl : l.length ≤ 1000000) (hr : ∀ r ∈ l, r.ok KL) (hs : ∀ k, Sm KL (sumL (l.take k))) : IRwp P [] [rl l] ir_rat_Sum (· = [.agg (rd (sumL l))]) := by
  unfold ir_rat_Sum
  refine call_step c0 rfl ?_
  simp (disch := omega) only [STP, d_len3]
  refine loop_step (fun ds => ∃ (i : Int) (s : Rat), ds = [rl l, .int .i64 l.length, .int .i64 i, .bool (decide (s.num < 0)), nn s.num.natAbs, nn s.den] ∧ 0 ≤ i ∧ i ≤ l.length ∧ s = sumL (l.take i.toNat)) (numf (fun i => (l.length - i).toNat) 2) ?_ ?_ ?_
  · refine ⟨0, 0, ?_, by omega, by omega, by simp [sumL]⟩
    have := rd_zero
    unfold rd at this
    rw [this]; rfl
  · rintro ds ⟨i, s, rfl, _⟩; rfl
  · rintro ds ⟨i, s, rfl, h0, h1, hse⟩
    simp (disch := omega) only [STP]
    refine ite_step rfl ?_ ?_
    · intro hi
      obtain ⟨r, hre⟩ : ∃ r, l[i.toNat]? = some r := ⟨_, List.getElem?_eq_getElem (by omega)⟩
      obtain ⟨g0, g1, g2⟩ := d_get3 (k := .i64) h0 hre
      have hok := hr r (List.mem_of_getElem? hre)
      have hnext : sumL (l.take (i + 1).toNat) = s + r.v := by rw [show (i + 1).toNat = i.toNat + 1 by omega, sumL_succ hre, hse]
      have hdec : ((l.length : Int) - (i + 1)).toNat < ((l.length : Int) - i).toNat := by omega
      simp (disch := omega) only [STP, d_inb3, g0, g1, g2]
      refine ite_step rfl ?_ ?_
      · intro hz
        have hs0 : s = 0 := by rw [hse, hz]; rfl
        rw [hs0, Rat.zero_add] at hnext
        refine call_step (c1 r hok) rfl ?_
        simp only [fa_aggrd]
        simp (disch := omega) only [STP]
        exact jump_step rfl ⟨⟨_, r.v, rfl, by omega, by omega, hnext.symm⟩, hdec⟩
      · intro hz
        have hsm := hs i.toNat
        rw [← hse] at hsm
        have k2 := c2 (cr s) r (cr_ok hsm) hok
        rw [cr_v] at k2
        refine call_step k2 rfl ?_
        simp only [fa_aggrd]
        simp (disch := omega) only [STP]
        exact jump_step rfl ⟨⟨_, s + r.v, rfl, by omega, by omega, hnext.symm⟩, hdec⟩
    · intro hi
      refine ret_step ?_
      have : s = sumL l := by rw [hse, List.take_of_length_le (by omega)]
      rw [← this]; rfl

def CProduct (P : Program) : Prop := ∀ l : List RR, l.length ≤ 1000000 → (∀ r ∈ l, r.ok KL) → (∀ k, Sm KL (prodL (l.take k))) → PureCalls P F.rat_Product [.one (rl l)] [.agg (rd (prodL l))]
theorem w_product (c0 : COne P) (c1 : CRead P) (c2 : CTimes P) {l : List RR} (hl : l.length ≤ 1000000) (hr : ∀ r ∈ l, r.ok KL) (hs : ∀ k, Sm KL (prodL (l.take k))) : IRwp P [] [rl l] ir_rat_Product (· = [.agg (rd (prodL l))]) := by
  unfold ir_rat_Product
  refine call_step c0 rfl ?_
  refine call_step c0 rfl ?_
  simp (disch := omega) only [STP, d_len3]
  refine loop_step (fun ds => ∃ (i : Int) (s : Rat), ds = [rl l, .int .i64 l.length, .int .i64 i, .bool (decide (s.num < 0)), nn s.num.natAbs, nn s.den] ∧ 0 ≤ i ∧ i ≤ l.length ∧ s = prodL (l.take i.toNat)) (numf (fun i => (l.length - i).toNat) 2) ?_ ?_ ?_
  · refine ⟨0, 1, ?_, by omega, by omega, by simp [prodL]⟩
    have := rd_one
    unfold rd at this
    rw [this]; rfl
  · rintro ds ⟨i, s, rfl, _⟩; rfl
  · rintro ds ⟨i, s, rfl, h0, h1, hse⟩
    simp (disch := omega) only [STP]
    refine ite_step rfl ?_ ?_
    · intro hi
      obtain ⟨r, hre⟩ : ∃ r, l[i.toNat]? = some r := ⟨_, List.getElem?_eq_getElem (by omega)⟩
      obtain ⟨g0, g1, g2⟩ := d_get3 (k := .i64) h0 hre
      have hok := hr r (List.mem_of_getElem? hre)
      have hnext : prodL (l.take (i + 1).toNat) = s * r.v := by rw [show (i + 1).toNat = i.toNat + 1 by omega, prodL_succ hre, hse]
      simp (disch := omega) only [STP, d_inb3, g0, g1, g2]
      refine call_step (c1 r hok) rfl ?_
      simp only [fa_aggrd]
      simp (disch := omega) only [STP]
      have hsm := hs i.toNat
      rw [← hse] at hsm
      refine call_step (c2 s r.v hsm (hok.sm (by decide))) rfl ?_
      simp only [fa_aggrd]
      simp (disch := omega) only [STP]
      refine jump_step rfl ⟨⟨_, s * r.v, rfl, by omega, by omega, hnext.symm⟩, ?_⟩
      show ((l.length : Int) - (i + 1)).toNat < ((l.length : Int) - i).toNat
      omega
    · intro hi
      refine ret_step ?_
      have : s = prodL l := by rw [hse, List.take_of_length_le (by omega)]
      rw [← this]; rfl

/-- Turned over. -/
def RR.ng (r : RR) : RR := ⟨!r.neg, r.num, r.den⟩
theorem ng_v (r : RR) : r.ng.v = -r.v := by
  unfold RR.v RR.ng
  rw [Rat.neg_mkRat]
  congr 1
  cases r.neg <;> simp [sg]
theorem ng_ok {r : RR} {L : Nat} (h : r.ok L) : r.ng.ok L := h
def CSub3 (P : Program) : Prop := ∀ r s : RR, r.ok KL → s.ok KL → PureCalls P F.rat_Sub [.agg r.dv, .agg s.dv] [.agg (rd (r.v - s.v))]
theorem w_sub3 (c : CPlus P) {r s : RR} (hr : r.ok KL) (hs : s.ok KL) : IRwp P [] (flatAll [.agg r.dv, .agg s.dv]) ir_rat_Sub (· = [.agg (rd (r.v - s.v))]) := by
  unfold ir_rat_Sub
  rw [fa_aggdv, fa_aggdv]
  simp (disch := omega) only [STP]
  have k := c r s.ng hr (ng_ok hs)
  rw [ng_v, ← Rat.sub_eq_add_neg] at k
  refine call_step k rfl ?_
  exact ret_step rfl
def CNeg (P : Program) : Prop := ∀ r : RR, r.ok KL → PureCalls P F.rat_Neg [.agg r.dv] [.agg (rd (-r.v))]
theorem w_neg (c : CMade P) {r : RR} (hr : r.ok KL) : IRwp P [] (flatAll [.agg r.dv]) ir_rat_Neg (· = [.agg (rd (-r.v))]) := by
  unfold ir_rat_Neg
  rw [fa_aggdv]
  simp (disch := omega) only [STP]
  have k := c (!r.neg) r.num r.den hr.wf.1 hr.wf.2
  have : mkRat (sg (!r.neg) (val r.num)) (val r.den) = -r.v := ng_v r
  rw [this] at k
  refine call_step k rfl ?_
  exact ret_step rfl
theorem abs_v (r : RR) : mkRat (sg false (val r.num)) (val r.den) = r.v.abs := by
  have hnn : 0 ≤ mkRat (sg false (val r.num)) (val r.den) := by
    rw [← Rat.divInt_ofNat]
    exact Rat.divInt_nonneg (by simp [sg]) (Int.natCast_nonneg _)
  unfold RR.v
  cases hb : r.neg
  · rw [Rat.abs_of_nonneg hnn]
  · have e : mkRat (sg true (val r.num)) (val r.den) = -mkRat (sg false (val r.num)) (val r.den) := by rw [Rat.neg_mkRat]; rfl
    rw [e, Rat.abs_neg, Rat.abs_of_nonneg hnn]
def CAbs (P : Program) : Prop := ∀ r : RR, r.ok KL → PureCalls P F.rat_Abs [.agg r.dv] [.agg (rd r.v.abs)]
theorem w_abs (c : CMade P) {r : RR} (hr : r.ok KL) : IRwp P [] (flatAll [.agg r.dv]) ir_rat_Abs (· = [.agg (rd r.v.abs)]) := by
  unfold ir_rat_Abs
  rw [fa_aggdv]
  have k := c false r.num r.den hr.wf.1 hr.wf.2
  rw [abs_v] at k
  refine call_step k rfl ?_
  exact ret_step rfl

theorem sign_v {r : RR} : r.v.num.sign = if val r.num = 0 ∨ val r.den = 0 then 0 else if r.neg then -1 else 1 := by
  unfold RR.v
  by_cases hd : val r.den = 0
  · rw [hd, Rat.mkRat_zero]; simp
  · rw [sign_mkRat hd]
    by_cases hn : val r.num = 0
    · rw [hn, sg_zero]; simp
    · rw [if_neg (by simp [hn, hd])]
      cases r.neg
      · simp only [sg]; exact Int.sign_eq_one_of_pos (by simp; omega)
      · simp only [sg]; exact Int.sign_eq_neg_one_of_neg (by simp; omega)
def CSign (P : Program) : Prop := ∀ r : RR, r.ok KL → PureCalls P F.rat_Sign [.agg r.dv] [.one (.int .i64 r.v.num.sign)]
theorem w_sign (c : CBits P) {r : RR} (hr : r.ok KL) : IRwp P [] (flatAll [.agg r.dv]) ir_rat_Sign (· = [.one (.int .i64 r.v.num.sign)]) := by
  unfold ir_rat_Sign
  rw [fa_aggdv, sign_v]
  refine call_step (c r.num hr.wf.1) rfl ?_
  simp (disch := omega) only [STP]
  refine ite_step rfl ?_ ?_
  · intro h
    have : val r.num = 0 := nbits_zero.1 (by omega)
    rw [if_pos (.inl this)]
    exact ret_step rfl
  · intro h
    have hn : val r.num ≠ 0 := fun hz => h (by rw [nbits_zero.2 hz]; rfl)
    refine call_step (c r.den hr.wf.2) rfl ?_
    simp (disch := omega) only [STP]
    refine ite_step rfl ?_ ?_
    · intro h
      have : val r.den = 0 := nbits_zero.1 (by omega)
      rw [if_pos (.inr this)]
      exact ret_step rfl
    · intro h
      have hd : val r.den ≠ 0 := fun hz => h (by rw [nbits_zero.2 hz]; rfl)
      rw [if_neg (by simp [hn, hd])]
      refine itb_step rfl ?_ ?_
      · intro h; rw [h]; exact ret_step rfl
      · intro h; rw [h]; exact ret_step rfl

/-- A quotient's second part turned. -/
def RR.iv (r : RR) : RR := ⟨r.neg, r.den, r.num⟩
theorem iv_v {r : RR} : r.iv.v = r.v⁻¹ := by
  unfold RR.v RR.iv
  simp only
  rw [← Rat.divInt_ofNat, ← Rat.divInt_ofNat, Rat.inv_divInt]
  cases r.neg
  · simp [sg]
  · simp only [sg, if_true]
    rw [← Rat.neg_divInt_neg]; simp
theorem iv_ok {r : RR} {L : Nat} (h : r.ok L) : r.iv.ok L := ⟨h.2.1, h.1, h.2.2.2, h.2.2.1⟩
def divQ (p q : Rat) : List AV := if q = 0 then [.agg (rd 0), .one (.bool false)] else [.agg (rd (p / q)), .one (.bool true)]
theorem sign_zero {q : Rat} : q.num.sign = 0 ↔ q = 0 := by rw [Int.sign_eq_zero_iff_zero, Rat.num_eq_zero]
def CDiv (P : Program) : Prop := ∀ r s : RR, r.ok KL → s.ok KL → PureCalls P F.rat_Div [.agg r.dv, .agg s.dv] (divQ r.v s.v)
theorem w_div (c0 : COne P) (c1 : CSign P) (c2 : CRead P) (c3 : CTimes P) {r s : RR} (hr : r.ok KL) (hs : s.ok KL) : IRwp P [] (flatAll [.agg r.dv, .agg s.dv]) ir_rat_Div (· = divQ r.v s.v) := by
  unfold ir_rat_Div
  rw [fa_aggdv, fa_aggdv]
  refine call_step (c1 s hs) rfl ?_
  simp (disch := omega) only [STP]
  refine ite_step rfl ?_ ?_
  · intro h
    have h0 : s.v = 0 := sign_zero.1 h
    refine call_step c0 rfl ?_
    refine ret_step ?_
    unfold divQ; rw [if_pos h0, rd_zero]; rfl
  · intro h
    have h0 : s.v ≠ 0 := fun hz => h (sign_zero.2 hz)
    refine call_step (c2 r hr) rfl ?_
    refine call_step (c2 s.iv (iv_ok hs)) rfl ?_
    refine call_step (c3 r.v s.iv.v (hr.sm (by decide)) ((iv_ok hs).sm (by decide))) rfl ?_
    refine ret_step ?_
    unfold divQ; rw [if_neg h0, iv_v, ← Rat.div_def]; rfl

theorem cmpI_sign {x y : Nat} : cmpI x y = ((x : Int) - y).sign := by
  unfold cmpI
  split
  · rw [Int.sign_eq_neg_one_of_neg (by omega)]
  · split
    · rw [Int.sign_eq_one_of_pos (by omega)]
    · rw [show (x : Int) - y = 0 by omega]; rfl
theorem sign_lt_iff {p q : Rat} (h : p.num.sign < q.num.sign) : p < q := by
  have h1 := @num_neg_iff p
  have h2 := @num_pos_iff q
  have h3 := @num_neg_iff q
  have h4 := @num_pos_iff p
  rcases Int.lt_trichotomy p.num 0 with a | a | a
  · rcases Int.lt_trichotomy q.num 0 with b | b | b
    · rw [Int.sign_eq_neg_one_of_neg a, Int.sign_eq_neg_one_of_neg b] at h; omega
    · have := Rat.num_eq_zero.1 b; rw [this]; exact h1.1 a
    · exact Std.lt_trans (h1.1 a) (h2.1 b)
  · rcases Int.lt_trichotomy q.num 0 with b | b | b
    · rw [a, Int.sign_eq_neg_one_of_neg b] at h; simp at h
    · rw [a, b] at h; simp at h
    · have := Rat.num_eq_zero.1 a; rw [this]; exact h2.1 b
  · rcases Int.lt_trichotomy q.num 0 with b | b | b
    · rw [Int.sign_eq_one_of_pos a, Int.sign_eq_neg_one_of_neg b] at h; omega
    · rw [Int.sign_eq_one_of_pos a, b] at h; simp at h
    · rw [Int.sign_eq_one_of_pos a, Int.sign_eq_one_of_pos b] at h; omega
def CCmpQ (P : Program) : Prop := ∀ r s : RR, r.ok KL → s.ok KL → PureCalls P F.rat_Cmp [.agg r.dv, .agg s.dv] [.one (.int .i64 (cmpQ r.v s.v))]
theorem w_cmpQ (c1 : CSign P) (c2 : CMul P) (c3 : CCmp P) {r s : RR} (hr : r.ok KL) (hs : s.ok KL) : IRwp P [] (flatAll [.agg r.dv, .agg s.dv]) ir_rat_Cmp (· = [.one (.int .i64 (cmpQ r.v s.v))]) := by
  unfold ir_rat_Cmp
  rw [fa_aggdv, fa_aggdv]
  refine call_step (c1 r hr) rfl ?_
  refine call_step (c1 s hs) rfl ?_
  simp (disch := omega) only [STP]
  refine ite_step rfl ?_ ?_
  · intro hne
    simp (disch := omega) only [STP]
    refine ite_step rfl ?_ ?_
    · intro hlt
      rw [cmpQ_lt.2 (sign_lt_iff hlt)]
      exact ret_step rfl
    · intro hlt
      rw [cmpQ_gt.2 (sign_lt_iff (by omega))]
      exact ret_step rfl
  · intro heq
    have heq : r.v.num.sign = s.v.num.sign := by
      rcases Decidable.em (r.v.num.sign = s.v.num.sign) with h | h
      · exact h
      · exact absurd h heq
    obtain ⟨K, hK, hK2⟩ : ∃ K, KL ≤ K ∧ K + K ≤ 4398000000000 := ⟨KL, Nat.le_refl _, by decide⟩
    have v1 : ∀ {l : List Nat}, WL l → l.length ≤ KL → val l < 4294967296 ^ K := fun hw hl => Nat.lt_of_lt_of_le (val_lt hw) (Nat.pow_le_pow_right (by omega) (Nat.le_trans hl hK))
    have m1 := Nat.mul_lt_mul'' (v1 hr.1 hr.2.2.1) (v1 hs.2.1 hs.2.2.2)
    have m2 := Nat.mul_lt_mul'' (v1 hs.1 hs.2.2.1) (v1 hr.2.1 hr.2.2.2)
    rw [← Nat.pow_add] at m1 m2
    refine call_step (c2 _ _ hr.wf.1 hs.wf.2) rfl ?_
    refine call_step (c2 _ _ hs.wf.1 hr.wf.2) rfl ?_
    have k := c3 (limbs (val r.num * val s.den)) (limbs (val s.num * val r.den)) (WF_limbs m1 (by omega)) (WF_limbs m2 (by omega))
    rw [val_limbs, val_limbs] at k
    refine call_step k rfl ?_
    have hval : r.v.num.sign * cmpI (val r.num * val s.den) (val s.num * val r.den) = cmpQ r.v s.v := by
      rw [cmpI_sign]
      by_cases h0 : r.v.num.sign = 0
      · rw [h0, Int.zero_mul]
        have e1 := sign_zero.1 h0
        have e2 := sign_zero.1 (heq ▸ h0)
        rw [e1, e2]; exact (cmpQ_eq.2 rfl).symm
      · have a1 := @sign_v r
        have a2 := @sign_v s
        have z1 : ¬(val r.num = 0 ∨ val r.den = 0) := fun h => h0 (by rw [a1, if_pos h])
        have z2 : ¬(val s.num = 0 ∨ val s.den = 0) := fun h => h0 (by rw [heq, a2, if_pos h])
        rw [if_neg z1] at a1
        rw [if_neg z2] at a2
        unfold RR.v at a1 a2 ⊢
        rw [cmpQ_mkRat (by omega) (by omega), a1]
        have hneg : r.neg = s.neg := by
          cases h1 : r.neg <;> cases h2 : s.neg <;> simp only [h1, h2] at a1 a2
          · rfl
          · have : (1 : Int) = -1 := by
              have h9 := heq
              unfold RR.v at h9
              rw [h1, h2, a1, a2] at h9
              simp at h9
            omega
          · have : (-1 : Int) = 1 := by
              have h9 := heq
              unfold RR.v at h9
              rw [h1, h2, a1, a2] at h9
              simp at h9
            omega
          · rfl
        rw [hneg]
        cases s.neg
        · simp [sg]
        · simp only [sg, if_true]
          have : -((val r.num : Nat) : Int) * ((val s.den : Nat) : Int) - -((val s.num : Nat) : Int) * ((val r.den : Nat) : Int) = -(((val r.num : Nat) : Int) * ((val s.den : Nat) : Int) - ((val s.num : Nat) : Int) * ((val r.den : Nat) : Int)) := by
            rw [Int.neg_mul, Int.neg_mul]; omega
          rw [this, Int.sign_neg]
          simp
    have hb1 : -1 ≤ r.v.num.sign ∧ r.v.num.sign ≤ 1 := by
      rcases Int.lt_trichotomy r.v.num 0 with a | a | a
      · rw [Int.sign_eq_neg_one_of_neg a]; omega
      · rw [a]; decide
      · rw [Int.sign_eq_one_of_pos a]; omega
    have hb : -1 ≤ cmpQ r.v s.v ∧ cmpQ r.v s.v ≤ 1 := by
      unfold cmpQ
      rcases Int.lt_trichotomy (r.v - s.v).num 0 with a | a | a
      · rw [Int.sign_eq_neg_one_of_neg a]; omega
      · rw [a]; decide
      · rw [Int.sign_eq_one_of_pos a]; omega
    have e : Prim.den (.bin .mul) [.int .i64 r.v.num.sign, .int .i64 (cmpI (val r.num * val s.den) (val s.num * val r.den))] = some (.int .i64 (cmpQ r.v s.v)) := by
      rw [d_mul64 (by rw [hval]; omega) (by rw [hval]; omega), hval]
    simp (disch := omega) only [STP, e]
    exact ret_step rfl
def CSame3 (P : Program) : Prop := ∀ r s : RR, r.ok KL → s.ok KL → PureCalls P F.rat_Same [.agg r.dv, .agg s.dv] [.one (.bool (decide (r.v = s.v)))]
theorem w_same3 (c : CCmpQ P) {r s : RR} (hr : r.ok KL) (hs : s.ok KL) : IRwp P [] (flatAll [.agg r.dv, .agg s.dv]) ir_rat_Same (· = [.one (.bool (decide (r.v = s.v)))]) := by
  unfold ir_rat_Same
  rw [fa_aggdv, fa_aggdv]
  refine call_step (c r s hr hs) rfl ?_
  simp (disch := omega) only [STP]
  refine ret_step ?_
  show [AV.one (.bool (decide (cmpQ r.v s.v = 0)))] = _
  simp only [cmpQ_eq]

/-! ### Of -/
def CSize (P : Program) : Prop := ∀ n : Int, -9223372036854775808 ≤ n → n < 9223372036854775808 → PureCalls P F.rat_size [.one (.int .i64 n)] [.one (nn n.natAbs)]
theorem w_size (c : COf P) {n : Int} (h0 : -9223372036854775808 ≤ n) (h1 : n < 9223372036854775808) : IRwp P [] [.int .i64 n] ir_rat_size (· = [.one (nn n.natAbs)]) := by
  unfold ir_rat_size
  simp (disch := omega) only [STP]
  refine ite_step rfl ?_ ?_
  · intro hn
    have e1 : Prim.den (.conv .u64) [.int .i64 n] = some (.int .u64 (n + 18446744073709551616)) := by
      simp only [Prim.den]; rw [wu64']; congr 2; omega
    have e2 : Prim.den .neg [.int .u64 (n + 18446744073709551616)] = some (.int .u64 (n.natAbs : Int)) := by
      simp only [Prim.den]; rw [wu64']; congr 2; omega
    simp (disch := omega) only [STP, e1, e2]
    refine call_step (c n.natAbs (by omega)) rfl ?_
    exact ret_step rfl
  · intro hn
    have e : (n : Int) = (n.natAbs : Int) := by omega
    have e1 : Prim.den (.conv .u64) [.int .i64 n] = some (.int .u64 (n.natAbs : Int)) := by
      rw [d_conv64 (by omega) (by omega), ← e]
    simp (disch := omega) only [STP, e1]
    refine call_step (c n.natAbs (by omega)) rfl ?_
    exact ret_step rfl

/-- The quotient of two whole numbers. -/
def ofQ (n d : Int) : Rat := (n : Rat) / (d : Rat)
theorem of_mk (n d : Int) : mkRat (sg (!(decide (n < 0) == decide (d < 0))) n.natAbs) d.natAbs = ofQ n d := by
  unfold ofQ
  rw [← Rat.divInt_eq_div, ← Rat.divInt_ofNat]
  by_cases h1 : n < 0 <;> by_cases h2 : d < 0
  · rw [← Rat.neg_divInt_neg n d]
    simp only [h1, h2, sg]
    congr 1 <;> (try simp) <;> omega
  · simp only [h1, h2, sg]
    congr 1 <;> (try simp) <;> omega
  · rw [← Rat.neg_divInt_neg n d]
    simp only [h1, h2, sg]
    congr 1 <;> (try simp) <;> omega
  · simp only [h1, h2, sg]
    congr 1 <;> (try simp) <;> omega
theorem lim64 {n : Int} (h0 : -9223372036854775808 ≤ n) (h1 : n < 9223372036854775808) : WF (limbs n.natAbs) := WF_limbs (L := 2) (by
  have : (4294967296 : Nat) ^ 2 = 18446744073709551616 := by decide
  omega) (by decide)
def COfQ (P : Program) : Prop := ∀ n d : Int, -9223372036854775808 ≤ n → n < 9223372036854775808 → -9223372036854775808 ≤ d → d < 9223372036854775808 → PureCalls P F.rat_Of [.one (.int .i64 n), .one (.int .i64 d)] [.agg (rd (ofQ n d))]
theorem w_ofQ (c1 : CSize P) (c2 : CMade P) {n d : Int} (h0 : -9223372036854775808 ≤ n) (h1 : n < 9223372036854775808) (h2 : -9223372036854775808 ≤ d) (h3 : d < 9223372036854775808) : IRwp P [] [.int .i64 n, .int .i64 d] ir_rat_Of (· = [.agg (rd (ofQ n d))]) := by
  unfold ir_rat_Of
  simp (disch := omega) only [STP]
  refine call_step (c1 n h0 h1) rfl ?_
  refine call_step (c1 d h2 h3) rfl ?_
  have k := c2 (!(decide (n < 0) == decide (d < 0))) (limbs n.natAbs) (limbs d.natAbs) (lim64 h0 h1) (lim64 h2 h3)
  rw [val_limbs, val_limbs, of_mk] at k
  refine call_step k rfl ?_
  exact ret_step rfl

end Go.Px.Na
/- Rt3: numbers: Equal, Check, Floor, Sqrt; the document's numbers. -/
set_option maxRecDepth 10000
set_option linter.unusedSimpArgs false
set_option linter.unusedVariables false
namespace Go.Px.Na
open Go.RowKit
variable {P : Program}

/-- Are two the same, field by field? -/
def eqRR (r s : RR) : Bool := (r.neg == s.neg) && (decide (r.num = s.num) && decide (r.den = s.den))
theorem eqRR_cr (p q : Rat) : eqRR (cr p) (cr q) = decide (p = q) := by
  unfold eqRR
  by_cases h : p = q
  · subst h; simp
  · rw [decide_eq_false h]
    cases h1 : (cr p).neg == (cr q).neg
    · rfl
    · by_cases h2 : (cr p).num = (cr q).num
      · by_cases h3 : (cr p).den = (cr q).den
        · exfalso
          apply h
          apply rd_inj
          have h1 := by simpa using h1
          cases hp : cr p; cases hq : cr q
          simp only [hp, hq] at h1 h2 h3
          rw [h1, h2, h3]
        · simp [h3]
      · simp [h2]
theorem RR.ok.cr {r : RR} (h : r.ok KL) : (cr r.v).ok KL := cr_ok (h.sm (by decide))
theorem RR.ok.len {r : RR} (h : r.ok KL) : r.num.length ≤ 8796093022208 ∧ r.den.length ≤ 8796093022208 := ⟨Nat.le_trans h.2.2.1 (by decide), Nat.le_trans h.2.2.2 (by decide)⟩
/-! ### Floor -/
theorem floor_neg {q : Rat} (h : q.num < 0) : q.floor = sg true (if q.num.natAbs % q.den = 0 then q.num.natAbs / q.den else q.num.natAbs / q.den + 1) := by
  rw [Rat.floor_def]
  have hd := q.den_pos
  obtain ⟨m, hm⟩ : ∃ m : Nat, q.num = -(m : Int) := ⟨q.num.natAbs, by omega⟩
  rw [hm, Int.natAbs_neg, Int.natAbs_natCast]
  have h1 := Nat.div_add_mod m q.den
  have h2 := Nat.mod_lt m hd
  simp only [sg, if_true]
  split
  · rename_i h0
    rw [h0, Nat.add_zero] at h1
    conv => lhs; rw [← h1]
    rw [show (((q.den * (m / q.den) : Nat)) : Int) = (q.den : Int) * ((m / q.den : Nat) : Int) by simp, ← Int.mul_neg, Int.mul_ediv_cancel_left _ (by omega)]
  · rename_i h0
    generalize m / q.den = k at *
    generalize m % q.den = r at *
    generalize q.den = d at *
    rw [← h1]
    have : -((d * k + r : Nat) : Int) = ((d - r : Nat) : Int) + (d : Int) * (-((k + 1 : Nat) : Int)) := by
      rw [Int.mul_neg]
      have : (d : Int) * ((k + 1 : Nat) : Int) = ((d * k + d : Nat) : Int) := by simp [Int.mul_add]
      rw [this]; omega
    rw [this, Int.add_mul_ediv_left _ _ (by omega), Int.ediv_eq_zero_of_lt (by omega) (by omega), Int.zero_add]
theorem floor_nn {q : Rat} (h : ¬q.num < 0) : q.floor = sg false (q.num.natAbs / q.den) := by
  rw [Rat.floor_def]
  obtain ⟨m, hm⟩ : ∃ m : Nat, q.num = (m : Int) := ⟨q.num.natAbs, by omega⟩
  rw [hm]; simp [sg]
theorem mkRat_one (n : Int) : mkRat n 1 = (n : Rat) := Rat.ext (by rw [Rat.num_mkRat]; simp) (by rw [Rat.den_mkRat]; simp)
theorem Sm.floor {L : Nat} {q : Rat} (h : Sm L q) : Sm (L + 1) (q.floor : Rat) := by
  refine Sm_int ?_ (by omega)
  have h1 := h.num
  have h2 := Nat.div_le_self q.num.natAbs q.den
  rw [Nat.pow_succ]
  have hp : 0 < 4294967296 ^ L := Nat.pow_pos (by omega)
  by_cases hn : q.num < 0
  · rw [floor_neg hn, sg_natAbs]; split <;> omega
  · rw [floor_nn hn, sg_natAbs]; omega
def CFloor (P : Program) : Prop := ∀ r : RR, r.ok KL → PureCalls P F.rat_Floor [.agg r.dv] [.agg (rd (r.v.floor : Rat))]
theorem w_floor (c0 : COne P) (c1 : CRead P) (c2 : CDivMod P) (c3 : CAdd P) (c4 : CMade P) {r : RR} (hr : r.ok KL) : IRwp P [] (flatAll [.agg r.dv]) ir_rat_Floor (· = [.agg (rd (r.v.floor : Rat))]) := by
  unfold ir_rat_Floor
  rw [fa_aggdv]
  refine call_step (c1 r hr) rfl ?_
  have hs := hr.sm (by decide)
  generalize r.v = q at *
  simp only [fa_aggrd, nn]
  have hw := (cr_ok hs).wf
  have k1 := c2 (limbs q.num.natAbs) (limbs q.den) hw.1 hw.2
  rw [val_limbs, val_limbs] at k1
  unfold divRes at k1
  rw [if_neg q.den_nz] at k1
  simp (disch := omega) only [STP]
  refine call_step k1 rfl ?_
  simp only [nn]
  simp (disch := omega) only [STP]
  have l1 : (limbs (q.num.natAbs / q.den)).length ≤ KL := Nat.le_trans (limbs_len_mono (Nat.div_le_self _ _)) hs.1
  have w1 : WF (limbs (q.num.natAbs / q.den)) := ⟨WL_limbs _, Nat.le_trans l1 (by decide)⟩
  have wo : WF [1] := ⟨WL.single (by omega), by simp⟩
  refine ite_step rfl ?_ ?_
  · intro hneg
    simp (disch := omega) only [STP]
    refine ite_step rfl ?_ ?_
    · intro hr0
      have hr0 : q.num.natAbs % q.den ≠ 0 := len_pos_iff.1 (by omega)
      refine call_step c0 rfl ?_
      simp (disch := omega) only [STP]
      have k2 := c3 (limbs (q.num.natAbs / q.den)) [1] w1 wo
      rw [val_limbs, val_single] at k2
      refine call_step k2 rfl ?_
      refine call_step c0 rfl ?_
      have w2 : WF (limbs (q.num.natAbs / q.den + 1)) := by
        refine ⟨WL_limbs _, ?_⟩
        have : (limbs (q.num.natAbs / q.den + 1)).length ≤ (limbs (q.num.natAbs / q.den)).length + 1 := limbs_len (by
          have := limbs_lt_pow (q.num.natAbs / q.den)
          have hp : 0 < 4294967296 ^ (limbs (q.num.natAbs / q.den)).length := Nat.pow_pos (by omega)
          rw [Nat.pow_succ]; omega)
        have : KL ≤ 2600000000000 := by decide
        omega
      have k3 := c4 (decide (q.num < 0)) (limbs (q.num.natAbs / q.den + 1)) [1] w2 wo
      rw [val_limbs, val_single, mkRat_one, decide_eq_true hneg] at k3
      have e := floor_neg hneg
      rw [if_neg hr0] at e
      rw [← e] at k3
      rw [decide_eq_true hneg]
      refine call_step k3 rfl ?_
      exact ret_step rfl
    · intro hr0
      have hr0 : q.num.natAbs % q.den = 0 := by
        rcases Nat.eq_zero_or_pos (q.num.natAbs % q.den) with h | h
        · exact h
        · have := limbs_len_pos (n := q.num.natAbs % q.den) (by omega); omega
      refine call_step c0 rfl ?_
      simp (disch := omega) only [STP]
      have k3 := c4 (decide (q.num < 0)) (limbs (q.num.natAbs / q.den)) [1] w1 wo
      rw [val_limbs, val_single, mkRat_one, decide_eq_true hneg] at k3
      have e := floor_neg hneg
      rw [if_pos hr0] at e
      rw [← e] at k3
      rw [decide_eq_true hneg]
      refine call_step k3 rfl ?_
      exact ret_step rfl
  · intro hneg
    refine call_step c0 rfl ?_
    simp (disch := omega) only [STP]
    have k3 := c4 (decide (q.num < 0)) (limbs (q.num.natAbs / q.den)) [1] w1 wo
    rw [val_limbs, val_single, mkRat_one, decide_eq_false hneg, ← floor_nn hneg] at k3
    rw [decide_eq_false hneg]
    refine call_step k3 rfl ?_
    exact ret_step rfl

/-! ### Sqrt -/
end Go.Px.Na

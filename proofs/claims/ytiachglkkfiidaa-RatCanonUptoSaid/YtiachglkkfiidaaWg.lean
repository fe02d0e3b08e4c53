/- Wg: greatest common divisors, square roots. -/
import Derived.Test.YtiachglkkfiidaaWr3
set_option maxRecDepth 10000
set_option linter.unusedSimpArgs false
set_option linter.unusedVariables false
namespace Go.Px.Na
open Go.RowKit
variable {P : Program}

theorem len_pos_iff {n : Nat} : 0 < (limbs n).length ↔ n ≠ 0 := by
  constructor
  · intro h hn; rw [hn, limbs_zero] at h; simp at h
  · exact limbs_len_pos

def CGcd (P : Program) : Prop := ∀ a b, WF a → WF b → PureCalls P F.root_Gcd [.one (nl a), .one (nl b)] [.one (nn (Nat.gcd (val a) (val b)))]
theorem w_gcd (c1 : CNorm P) (c2 : CDivMod P) {a b : List Nat} (ha : WF a) (hb : WF b) : IRwp P [] [nl a, nl b] ir_root_Gcd (· = [.one (nn (Nat.gcd (val a) (val b)))]) := by
  unfold ir_root_Gcd
  refine call_step (c1 a ha) rfl ?_
  refine call_step (c1 b hb) rfl ?_
  have l1 := limbs_len_le ha.1
  have l2 := limbs_len_le hb.1
  have l1' := ha.2
  have l2' := hb.2
  generalize val a = M at *
  generalize val b = N at *
  refine loop_step (fun ds => ∃ x y : Nat, ds = [nn x, nn y] ∧ Nat.gcd x y = Nat.gcd M N ∧ (limbs x).length ≤ 4398000000000 ∧ (limbs y).length ≤ 4398000000000) (lval 1) ?_ ?_ ?_
  · exact ⟨M, N, rfl, rfl, by omega, by omega⟩
  · rintro ds ⟨x, y, rfl, _⟩; rfl
  · rintro ds ⟨x, y, rfl, hg, hx, hy⟩
    simp only [nn]
    simp (disch := omega) only [STEP, Px.A.ev, List.map_cons, List.map_nil, List.getD_cons_zero, List.getD_cons_succ, List.cons_append, List.nil_append, List.append_nil, Option.isSome_some, Option.getD_some, true_and, Int.sub_zero, Int.toNat_zero, List.drop_zero, Int.toNat_natCast]
    refine ite_step rfl ?_ ?_
    · intro h
      have hy0 : y ≠ 0 := len_pos_iff.1 (by omega)
      have k := c2 (limbs x) (limbs y) ⟨WL_limbs x, hx⟩ ⟨WL_limbs y, hy⟩
      rw [val_limbs, val_limbs] at k
      unfold divRes at k
      rw [if_neg hy0] at k
      refine call_step k rfl ?_
      have hm := Nat.mod_lt x (show 0 < y by omega)
      refine jump_step rfl ⟨⟨y, x % y, rfl, ?_, hy, Nat.le_trans (limbs_len_mono (Nat.le_of_lt hm)) hy⟩, ?_⟩
      · rw [← hg, Nat.gcd_comm x y, Nat.gcd_rec y x, Nat.gcd_comm]
      · show dval (nn (x % y)) < dval (nl (limbs y))
        unfold nn
        rw [dval_nl, dval_nl, val_limbs, val_limbs]; exact hm
    · intro h
      have hy0 : y = 0 := by
        rcases Nat.eq_zero_or_pos y with h1 | h1
        · exact h1
        · have := limbs_len_pos (n := y) (by omega); omega
      subst hy0
      rw [Nat.gcd_zero_right] at hg
      rw [← hg]
      exact ret_step rfl

def CRGcd (P : Program) : Prop := ∀ a b, WH a → WH b → PureCalls P F.penumbraref02_Gcd [.one (nl a), .one (nl b)] [.one (nn (Nat.gcd (val a) (val b)))]
theorem wr_gcd (c0 : CRZero P) (c1 : CRNorm P) (c2 : CRDivMod P) {a b : List Nat} (ha : WH a) (hb : WH b) : IRwp P [] [nl a, nl b] ir_penumbraref02_Gcd (· = [.one (nn (Nat.gcd (val a) (val b)))]) := by
  unfold ir_penumbraref02_Gcd
  refine loop_step (fun ds => ∃ x y : List Nat, ds = [nl x, nl y] ∧ Nat.gcd (val x) (val y) = Nat.gcd (val a) (val b) ∧ WH x ∧ WH y) (lval 1) ?_ ?_ ?_
  · exact ⟨a, b, rfl, rfl, ha, hb⟩
  · rintro ds ⟨x, y, rfl, _⟩; rfl
  · rintro ds ⟨x, y, rfl, hg, hx, hy⟩
    have hx2 := hx.2
    have hy2 := hy.2
    refine call_step (c0 y hy.1 (by omega)) rfl ?_
    simp (disch := omega) only [STEP, Px.A.ev, List.map_cons, List.map_nil, List.getD_cons_zero, List.getD_cons_succ, List.cons_append, List.nil_append, List.append_nil, Option.isSome_some, Option.getD_some, true_and, Int.sub_zero, Int.toNat_zero, List.drop_zero, Int.toNat_natCast]
    refine itb_step rfl ?_ ?_
    · intro h
      have hy0 : val y ≠ 0 := by simpa using h
      have k := c2 x y hx hy
      unfold divRes at k
      rw [if_neg hy0] at k
      refine call_step k rfl ?_
      have hm := Nat.mod_lt (val x) (show 0 < val y by omega)
      refine jump_step rfl ⟨⟨y, limbs (val x % val y), rfl, ?_, hy, WL_limbs _, ?_⟩, ?_⟩
      · rw [val_limbs, ← hg, Nat.gcd_comm (val x), Nat.gcd_rec (val y) (val x), Nat.gcd_comm]
      · have := limbs_len_mono (Nat.le_of_lt hm)
        have := limbs_len_le hy.1
        omega
      · show dval (nn (val x % val y)) < dval (nl y)
        unfold nn
        rw [dval_nl, dval_nl, val_limbs]; exact hm
    · intro h
      have hy0 : val y = 0 := by simpa using h
      refine call_step (c1 x hx.1 (by omega)) rfl ?_
      rw [hy0, Nat.gcd_zero_right] at hg
      rw [← hg]
      exact ret_step rfl

/-- The root, and whether it is exact. -/
def sqrtRes (n : Nat) : List AV := [.one (nn (isq n)), .one (.bool (decide (isq n * isq n = n)))]
theorem cmpI_eq {m n : Nat} : cmpI m n = 0 ↔ m = n := by
  unfold cmpI
  split
  · constructor
    · intro h; cases h
    · intro h; omega
  · split
    · constructor
      · intro h; cases h
      · intro h; omega
    · constructor
      · intro h; omega
      · intro h; rfl
theorem cmpI_ge {m n : Nat} : 0 ≤ cmpI m n ↔ n ≤ m := by
  unfold cmpI
  split
  · constructor
    · intro h; omega
    · intro h; omega
  · split <;> constructor <;> intro h <;> omega
theorem isq_lt {n k : Nat} (h : n < 2 ^ (2 * k)) : isq n < 2 ^ k := by
  obtain ⟨h1, _⟩ := isq_spec n
  rcases Nat.lt_or_ge (isq n) (2 ^ k) with h2 | h2
  · exact h2
  · exfalso
    have := Nat.mul_le_mul h2 h2
    rw [← Nat.pow_add, show k + k = 2 * k by omega] at this
    omega

def CSqrt (P : Program) : Prop := ∀ a, WF a → nbits (val a) ≤ 131071 → PureCalls P F.root_Sqrt [.one (nl a)] (sqrtRes (val a))
theorem w_sqrt (c1 : CNorm P) (c2 : CBits P) (c3 : CShl P) (c4 : CDivMod P) (c5 : CAdd P) (c6 : CCmp P) (c7 : CMul P) {a : List Nat} (ha : WF a) (hs : nbits (val a) ≤ 131071) : IRwp P [] [nl a] ir_root_Sqrt (· = sqrtRes (val a)) := by
  unfold ir_root_Sqrt
  refine call_step (c1 a ha) rfl ?_
  have l1 := limbs_len_le ha.1
  have l1' := ha.2
  generalize val a = M at *
  have wm : WF (limbs M) := ⟨WL_limbs M, by omega⟩
  simp only [nn]
  simp (disch := omega) only [STEP, Px.A.ev, List.map_cons, List.map_nil, List.getD_cons_zero, List.getD_cons_succ, List.cons_append, List.nil_append, List.append_nil, Option.isSome_some, Option.getD_some, true_and, Int.sub_zero, Int.toNat_zero, List.drop_zero, Int.toNat_natCast]
  refine ite_step rfl ?_ ?_
  · intro h
    have : M = 0 := limbs_eq_nil.1 (List.eq_nil_of_length_eq_zero (by omega))
    subst this
    refine ret_step ?_
    show [AV.one (nl []), AV.one (.bool true)] = sqrtRes 0
    have : isq 0 = 0 := by rw [isq]; simp
    unfold sqrtRes nn
    rw [this, limbs_zero]; rfl
  · intro h
    have hM : M ≠ 0 := fun hz => by rw [hz, limbs_zero] at h; simp at h
    obtain ⟨kb, hk1, hk2, hk3⟩ := nbits_spec hM
    have e0 : Prim.den (.mk 1) [.int .u32 1] = some (nl [1]) := rfl
    have hb := c2 (limbs M) wm
    rw [val_limbs] at hb
    simp (disch := omega) only [STEP, Px.A.ev, List.map_cons, List.map_nil, List.getD_cons_zero, List.getD_cons_succ, List.cons_append, List.nil_append, List.append_nil, Option.isSome_some, Option.getD_some, true_and, Int.sub_zero, Int.toNat_zero, List.drop_zero, Int.toNat_natCast, e0]
    refine call_step hb rfl ?_
    obtain ⟨s, hse⟩ : ∃ s : Nat, s = (nbits M + 1) / 2 := ⟨_, rfl⟩
    have es : ((nbits M : Int) + 1) / 2 = (s : Int) := by omega
    simp (disch := omega) only [STEP, Px.A.ev, List.map_cons, List.map_nil, List.getD_cons_zero, List.getD_cons_succ, List.cons_append, List.nil_append, List.append_nil, Option.isSome_some, Option.getD_some, true_and, Int.sub_zero, Int.toNat_zero, List.drop_zero, Int.toNat_natCast, es]
    have ks := c3 [1] (s : Int) ⟨WL.single (by omega), by simp⟩
    rw [val_single] at ks
    unfold shlRes at ks
    rw [if_neg (by omega), Int.toNat_natCast, Nat.one_mul] at ks
    refine call_step ks rfl ?_
    have hlt : isq M < 2 ^ s := isq_lt (Nat.lt_of_lt_of_le hk3 (Nat.pow_le_pow_right (by omega) (by omega)))
    obtain ⟨K, hK⟩ : ∃ K : Nat, K = 2048 := ⟨2048, rfl⟩
    have hp65 : 2 ^ s ≤ 4294967296 ^ K := by
      rw [show (4294967296 : Nat) = 2 ^ 32 from rfl, ← Nat.pow_mul]; exact Nat.pow_le_pow_right (by omega) (by omega)
    refine loop_step (fun ds => ∃ x : Nat, ds = [nn M, nn x] ∧ isq M ≤ x ∧ 0 < x ∧ x ≤ 2 ^ s) (lval 1) ?_ ?_ ?_
    · exact ⟨2 ^ s, rfl, by omega, Nat.two_pow_pos s, Nat.le_refl _⟩
    · rintro ds ⟨x, rfl, _⟩; rfl
    · rintro ds ⟨x, rfl, hx, hx0, hxs⟩
      have hlx : (limbs x).length ≤ K + 1 := limbs_len (Nat.lt_of_le_of_lt (Nat.le_trans hxs hp65) (Nat.pow_lt_pow_right (by omega) (by omega)))
      have hldiv := limbs_len_mono (Nat.div_le_self M x)
      have k1 := c4 (limbs M) (limbs x) wm ⟨WL_limbs x, by omega⟩
      rw [val_limbs, val_limbs] at k1
      unfold divRes at k1
      rw [if_neg (by omega)] at k1
      refine call_step k1 rfl ?_
      have k2 := c5 (limbs x) (limbs (M / x)) ⟨WL_limbs x, by omega⟩ ⟨WL_limbs _, by omega⟩
      rw [val_limbs, val_limbs] at k2
      refine call_step k2 rfl ?_
      have hsum : (limbs (x + M / x)).length ≤ 4398000000000 := by
        have hMs : M < 4294967296 ^ (K + K) := by
          rw [show (4294967296 : Nat) = 2 ^ 32 from rfl, ← Nat.pow_mul]
          exact Nat.lt_of_lt_of_le hk3 (Nat.pow_le_pow_right (by omega) (by omega))
        have h2 : x + M / x < 4294967296 ^ (K + K + 1) := by
          have h3 := Nat.div_le_self M x
          have h4 : (4294967296 : Nat) ^ K ≤ 4294967296 ^ (K + K) := Nat.pow_le_pow_right (by omega) (by omega)
          rw [Nat.pow_succ]
          generalize (4294967296 : Nat) ^ (K + K) = Z at *
          omega
        have := limbs_len h2
        omega
      have e2 : Prim.den (.mk 1) [.int .u32 2] = some (nl [2]) := rfl
      simp (disch := omega) only [STEP, Px.A.ev, List.map_cons, List.map_nil, List.getD_cons_zero, List.getD_cons_succ, List.cons_append, List.nil_append, List.append_nil, Option.isSome_some, Option.getD_some, true_and, Int.sub_zero, Int.toNat_zero, List.drop_zero, Int.toNat_natCast, e2]
      have k3 := c4 (limbs (x + M / x)) [2] ⟨WL_limbs _, hsum⟩ ⟨WL.single (by omega), by simp⟩
      rw [val_limbs, val_single] at k3
      unfold divRes at k3
      rw [if_neg (by omega)] at k3
      refine call_step k3 rfl ?_
      have hly : (limbs ((x + M / x) / 2)).length ≤ 4398000000000 := Nat.le_trans (limbs_len_mono (Nat.div_le_self _ _)) hsum
      have k4 := c6 (limbs ((x + M / x) / 2)) (limbs x) ⟨WL_limbs _, hly⟩ ⟨WL_limbs x, by omega⟩
      rw [val_limbs, val_limbs] at k4
      refine call_step k4 rfl ?_
      simp (disch := omega) only [STEP, Px.A.ev, List.map_cons, List.map_nil, List.getD_cons_zero, List.getD_cons_succ, List.cons_append, List.nil_append, List.append_nil, Option.isSome_some, Option.getD_some, true_and, Int.sub_zero, Int.toNat_zero, List.drop_zero, Int.toNat_natCast]
      refine ite_step rfl ?_ ?_
      · intro hge
        have hxe := newton_end hx0 hx (cmpI_ge.1 hge)
        have k5 := c7 (limbs x) (limbs x) ⟨WL_limbs x, by omega⟩ ⟨WL_limbs x, by omega⟩
        rw [val_limbs] at k5
        refine call_step k5 rfl ?_
        have hxx : x * x ≤ M := by rw [hxe]; exact (isq_spec M).1
        have k6 := c6 (limbs (x * x)) (limbs M) ⟨WL_limbs _, Nat.le_trans (limbs_len_mono hxx) wm.2⟩ wm
        rw [val_limbs, val_limbs] at k6
        refine call_step k6 rfl ?_
        simp (disch := omega) only [STEP, Px.A.ev, List.map_cons, List.map_nil, List.getD_cons_zero, List.getD_cons_succ, List.cons_append, List.nil_append, List.append_nil, Option.isSome_some, Option.getD_some, true_and, Int.sub_zero, Int.toNat_zero, List.drop_zero, Int.toNat_natCast]
        refine ret_step ?_
        show [AV.one (nn x), AV.one (.bool (decide (cmpI (x * x) M = 0)))] = _
        unfold sqrtRes
        rw [← hxe]
        simp only [cmpI_eq]
      · intro hge
        have hlt' : (x + M / x) / 2 < x := by
          rcases Nat.lt_or_ge ((x + M / x) / 2) x with h1 | h1
          · exact h1
          · exact absurd (cmpI_ge.2 h1) hge
        have hnew := newton_ge (n := M) hx0
        have hs0 : 0 < isq M := by
          rcases Nat.eq_zero_or_pos (isq M) with h1 | h1
          · exfalso
            have := (isq_spec M).2
            rw [h1] at this; omega
          · exact h1
        refine jump_step rfl ⟨⟨(x + M / x) / 2, rfl, hnew, by omega, by omega⟩, ?_⟩
        show dval (nn _) < dval (nn x)
        unfold nn
        rw [dval_nl, dval_nl, val_limbs, val_limbs]; exact hlt'

end Go.Px.Na

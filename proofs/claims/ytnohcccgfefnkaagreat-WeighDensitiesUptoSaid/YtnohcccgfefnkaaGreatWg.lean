/- Wg: greatest common divisors, square roots. -/
import Derived.Test.YtnohcccgfefnkaaGreatWr3
set_option maxRecDepth 10000
set_option linter.unusedSimpArgs false
set_option linter.unusedVariables false
namespace Go.Px.Na
open Go.RowKit
variable {P : Program}

theorem len_pos_iff {n : Nat} : 0 < (limbs n).length ↔ n ≠ 0 := by
  constructor
  · intro h hn; rw [hn, limbs_zero] at h; simp at h
  · exact limbs_len_pos

def CGcd (P : Program) : Prop := ∀ a b, WF a → WF b → PureCalls P F.root_Gcd [.one (nl a), .one (nl b)] [.one (nn (Nat.gcd (val a) (val b)))]
theorem w_gcd (c1 : CNorm P) (c2 : CDivMod P) {a b : List Nat} (ha : WF a) (hb : WF b) : IRwp P [] [nl a, nl b] ir_root_Gcd (· = [.one (nn (Nat.gcd (val a) (val b)))]) := by
  unfold ir_root_Gcd
  refine call_step (c1 a ha) rfl ?_
  refine call_step (c1 b hb) rfl ?_
  have l1 := limbs_len_le ha.1
  have l2 := limbs_len_le hb.1
  have l1' := ha.2
  have l2' := hb.2
  generalize val a = M at *
  generalize val b = N at *
  refine loop_step (fun ds => ∃ x y : Nat, ds = [nn x, nn y] ∧ Nat.gcd x y = Nat.gcd M N ∧ (limbs x).length ≤ 4398000000000 ∧ (limbs y).length ≤ 4398000000000) (lval 1) ?_ ?_ ?_
  · exact ⟨M, N, rfl, rfl, by omega, by omega⟩
  · rintro ds ⟨x, y, rfl, _⟩; rfl
  · rintro ds ⟨x, y, rfl, hg, hx, hy⟩
    simp only [nn]
    simp (disch := omega) only [STP]
    refine ite_step rfl ?_ ?_
    · intro h
      have hy0 : y ≠ 0 := len_pos_iff.1 (by omega)
      have k := c2 (limbs x) (limbs y) ⟨WL_limbs x, hx⟩ ⟨WL_limbs y, hy⟩
      rw [val_limbs, val_limbs] at k
      unfold divRes at k
      rw [if_neg hy0] at k
      refine call_step k rfl ?_
      have hm := Nat.mod_lt x (show 0 < y by omega)
      refine jump_step rfl ⟨⟨y, x % y, rfl, ?_, hy, Nat.le_trans (limbs_len_mono (Nat.le_of_lt hm)) hy⟩, ?_⟩
      · rw [← hg, Nat.gcd_comm x y, Nat.gcd_rec y x, Nat.gcd_comm]
      · show dval (nn (x % y)) < dval (nl (limbs y))
        unfold nn
        rw [dval_nl, dval_nl, val_limbs, val_limbs]; exact hm
    · intro h
      have hy0 : y = 0 := by
        rcases Nat.eq_zero_or_pos y with h1 | h1
        · exact h1
        · have := limbs_len_pos (n := y) (by omega); omega
      subst hy0
      rw [Nat.gcd_zero_right] at hg
      rw [← hg]
      exact ret_step rfl

def CRGcd (P : Program) : Prop := ∀ a b, WH a → WH b → PureCalls P F.penumbraref02_Gcd [.one (nl a), .one (nl b)] [.one (nn (Nat.gcd (val a) (val b)))]
theorem wr_gcd (c0 : CRZero P) (c1 : CRNorm P) (c2 : CRDivMod P) {a b : List Nat} (ha : WH a) (hb : WH b) : IRwp P [] [nl a, nl b] ir_penumbraref02_Gcd (· = [.one (nn (Nat.gcd (val a) (val b)))]) := by
  unfold ir_penumbraref02_Gcd
  refine loop_step (fun ds => ∃ x y : List Nat, ds = [nl x, nl y] ∧ Nat.gcd (val x) (val y) = Nat.gcd (val a) (val b) ∧ WH x ∧ WH y) (lval 1) ?_ ?_ ?_
  · exact ⟨a, b, rfl, rfl, ha, hb⟩
  · rintro ds ⟨x, y, rfl, _⟩; rfl
  · rintro ds ⟨x, y, rfl, hg, hx, hy⟩
    have hx2 := hx.2
    have hy2 := hy.2
    refine call_step (c0 y hy.1 (by omega)) rfl ?_
    simp (disch := omega) only [STP]
    refine itb_step rfl ?_ ?_
    · intro h
      have hy0 : val y ≠ 0 := by simpa using h
      have k := c2 x y hx hy
      unfold divRes at k
      rw [if_neg hy0] at k
      refine call_step k rfl ?_
      have hm := Nat.mod_lt (val x) (show 0 < val y by omega)
      refine jump_step rfl ⟨⟨y, limbs (val x % val y), rfl, ?_, hy, WL_limbs _, ?_⟩, ?_⟩
      · rw [val_limbs, ← hg, Nat.gcd_comm (val x), Nat.gcd_rec (val y) (val x), Nat.gcd_comm]
      · have := limbs_len_mono (Nat.le_of_lt hm)
        have := limbs_len_le hy.1
        omega
      · show dval (nn (val x % val y)) < dval (nl y)
        unfold nn
        rw [dval_nl, dval_nl, val_limbs]; exact hm
    · intro h
      have hy0 : val y = 0 := by simpa using h
      refine call_step (c1 x hx.1 (by omega)) rfl ?_
      rw [hy0, Nat.gcd_zero_right] at hg
      rw [← hg]
      exact ret_step rfl

theorem cmpI_ge {m n : Nat} : 0 ≤ cmpI m n ↔ n ≤ m := by
  unfold cmpI
  split
  · constructor
    · intro h; omega
    · intro h; omega
  · split <;> constructor <;> intro h <;> omega
end Go.Px.Na

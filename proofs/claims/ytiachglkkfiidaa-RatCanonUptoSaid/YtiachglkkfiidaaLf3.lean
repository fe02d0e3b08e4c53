/- Lf3: the fixed calls of the laws of numbers. -/
import Derived.Test.YtiachglkkfiidaaLw
import Derived.Test.YtiachglkkfiidaaTr3
set_option maxRecDepth 10000
set_option linter.unusedSimpArgs false
set_option linter.unusedVariables false
namespace Go.Px.Na
open Go.RowKit
open Go.Proofs.Try (prog)

theorem k_of {n d : Int} (h0 : -9223372036854775808 ≤ n) (h1 : n < 9223372036854775808) (h2 : -9223372036854775808 ≤ d) (h3 : d < 9223372036854775808) : Sm LL (ofQ n d) := (Sm_ofQ h0 h1 h2 h3).mono (by decide)
theorem k_div (p q : Rat) (hp : Sm LL p) (hq : Sm LL q) : PureCalls prog F.rat_Div [.agg (rd p), .agg (rd q)] (divQ p q) := by
  have k := c_div (cr p) (cr q) (smK hp) (smK hq)
  rw [cr_v, cr_v] at k; exact k
theorem k_sqrt (p : Rat) (hp : Sm 4095 p) : PureCalls prog F.rat_Sqrt [.agg (rd p)] (sqQ p) := by
  have k := c_sqrtQ (cr p) (cr_ok hp)
  rw [cr_v] at k; exact k
theorem k_floor (p : Rat) (hp : Sm LL p) : PureCalls prog F.rat_Floor [.agg (rd p)] [.agg (rd (p.floor : Rat))] := by
  have k := c_floor (cr p) (smK hp)
  rw [cr_v] at k; exact k
theorem k_sum2' {p q : Rat} (hp : Sm LL p) (hq : Sm LL q) : PureCalls prog F.rat_Sum [.one (rl [cr p, cr q])] [.agg (rd (p + q))] := by
  have k := k_sum2 (cr_ok hp) (cr_ok hq)
  rw [cr_v, cr_v] at k; exact k

theorem c_fixed3 : PureCalls prog F.penumbralaw03_fixed [] [.one (.bool true)] := by
  refine symFunc_sound hmix tree_penumbralaw03_fixed (by kernel_rfl) rfl ?_
  unfold ir_penumbralaw03_fixed
  have e1 : ofQ 6 (-4) = mkRat (sg true 3) 2 := by decide +kernel
  have e2 : rd (ofQ 6 (-4)) = [.bool true, nl [3], nl [2]] := by
    rw [e1, rd_mkRat (by decide) (by decide)]
    unfold nn
    rw [show (3 / Nat.gcd 3 2) = 3 by decide, show (2 / Nat.gcd 3 2) = 2 by decide, limbs_small (by decide) (by decide), limbs_small (by decide) (by decide)]
  have h1 := c_ofQ 6 (-4) (by decide) (by decide) (by decide) (by decide)
  rw [e2] at h1
  refine call_step h1 rfl ?_
  refine call_step (c_ofQ 1 2 (by decide) (by decide) (by decide) (by decide)) rfl ?_
  refine call_step (c_ofQ 0 5 (by decide) (by decide) (by decide) (by decide)) rfl ?_
  have h2 := k_div (ofQ 1 2) (ofQ 0 5) (k_of (by decide) (by decide) (by decide) (by decide)) (k_of (by decide) (by decide) (by decide) (by decide))
  unfold divQ at h2
  rw [if_pos (show ofQ 0 5 = 0 by decide +kernel)] at h2
  refine call_step h2 rfl ?_
  refine call_step (c_ofQ 4 9 (by decide) (by decide) (by decide) (by decide)) rfl ?_
  have i4 : isq 4 = 2 := (isq_unique (by decide) (by decide)).symm
  have i9 : isq 9 = 3 := (isq_unique (by decide) (by decide)).symm
  have i2 : isq 2 = 1 := (isq_unique (by decide) (by decide)).symm
  have n4 : (ofQ 4 9).num = 4 := by decide +kernel
  have d9 : (ofQ 4 9).den = 9 := by decide +kernel
  have n2 : (ofQ 2 1).num = 2 := by decide +kernel
  have h3 := k_sqrt (ofQ 4 9) ((Sm_ofQ (by decide) (by decide) (by decide) (by decide)).mono (by decide))
  unfold sqQ at h3
  rw [n4, d9, show Int.natAbs 4 = 4 from rfl, i4, i9, if_pos (by decide)] at h3
  refine call_step h3 rfl ?_
  refine call_step (c_ofQ 2 1 (by decide) (by decide) (by decide) (by decide)) rfl ?_
  have h4 := k_sqrt (ofQ 2 1) ((Sm_ofQ (by decide) (by decide) (by decide) (by decide)).mono (by decide))
  unfold sqQ at h4
  rw [n2, show Int.natAbs 2 = 2 from rfl, i2, if_neg (by simp)] at h4
  refine call_step h4 rfl ?_
  refine itT rfl ?_
  refine primS (nl [3]) rfl ?_
  have s3 := cr_same [3] [3] (by simp) (by simp)
  have s2 := cr_same [2] [2] (by simp) (by simp)
  rw [decide_eq_true rfl] at s3 s2
  refine call_step s3 rfl ?_
  refine itT rfl ?_
  refine primS (nl [2]) rfl ?_
  refine call_step s2 rfl ?_
  refine itT rfl ?_
  refine call_step (c_ofQ 1 2 (by decide) (by decide) (by decide) (by decide)) rfl ?_
  refine call_step (c_ofQ 1 3 (by decide) (by decide) (by decide) (by decide)) rfl ?_
  refine primS (rl [cr (ofQ 1 2), cr (ofQ 1 3)]) rfl ?_
  refine call_step (k_sum2' (k_of (by decide) (by decide) (by decide) (by decide)) (k_of (by decide) (by decide) (by decide) (by decide))) rfl ?_
  refine call_step (cr_ofQ 5 6 (by decide) (by decide) (by decide) (by decide)) rfl ?_
  have e56 : ofQ 1 2 + ofQ 1 3 = ofQ 5 6 := by decide +kernel
  rw [e56]
  refine call_step (k_is (k_of (by decide) (by decide) (by decide) (by decide)) rfl) rfl ?_
  refine itT rfl ?_
  refine call_step k_prod0 rfl ?_
  refine call_step cr_one rfl ?_
  refine call_step (k_is (Sm1.mono (by decide)) rfl) rfl ?_
  refine itT rfl ?_
  refine primS (.bool true) rfl ?_
  refine itT rfl ?_
  refine call_step (cr_ofQ 2 3 (by decide) (by decide) (by decide) (by decide)) rfl ?_
  have e23 : mkRat ((2 : Nat) : Int) 3 = ofQ 2 3 := by decide +kernel
  rw [e23]
  refine call_step (k_is (k_of (by decide) (by decide) (by decide) (by decide)) rfl) rfl ?_
  refine itT rfl ?_
  refine itT rfl ?_
  refine primS (.bool true) rfl ?_
  refine itT rfl ?_
  refine call_step (c_ofQ (-1) 2 (by decide) (by decide) (by decide) (by decide)) rfl ?_
  refine call_step (k_floor (ofQ (-1) 2) (k_of (by decide) (by decide) (by decide) (by decide))) rfl ?_
  refine call_step (cr_ofQ (-1) 1 (by decide) (by decide) (by decide) (by decide)) rfl ?_
  have ef : (((ofQ (-1) 2).floor : Int) : Rat) = ofQ (-1) 1 := by decide +kernel
  rw [ef]
  refine call_step (k_is (k_of (by decide) (by decide) (by decide) (by decide)) rfl) rfl ?_
  exact ret_step rfl

end Go.Px.Na

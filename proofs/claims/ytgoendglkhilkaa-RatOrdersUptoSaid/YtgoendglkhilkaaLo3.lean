/- Lo3: numbers are ordered. -/
import Derived.Test.YtgoendglkhilkaaLa3
set_option maxRecDepth 10000
set_option linter.unusedSimpArgs false
set_option linter.unusedVariables false
namespace Go.Px.Na
open Go.RowKit
open Go.Proofs.Try (prog)

theorem cmpQ_neg (p q : Rat) : cmpQ q p = -cmpQ p q := by
  unfold cmpQ
  have : q - p = -(p - q) := by grind
  rw [this, Rat.neg_num, Int.sign_neg]
theorem cmpQ_add (p q r : Rat) : cmpQ (p + r) (q + r) = cmpQ p q := by
  unfold cmpQ
  have : p + r - (q + r) = p - q := by grind
  rw [this]
theorem sign_mul (x y : Rat) : (x * y).num.sign = x.num.sign * y.num.sign := by
  rw [Rat.mul_def', sign_mkRat (Nat.mul_ne_zero x.den_nz y.den_nz), Int.sign_mul]
theorem cmpQ_mul (p q r : Rat) : cmpQ (p * r) (q * r) = cmpQ p q * r.num.sign := by
  unfold cmpQ
  have : p * r - q * r = (p - q) * r := by grind
  rw [this, sign_mul]
theorem sign_range (n : Int) : -1 ≤ n.sign ∧ n.sign ≤ 1 := by
  rcases Int.lt_trichotomy n 0 with a | a | a
  · rw [Int.sign_eq_neg_one_of_neg a]; omega
  · rw [a]; decide
  · rw [Int.sign_eq_one_of_pos a]; omega
theorem cmpQ_le {p q : Rat} : cmpQ p q ≤ 0 ↔ p ≤ q := by
  have h1 := @cmpQ_gt p q
  have h2 := sign_range (p - q).num
  have h3 : (p - q).num.sign = cmpQ p q := rfl
  rw [← Rat.not_lt, ← h1]
  omega

theorem pure_RatOrders {a b c : RR} (ha : a.ok 1048576) (hb : b.ok 1048576) (hc : c.ok 1048576) : PureCalls prog F.penumbralaw03_RatOrders [.agg a.dv, .agg b.dv, .agg c.dv] [.one (.bool true)] := by
  refine symFunc_sound hmix tree_penumbralaw03_RatOrders (by kernel_rfl) rfl ?_
  unfold ir_penumbralaw03_RatOrders
  have la := okL ha; have lb := okL hb; have lc := okL hc
  have sa : Sm 1048576 a.v := ha.sm (by decide)
  have sb : Sm 1048576 b.v := hb.sm (by decide)
  have sc : Sm 1048576 c.v := hc.sm (by decide)
  have sac : Sm LL (a.v + c.v) := (sa.add sc).mono (by decide)
  have sbc : Sm LL (b.v + c.v) := (sb.add sc).mono (by decide)
  have pac : Sm LL (a.v * c.v) := (sa.mul sc).mono (by decide)
  have pbc : Sm LL (b.v * c.v) := (sb.mul sc).mono (by decide)
  have r1 := sign_range (a.v - b.v).num
  have r1 : -1 ≤ cmpQ a.v b.v ∧ cmpQ a.v b.v ≤ 1 := r1
  -- the tail's facts
  have sf := sa.floor
  have sd : Sm LL (a.v - (a.v.floor : Rat)) := (sa.sub sf).mono (by decide)
  have kd := k_sub a (cr (a.v.floor : Rat)) la (cr_ok (sf.mono (by decide)))
  rw [cr_v] at kd
  have ks := c_sign (cr (a.v - (a.v.floor : Rat))) (smK sd)
  rw [cr_v] at ks
  have hs0 : (0 : Int) ≤ (a.v - (a.v.floor : Rat)).num.sign := by
    have h := Rat.floor_le a.v
    have h2 : 0 ≤ a.v - (a.v.floor : Rat) := by grind
    have h3 := Rat.num_nonneg.2 h2
    rcases Int.lt_or_eq_of_le h3 with h4 | h4
    · rw [Int.sign_eq_one_of_pos h4]; omega
    · rw [← h4]; decide
  have kc1 := c_cmpQ (cr (a.v - (a.v.floor : Rat))) (cr (ofQ 1 1)) (smK sd) (smK (k_of (by decide) (by decide) (by decide) (by decide)))
  rw [cr_v, cr_v] at kc1
  have hc1 : cmpQ (a.v - (a.v.floor : Rat)) (ofQ 1 1) < 0 := by
    have e1 : ofQ 1 1 = 1 := by decide +kernel
    have h := Rat.lt_floor_add_one a.v
    rw [Rat.intCast_add] at h
    rw [e1, cmpQ_lt.2 (by
      have : ((1 : Int) : Rat) = 1 := rfl
      rw [this] at h
      grind)]
    decide
  have ksame : PureCalls prog F.penumbraref01_Same [.one (nn ((a.v.floor : Rat)).den), .one (nl [1])] [.one (.bool true)] := by
    have k := cr_same [1] [1] (by simp) (by simp)
    rw [decide_eq_true rfl] at k
    rw [Rat.den_intCast]
    unfold nn
    rw [limbs_one]; exact k
  have ksg := c_sign (cr (a.v - b.v)) (smK ((sa.sub sb).mono (by decide)))
  rw [cr_v] at ksg
  simp only [fa_aggrd, fa_one, fa_nil, fa_aggdv, fa_aggc, fa_aggn, fa_own, List.cons_append, List.nil_append, List.append_nil]
  refine call_step (c_cmpQ a b (okK la) (okK lb)) rfl ?_
  simp only [fa_aggrd, fa_one, fa_nil, fa_aggdv, fa_aggc, fa_aggn, fa_own, List.cons_append, List.nil_append, List.append_nil]
  refine call_step c_fixed3 rfl ?_
  simp only [fa_aggrd, fa_one, fa_nil, fa_aggdv, fa_aggc, fa_aggn, fa_own, List.cons_append, List.nil_append, List.append_nil]
  refine primS (.bool false) rfl ?_
  refine itF rfl ?_
  refine call_step (c_cmpQ b a (okK lb) (okK la)) rfl ?_
  simp only [fa_aggrd, fa_one, fa_nil, fa_aggdv, fa_aggc, fa_aggn, fa_own, List.cons_append, List.nil_append, List.append_nil]
  refine primS (.int .i64 (cmpQ b.v a.v)) (by
    show some (DV.int .i64 (IntKind.i64.wrap (0 - cmpQ a.v b.v))) = _
    rw [wi64 (by omega) (by omega), cmpQ_neg a.v b.v, Int.zero_sub]) ?_
  refine primS (.bool false) (by show Prim.den (.bin .neq) [.int .i64 (cmpQ b.v a.v), .int .i64 (cmpQ b.v a.v)] = _; rw [d_neq, decide_eq_false (by simp)]) ?_
  refine itF rfl ?_
  refine primS (rl [a, c]) rfl ?_
  refine call_step (k_sum2 la lc) rfl ?_
  simp only [fa_aggrd, fa_one, fa_nil, fa_aggdv, fa_aggc, fa_aggn, fa_own, List.cons_append, List.nil_append, List.append_nil]
  refine primS (rl [b, c]) rfl ?_
  refine call_step (k_sum2 lb lc) rfl ?_
  simp only [fa_aggrd, fa_one, fa_nil, fa_aggdv, fa_aggc, fa_aggn, fa_own, List.cons_append, List.nil_append, List.append_nil]
  have k1 := c_cmpQ (cr (a.v + c.v)) (cr (b.v + c.v)) (smK sac) (smK sbc)
  rw [cr_v, cr_v, cmpQ_add] at k1
  refine call_step k1 rfl ?_
  simp only [fa_aggrd, fa_one, fa_nil, fa_aggdv, fa_aggc, fa_aggn, fa_own, List.cons_append, List.nil_append, List.append_nil]
  refine primS (.bool false) (by show Prim.den (.bin .neq) [.int .i64 (cmpQ a.v b.v), .int .i64 (cmpQ a.v b.v)] = _; rw [d_neq, decide_eq_false (by simp)]) ?_
  refine itF rfl ?_
  refine primS (rl [a, c]) rfl ?_
  refine call_step (k_prod2 la lc) rfl ?_
  simp only [fa_aggrd, fa_one, fa_nil, fa_aggdv, fa_aggc, fa_aggn, fa_own, List.cons_append, List.nil_append, List.append_nil]
  refine primS (rl [b, c]) rfl ?_
  refine call_step (k_prod2 lb lc) rfl ?_
  simp only [fa_aggrd, fa_one, fa_nil, fa_aggdv, fa_aggc, fa_aggn, fa_own, List.cons_append, List.nil_append, List.append_nil]
  have k2 := c_cmpQ (cr (a.v * c.v)) (cr (b.v * c.v)) (smK pac) (smK pbc)
  rw [cr_v, cr_v, cmpQ_mul] at k2
  refine call_step k2 rfl ?_
  simp only [fa_aggrd, fa_one, fa_nil, fa_aggdv, fa_aggc, fa_aggn, fa_own, List.cons_append, List.nil_append, List.append_nil]
  refine call_step (c_sign c (okK lc)) rfl ?_
  simp only [fa_aggrd, fa_one, fa_nil, fa_aggdv, fa_aggc, fa_aggn, fa_own, List.cons_append, List.nil_append, List.append_nil]
  have r2 : -1 ≤ cmpQ a.v b.v * c.v.num.sign ∧ cmpQ a.v b.v * c.v.num.sign ≤ 1 := by
    rw [← cmpQ_mul]; exact sign_range _
  refine primS (.int .i64 (cmpQ a.v b.v * c.v.num.sign)) (by
    show Prim.den (.bin .mul) [.int .i64 (cmpQ a.v b.v), .int .i64 c.v.num.sign] = _
    rw [d_mul64 (by omega) (by omega)]) ?_
  refine primS (.bool false) (by
    show Prim.den (.bin .neq) [.int .i64 (cmpQ a.v b.v * c.v.num.sign), .int .i64 (cmpQ a.v b.v * c.v.num.sign)] = _
    rw [d_neq, decide_eq_false (by simp)]) ?_
  refine itF rfl ?_
  refine primS (.bool (decide (cmpQ a.v b.v ≤ 0))) d_leq ?_
  refine ite_step rfl ?_ ?_
  · intro h1
    refine call_step (c_cmpQ b c (okK lb) (okK lc)) rfl ?_
    simp only [fa_aggrd, fa_one, fa_nil, fa_aggdv, fa_aggc, fa_aggn, fa_own, List.cons_append, List.nil_append, List.append_nil]
    refine primS (.bool (decide (cmpQ b.v c.v ≤ 0))) d_leq ?_
    refine ite_step rfl ?_ ?_
    · intro h2
      refine call_step (c_cmpQ a c (okK la) (okK lc)) rfl ?_
      simp only [fa_aggrd, fa_one, fa_nil, fa_aggdv, fa_aggc, fa_aggn, fa_own, List.cons_append, List.nil_append, List.append_nil]
      have h3 : ¬(0 < cmpQ a.v c.v) := by
        have := cmpQ_le.2 (Rat.le_trans (cmpQ_le.1 h1) (cmpQ_le.1 h2))
        omega
      refine primS (.bool false) (by show Prim.den (.bin .gtr) [.int .i64 (cmpQ a.v c.v), .int .i64 0] = _; rw [d_gtr, decide_eq_false h3]) ?_
      refine itF rfl ?_
      refine call_step (c_floor a (okK la)) rfl ?_
      simp only [fa_aggrd, fa_one, fa_nil, fa_aggdv, fa_aggc, fa_aggn, fa_own, List.cons_append, List.nil_append, List.append_nil]
      refine call_step kd rfl ?_
      simp only [fa_aggrd, fa_one, fa_nil, fa_aggdv, fa_aggc, fa_aggn, fa_own, List.cons_append, List.nil_append, List.append_nil]
      refine call_step ks rfl ?_
      simp only [fa_aggrd, fa_one, fa_nil, fa_aggdv, fa_aggc, fa_aggn, fa_own, List.cons_append, List.nil_append, List.append_nil]
      refine primS (.bool true) (by show Prim.den (.bin .geq) [.int .i64 (a.v - (a.v.floor : Rat)).num.sign, .int .i64 0] = _; rw [d_geq, decide_eq_true hs0]) ?_
      refine itT rfl ?_
      refine call_step (c_ofQ 1 1 (by decide) (by decide) (by decide) (by decide)) rfl ?_
      simp only [fa_aggrd, fa_one, fa_nil, fa_aggdv, fa_aggc, fa_aggn, fa_own, List.cons_append, List.nil_append, List.append_nil]
      refine call_step kc1 rfl ?_
      simp only [fa_aggrd, fa_one, fa_nil, fa_aggdv, fa_aggc, fa_aggn, fa_own, List.cons_append, List.nil_append, List.append_nil]
      refine primS (.bool true) (by show Prim.den (.bin .lss) [.int .i64 (cmpQ (a.v - (a.v.floor : Rat)) (ofQ 1 1)), .int .i64 0] = _; rw [d_lss, decide_eq_true hc1]) ?_
      refine itT rfl ?_
      refine call_step (c_floor a (okK la)) rfl ?_
      simp only [fa_aggrd, fa_one, fa_nil, fa_aggdv, fa_aggc, fa_aggn, fa_own, List.cons_append, List.nil_append, List.append_nil]
      refine primS (nl [1]) rfl ?_
      refine call_step ksame rfl ?_
      simp only [fa_aggrd, fa_one, fa_nil, fa_aggdv, fa_aggc, fa_aggn, fa_own, List.cons_append, List.nil_append, List.append_nil]
      refine itT rfl ?_
      refine call_step (k_sub a b la lb) rfl ?_
      simp only [fa_aggrd, fa_one, fa_nil, fa_aggdv, fa_aggc, fa_aggn, fa_own, List.cons_append, List.nil_append, List.append_nil]
      refine call_step ksg rfl ?_
      simp only [fa_aggrd, fa_one, fa_nil, fa_aggdv, fa_aggc, fa_aggn, fa_own, List.cons_append, List.nil_append, List.append_nil]
      refine primS (.bool true) (by show Prim.den (.bin .eql) [.int .i64 (cmpQ a.v b.v), .int .i64 (cmpQ a.v b.v)] = _; rw [d_eql, decide_eq_true rfl]) ?_
      exact ret_step rfl
    · intro h2
      refine call_step (c_floor a (okK la)) rfl ?_
      simp only [fa_aggrd, fa_one, fa_nil, fa_aggdv, fa_aggc, fa_aggn, fa_own, List.cons_append, List.nil_append, List.append_nil]
      refine call_step kd rfl ?_
      simp only [fa_aggrd, fa_one, fa_nil, fa_aggdv, fa_aggc, fa_aggn, fa_own, List.cons_append, List.nil_append, List.append_nil]
      refine call_step ks rfl ?_
      simp only [fa_aggrd, fa_one, fa_nil, fa_aggdv, fa_aggc, fa_aggn, fa_own, List.cons_append, List.nil_append, List.append_nil]
      refine primS (.bool true) (by show Prim.den (.bin .geq) [.int .i64 (a.v - (a.v.floor : Rat)).num.sign, .int .i64 0] = _; rw [d_geq, decide_eq_true hs0]) ?_
      refine itT rfl ?_
      refine call_step (c_ofQ 1 1 (by decide) (by decide) (by decide) (by decide)) rfl ?_
      simp only [fa_aggrd, fa_one, fa_nil, fa_aggdv, fa_aggc, fa_aggn, fa_own, List.cons_append, List.nil_append, List.append_nil]
      refine call_step kc1 rfl ?_
      simp only [fa_aggrd, fa_one, fa_nil, fa_aggdv, fa_aggc, fa_aggn, fa_own, List.cons_append, List.nil_append, List.append_nil]
      refine primS (.bool true) (by show Prim.den (.bin .lss) [.int .i64 (cmpQ (a.v - (a.v.floor : Rat)) (ofQ 1 1)), .int .i64 0] = _; rw [d_lss, decide_eq_true hc1]) ?_
      refine itT rfl ?_
      refine call_step (c_floor a (okK la)) rfl ?_
      simp only [fa_aggrd, fa_one, fa_nil, fa_aggdv, fa_aggc, fa_aggn, fa_own, List.cons_append, List.nil_append, List.append_nil]
      refine primS (nl [1]) rfl ?_
      refine call_step ksame rfl ?_
      simp only [fa_aggrd, fa_one, fa_nil, fa_aggdv, fa_aggc, fa_aggn, fa_own, List.cons_append, List.nil_append, List.append_nil]
      refine itT rfl ?_
      refine call_step (k_sub a b la lb) rfl ?_
      simp only [fa_aggrd, fa_one, fa_nil, fa_aggdv, fa_aggc, fa_aggn, fa_own, List.cons_append, List.nil_append, List.append_nil]
      refine call_step ksg rfl ?_
      simp only [fa_aggrd, fa_one, fa_nil, fa_aggdv, fa_aggc, fa_aggn, fa_own, List.cons_append, List.nil_append, List.append_nil]
      refine primS (.bool true) (by show Prim.den (.bin .eql) [.int .i64 (cmpQ a.v b.v), .int .i64 (cmpQ a.v b.v)] = _; rw [d_eql, decide_eq_true rfl]) ?_
      exact ret_step rfl
  · intro h1
    refine call_step (c_floor a (okK la)) rfl ?_
    simp only [fa_aggrd, fa_one, fa_nil, fa_aggdv, fa_aggc, fa_aggn, fa_own, List.cons_append, List.nil_append, List.append_nil]
    refine call_step kd rfl ?_
    simp only [fa_aggrd, fa_one, fa_nil, fa_aggdv, fa_aggc, fa_aggn, fa_own, List.cons_append, List.nil_append, List.append_nil]
    refine call_step ks rfl ?_
    simp only [fa_aggrd, fa_one, fa_nil, fa_aggdv, fa_aggc, fa_aggn, fa_own, List.cons_append, List.nil_append, List.append_nil]
    refine primS (.bool true) (by show Prim.den (.bin .geq) [.int .i64 (a.v - (a.v.floor : Rat)).num.sign, .int .i64 0] = _; rw [d_geq, decide_eq_true hs0]) ?_
    refine itT rfl ?_
    refine call_step (c_ofQ 1 1 (by decide) (by decide) (by decide) (by decide)) rfl ?_
    simp only [fa_aggrd, fa_one, fa_nil, fa_aggdv, fa_aggc, fa_aggn, fa_own, List.cons_append, List.nil_append, List.append_nil]
    refine call_step kc1 rfl ?_
    simp only [fa_aggrd, fa_one, fa_nil, fa_aggdv, fa_aggc, fa_aggn, fa_own, List.cons_append, List.nil_append, List.append_nil]
    refine primS (.bool true) (by show Prim.den (.bin .lss) [.int .i64 (cmpQ (a.v - (a.v.floor : Rat)) (ofQ 1 1)), .int .i64 0] = _; rw [d_lss, decide_eq_true hc1]) ?_
    refine itT rfl ?_
    refine call_step (c_floor a (okK la)) rfl ?_
    simp only [fa_aggrd, fa_one, fa_nil, fa_aggdv, fa_aggc, fa_aggn, fa_own, List.cons_append, List.nil_append, List.append_nil]
    refine primS (nl [1]) rfl ?_
    refine call_step ksame rfl ?_
    simp only [fa_aggrd, fa_one, fa_nil, fa_aggdv, fa_aggc, fa_aggn, fa_own, List.cons_append, List.nil_append, List.append_nil]
    refine itT rfl ?_
    refine call_step (k_sub a b la lb) rfl ?_
    simp only [fa_aggrd, fa_one, fa_nil, fa_aggdv, fa_aggc, fa_aggn, fa_own, List.cons_append, List.nil_append, List.append_nil]
    refine call_step ksg rfl ?_
    simp only [fa_aggrd, fa_one, fa_nil, fa_aggdv, fa_aggc, fa_aggn, fa_own, List.cons_append, List.nil_append, List.append_nil]
    refine primS (.bool true) (by show Prim.den (.bin .eql) [.int .i64 (cmpQ a.v b.v), .int .i64 (cmpQ a.v b.v)] = _; rw [d_eql, decide_eq_true rfl]) ?_
    exact ret_step rfl

end Go.Px.Na

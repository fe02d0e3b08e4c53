/- La3: the laws of numbers: whatever the numbers, the laws tell true. -/
import Derived.Test.YtgoendglkhilkaaLf3
set_option maxRecDepth 10000
set_option linter.unusedSimpArgs false
set_option linter.unusedVariables false
namespace Go.Px.Na
open Go.RowKit
open Go.Proofs.Try (prog)

theorem k_sub (p q : RR) (hp : p.ok LL) (hq : q.ok LL) : PureCalls prog F.rat_Sub [.agg p.dv, .agg q.dv] [.agg (rd (p.v - q.v))] := c_sub3 p q (okK hp) (okK hq)

theorem pure_RatField {a b c : RR} (ha : a.ok 1048576) (hb : b.ok 1048576) (hc : c.ok 1048576) : PureCalls prog F.penumbralaw03_RatField [.agg a.dv, .agg b.dv, .agg c.dv] [.one (.bool true)] := by
  refine symFunc_sound hmix tree_penumbralaw03_RatField (by kernel_rfl) rfl ?_
  unfold ir_penumbralaw03_RatField
  have la := okL ha; have lb := okL hb; have lc := okL hc
  have sa : Sm 1048576 a.v := ha.sm (by decide)
  have sb : Sm 1048576 b.v := hb.sm (by decide)
  have sc : Sm 1048576 c.v := hc.sm (by decide)
  have sab : Sm LL (a.v + b.v) := (sa.add sb).mono (by decide)
  have sbc : Sm LL (b.v + c.v) := (sb.add sc).mono (by decide)
  have sabc : Sm LL (a.v + b.v + c.v) := ((sa.add sb).add sc).mono (by decide)
  have pab : Sm LL (a.v * b.v) := (sa.mul sb).mono (by decide)
  have pbc : Sm LL (b.v * c.v) := (sb.mul sc).mono (by decide)
  have pac : Sm LL (a.v * c.v) := (sa.mul sc).mono (by decide)
  have pabc : Sm LL (a.v * (b.v * c.v)) := (sa.mul (sb.mul sc)).mono (by decide)
  have psum : Sm LL ((a.v + b.v) * c.v) := ((sa.add sb).mul sc).mono (by decide)
  simp only [fa_aggrd, fa_one, fa_nil, fa_aggdv, fa_aggc, fa_aggn, fa_own, List.cons_append, List.nil_append, List.append_nil]
  refine primS (rl [a, b]) rfl ?_
  refine call_step (k_sum2 la lb) rfl ?_
  simp only [fa_aggrd, fa_one, fa_nil, fa_aggdv, fa_aggc, fa_aggn, fa_own, List.cons_append, List.nil_append, List.append_nil]
  refine primS (rl [b, a]) rfl ?_
  refine call_step (k_sum2 lb la) rfl ?_
  simp only [fa_aggrd, fa_one, fa_nil, fa_aggdv, fa_aggc, fa_aggn, fa_own, List.cons_append, List.nil_append, List.append_nil]
  refine call_step (k_is sab (Rat.add_comm _ _)) rfl ?_
  simp only [fa_aggrd, fa_one, fa_nil, fa_aggdv, fa_aggc, fa_aggn, fa_own, List.cons_append, List.nil_append, List.append_nil]
  refine itT rfl ?_
  refine primS (rl [cr (a.v + b.v), c]) rfl ?_
  have k1 := k_sum2 (cr_ok sab) lc
  rw [cr_v] at k1
  refine call_step k1 rfl ?_
  simp only [fa_aggrd, fa_one, fa_nil, fa_aggdv, fa_aggc, fa_aggn, fa_own, List.cons_append, List.nil_append, List.append_nil]
  refine primS (rl [b, c]) rfl ?_
  refine call_step (k_sum2 lb lc) rfl ?_
  simp only [fa_aggrd, fa_one, fa_nil, fa_aggdv, fa_aggc, fa_aggn, fa_own, List.cons_append, List.nil_append, List.append_nil]
  refine primS (rl [a, cr (b.v + c.v)]) rfl ?_
  have k2 := k_sum2 la (cr_ok sbc)
  rw [cr_v] at k2
  refine call_step k2 rfl ?_
  simp only [fa_aggrd, fa_one, fa_nil, fa_aggdv, fa_aggc, fa_aggn, fa_own, List.cons_append, List.nil_append, List.append_nil]
  refine call_step (k_is sabc (Rat.add_assoc _ _ _)) rfl ?_
  simp only [fa_aggrd, fa_one, fa_nil, fa_aggdv, fa_aggc, fa_aggn, fa_own, List.cons_append, List.nil_append, List.append_nil]
  refine itT rfl ?_
  refine primS (rl [a, b, c]) rfl ?_
  refine call_step (k_sum3 la lb lc) rfl ?_
  simp only [fa_aggrd, fa_one, fa_nil, fa_aggdv, fa_aggc, fa_aggn, fa_own, List.cons_append, List.nil_append, List.append_nil]
  refine primS (rl [cr (a.v + b.v), c]) rfl ?_
  refine call_step k1 rfl ?_
  simp only [fa_aggrd, fa_one, fa_nil, fa_aggdv, fa_aggc, fa_aggn, fa_own, List.cons_append, List.nil_append, List.append_nil]
  refine call_step (k_is sabc rfl) rfl ?_
  simp only [fa_aggrd, fa_one, fa_nil, fa_aggdv, fa_aggc, fa_aggn, fa_own, List.cons_append, List.nil_append, List.append_nil]
  refine itT rfl ?_
  have k3 := k_sub (cr (a.v + b.v)) b (cr_ok sab) lb
  rw [cr_v, Rat.add_sub_cancel] at k3
  refine call_step k3 rfl ?_
  simp only [fa_aggrd, fa_one, fa_nil, fa_aggdv, fa_aggc, fa_aggn, fa_own, List.cons_append, List.nil_append, List.append_nil]
  refine call_step (k_read la) rfl ?_
  simp only [fa_aggrd, fa_one, fa_nil, fa_aggdv, fa_aggc, fa_aggn, fa_own, List.cons_append, List.nil_append, List.append_nil]
  refine call_step (k_is (sa.mono (by decide)) rfl) rfl ?_
  simp only [fa_aggrd, fa_one, fa_nil, fa_aggdv, fa_aggc, fa_aggn, fa_own, List.cons_append, List.nil_append, List.append_nil]
  refine itT rfl ?_
  refine call_step (c_neg a (okK la)) rfl ?_
  simp only [fa_aggrd, fa_one, fa_nil, fa_aggdv, fa_aggc, fa_aggn, fa_own, List.cons_append, List.nil_append, List.append_nil]
  refine primS (rl [a, cr (-a.v)]) rfl ?_
  have k4 := k_sum2 la (cr_ok (sa.neg.mono (by decide)))
  rw [cr_v, Rat.add_neg_cancel] at k4
  refine call_step k4 rfl ?_
  simp only [fa_aggrd, fa_one, fa_nil, fa_aggdv, fa_aggc, fa_aggn, fa_own, List.cons_append, List.nil_append, List.append_nil]
  have k5 := c_sign (cr 0) (smK (Sm0.mono (by decide)))
  rw [cr_v] at k5
  refine call_step k5 rfl ?_
  simp only [fa_aggrd, fa_one, fa_nil, fa_aggdv, fa_aggc, fa_aggn, fa_own, List.cons_append, List.nil_append, List.append_nil]
  refine primS (.bool true) rfl ?_
  simp only [fa_aggrd, fa_one, fa_nil, fa_aggdv, fa_aggc, fa_aggn, fa_own, List.cons_append, List.nil_append, List.append_nil]
  refine primS (rl [a, b]) rfl ?_
  refine call_step (k_prod2 la lb) rfl ?_
  simp only [fa_aggrd, fa_one, fa_nil, fa_aggdv, fa_aggc, fa_aggn, fa_own, List.cons_append, List.nil_append, List.append_nil]
  refine primS (rl [b, a]) rfl ?_
  refine call_step (k_prod2 lb la) rfl ?_
  simp only [fa_aggrd, fa_one, fa_nil, fa_aggdv, fa_aggc, fa_aggn, fa_own, List.cons_append, List.nil_append, List.append_nil]
  refine call_step (k_is pab (Rat.mul_comm _ _)) rfl ?_
  simp only [fa_aggrd, fa_one, fa_nil, fa_aggdv, fa_aggc, fa_aggn, fa_own, List.cons_append, List.nil_append, List.append_nil]
  refine itT rfl ?_
  refine primS (rl [b, c]) rfl ?_
  refine call_step (k_prod2 lb lc) rfl ?_
  simp only [fa_aggrd, fa_one, fa_nil, fa_aggdv, fa_aggc, fa_aggn, fa_own, List.cons_append, List.nil_append, List.append_nil]
  refine primS (rl [a, cr (b.v * c.v)]) rfl ?_
  have k6 := k_prod2 la (cr_ok pbc)
  rw [cr_v] at k6
  refine call_step k6 rfl ?_
  simp only [fa_aggrd, fa_one, fa_nil, fa_aggdv, fa_aggc, fa_aggn, fa_own, List.cons_append, List.nil_append, List.append_nil]
  refine primS (rl [a, b, c]) rfl ?_
  refine call_step (k_prod3 la lb lc) rfl ?_
  simp only [fa_aggrd, fa_one, fa_nil, fa_aggdv, fa_aggc, fa_aggn, fa_own, List.cons_append, List.nil_append, List.append_nil]
  refine call_step (k_is pabc (Rat.mul_assoc _ _ _).symm) rfl ?_
  simp only [fa_aggrd, fa_one, fa_nil, fa_aggdv, fa_aggc, fa_aggn, fa_own, List.cons_append, List.nil_append, List.append_nil]
  refine itT rfl ?_
  refine primS (rl [cr (a.v + b.v), c]) rfl ?_
  have k7 := k_prod2 (cr_ok sab) lc
  rw [cr_v] at k7
  refine call_step k7 rfl ?_
  simp only [fa_aggrd, fa_one, fa_nil, fa_aggdv, fa_aggc, fa_aggn, fa_own, List.cons_append, List.nil_append, List.append_nil]
  refine primS (rl [a, c]) rfl ?_
  refine call_step (k_prod2 la lc) rfl ?_
  simp only [fa_aggrd, fa_one, fa_nil, fa_aggdv, fa_aggc, fa_aggn, fa_own, List.cons_append, List.nil_append, List.append_nil]
  refine primS (rl [b, c]) rfl ?_
  refine call_step (k_prod2 lb lc) rfl ?_
  simp only [fa_aggrd, fa_one, fa_nil, fa_aggdv, fa_aggc, fa_aggn, fa_own, List.cons_append, List.nil_append, List.append_nil]
  refine primS (rl [cr (a.v * c.v), cr (b.v * c.v)]) rfl ?_
  refine call_step (k_sum2' pac pbc) rfl ?_
  simp only [fa_aggrd, fa_one, fa_nil, fa_aggdv, fa_aggc, fa_aggn, fa_own, List.cons_append, List.nil_append, List.append_nil]
  refine call_step (k_is psum (Rat.add_mul _ _ _)) rfl ?_
  simp only [fa_aggrd, fa_one, fa_nil, fa_aggdv, fa_aggc, fa_aggn, fa_own, List.cons_append, List.nil_append, List.append_nil]
  refine primS (rl [a, b]) rfl ?_
  refine call_step (k_prod2 la lb) rfl ?_
  simp only [fa_aggrd, fa_one, fa_nil, fa_aggdv, fa_aggc, fa_aggn, fa_own, List.cons_append, List.nil_append, List.append_nil]
  have k8 := c_div (cr (a.v * b.v)) b (smK pab) (okK lb)
  rw [cr_v] at k8
  have k9 := c_sign b (okK lb)
  by_cases h0 : b.v = 0
  · unfold divQ at k8
    rw [if_pos h0] at k8
    refine call_step k8 rfl ?_
    simp only [fa_aggrd, fa_one, fa_nil, fa_aggdv, fa_aggc, fa_aggn, fa_own, List.cons_append, List.nil_append, List.append_nil]
    refine call_step c_fixed3 rfl ?_
    simp only [fa_aggrd, fa_one, fa_nil, fa_aggdv, fa_aggc, fa_aggn, fa_own, List.cons_append, List.nil_append, List.append_nil]
    refine itT rfl ?_
    refine itT rfl ?_
    refine itT rfl ?_
    rw [h0] at k9
    refine call_step k9 rfl ?_
    simp only [fa_aggrd, fa_one, fa_nil, fa_aggdv, fa_aggc, fa_aggn, fa_own, List.cons_append, List.nil_append, List.append_nil]
    refine primS (.bool false) rfl ?_
    refine primS (.bool true) rfl ?_
    refine itT rfl ?_
    refine primS (.bool true) rfl ?_
    refine itT rfl ?_
    exact ret_step rfl
  · unfold divQ at k8
    rw [if_neg h0, Rat.mul_div_cancel h0] at k8
    refine call_step k8 rfl ?_
    simp only [fa_aggrd, fa_one, fa_nil, fa_aggdv, fa_aggc, fa_aggn, fa_own, List.cons_append, List.nil_append, List.append_nil]
    refine call_step c_fixed3 rfl ?_
    simp only [fa_aggrd, fa_one, fa_nil, fa_aggdv, fa_aggc, fa_aggn, fa_own, List.cons_append, List.nil_append, List.append_nil]
    refine itT rfl ?_
    refine itT rfl ?_
    refine itT rfl ?_
    refine call_step k9 rfl ?_
    simp only [fa_aggrd, fa_one, fa_nil, fa_aggdv, fa_aggc, fa_aggn, fa_own, List.cons_append, List.nil_append, List.append_nil]
    have hs : b.v.num.sign ≠ 0 := fun h => h0 (sign_zero.1 h)
    refine primS (.bool true) (by show Prim.den (.bin .neq) [.int .i64 b.v.num.sign, .int .i64 0] = _; rw [d_neq, decide_eq_true hs]) ?_
    refine primS (.bool true) rfl ?_
    refine itT rfl ?_
    refine primS (.bool false) rfl ?_
    refine itF rfl ?_
    refine call_step (k_read la) rfl ?_
    simp only [fa_aggrd, fa_one, fa_nil, fa_aggdv, fa_aggc, fa_aggn, fa_own, List.cons_append, List.nil_append, List.append_nil]
    refine call_step (k_is (sa.mono (by decide)) rfl) rfl ?_
    exact ret_step rfl

theorem divQ_is {p q : Rat} : ∃ (r : Rat) (b : Bool), divQ p q = [.agg (rd r), .one (.bool b)] ∧ (r = 0 ∨ r = p / q) := by
  unfold divQ
  split
  · exact ⟨0, false, rfl, .inl rfl⟩
  · exact ⟨_, true, rfl, .inr rfl⟩

theorem pure_RatReckons {a b : RR} (ha : a.ok 1048576) (hb : b.ok 1048576) : PureCalls prog F.penumbralaw03_RatReckons [.agg a.dv, .agg b.dv] [.one (.bool true)] := by
  refine symFunc_sound hmix tree_penumbralaw03_RatReckons (by kernel_rfl) rfl ?_
  unfold ir_penumbralaw03_RatReckons
  have la := okL ha; have lb := okL hb
  have sa : Sm 1048576 a.v := ha.sm (by decide)
  have sb : Sm 1048576 b.v := hb.sm (by decide)
  obtain ⟨r, t, hd, hr⟩ := divQ_is (p := a.v) (q := b.v)
  have hrs : Sm LL r := by
    rcases hr with rfl | rfl
    · exact Sm0.mono (by decide)
    · exact (sa.div sb).mono (by decide)
  have k1 := c_div a b (okK la) (okK lb)
  have k2 := cr_divQ a b (okK la) (okK lb)
  rw [hd] at k1 k2
  simp only [fa_aggrd, fa_one, fa_nil, fa_aggdv, fa_aggc, fa_aggn, fa_own, List.cons_append, List.nil_append, List.append_nil]
  refine call_step k1 rfl ?_
  simp only [fa_aggrd, fa_one, fa_nil, fa_aggdv, fa_aggc, fa_aggn, fa_own, List.cons_append, List.nil_append, List.append_nil]
  refine call_step k2 rfl ?_
  simp only [fa_aggrd, fa_one, fa_nil, fa_aggdv, fa_aggc, fa_aggn, fa_own, List.cons_append, List.nil_append, List.append_nil]
  refine call_step c_fixed3 rfl ?_
  simp only [fa_aggrd, fa_one, fa_nil, fa_aggdv, fa_aggc, fa_aggn, fa_own, List.cons_append, List.nil_append, List.append_nil]
  refine itT rfl ?_
  refine primS (rl [a, b]) rfl ?_
  refine call_step (k_sum2 la lb) rfl ?_
  simp only [fa_aggrd, fa_one, fa_nil, fa_aggdv, fa_aggc, fa_aggn, fa_own, List.cons_append, List.nil_append, List.append_nil]
  refine call_step (cr_addQ a b (okK la) (okK lb)) rfl ?_
  simp only [fa_aggrd, fa_one, fa_nil, fa_aggdv, fa_aggc, fa_aggn, fa_own, List.cons_append, List.nil_append, List.append_nil]
  refine call_step (k_is ((sa.add sb).mono (by decide)) rfl) rfl ?_
  simp only [fa_aggrd, fa_one, fa_nil, fa_aggdv, fa_aggc, fa_aggn, fa_own, List.cons_append, List.nil_append, List.append_nil]
  refine itT rfl ?_
  refine call_step (k_sub a b la lb) rfl ?_
  simp only [fa_aggrd, fa_one, fa_nil, fa_aggdv, fa_aggc, fa_aggn, fa_own, List.cons_append, List.nil_append, List.append_nil]
  refine call_step (cr_subQ a b (okK la) (okK lb)) rfl ?_
  simp only [fa_aggrd, fa_one, fa_nil, fa_aggdv, fa_aggc, fa_aggn, fa_own, List.cons_append, List.nil_append, List.append_nil]
  refine call_step (k_is ((sa.sub sb).mono (by decide)) rfl) rfl ?_
  simp only [fa_aggrd, fa_one, fa_nil, fa_aggdv, fa_aggc, fa_aggn, fa_own, List.cons_append, List.nil_append, List.append_nil]
  refine itT rfl ?_
  refine primS (rl [a, b]) rfl ?_
  refine call_step (k_prod2 la lb) rfl ?_
  simp only [fa_aggrd, fa_one, fa_nil, fa_aggdv, fa_aggc, fa_aggn, fa_own, List.cons_append, List.nil_append, List.append_nil]
  refine call_step (cr_mulQ a b (okK la) (okK lb)) rfl ?_
  simp only [fa_aggrd, fa_one, fa_nil, fa_aggdv, fa_aggc, fa_aggn, fa_own, List.cons_append, List.nil_append, List.append_nil]
  refine call_step (k_is ((sa.mul sb).mono (by decide)) rfl) rfl ?_
  simp only [fa_aggrd, fa_one, fa_nil, fa_aggdv, fa_aggc, fa_aggn, fa_own, List.cons_append, List.nil_append, List.append_nil]
  refine itT rfl ?_
  refine call_step (k_is hrs rfl) rfl ?_
  simp only [fa_aggrd, fa_one, fa_nil, fa_aggdv, fa_aggc, fa_aggn, fa_own, List.cons_append, List.nil_append, List.append_nil]
  refine itT rfl ?_
  refine primS (.bool true) (by show Prim.den (.beq false) [.bool t, .bool t] = _; rw [d_beqf]; simp) ?_
  refine itT rfl ?_
  refine call_step (c_cmpQ a b (okK la) (okK lb)) rfl ?_
  simp only [fa_aggrd, fa_one, fa_nil, fa_aggdv, fa_aggc, fa_aggn, fa_own, List.cons_append, List.nil_append, List.append_nil]
  refine call_step (cr_cmpQ a b (la.mono (by decide)) (lb.mono (by decide))) rfl ?_
  simp only [fa_aggrd, fa_one, fa_nil, fa_aggdv, fa_aggc, fa_aggn, fa_own, List.cons_append, List.nil_append, List.append_nil]
  refine primS (.bool true) (by show Prim.den (.bin .eql) [.int .i64 (cmpQ a.v b.v), .int .i64 (cmpQ a.v b.v)] = _; rw [d_eql, decide_eq_true rfl]) ?_
  refine itT rfl ?_
  refine call_step (c_same3 a b (okK la) (okK lb)) rfl ?_
  simp only [fa_aggrd, fa_one, fa_nil, fa_aggdv, fa_aggc, fa_aggn, fa_own, List.cons_append, List.nil_append, List.append_nil]
  refine call_step (cr_cmpQ a b (la.mono (by decide)) (lb.mono (by decide))) rfl ?_
  simp only [fa_aggrd, fa_one, fa_nil, fa_aggdv, fa_aggc, fa_aggn, fa_own, List.cons_append, List.nil_append, List.append_nil]
  refine primS (.bool (decide (a.v = b.v))) (by show Prim.den (.bin .eql) [.int .i64 (cmpQ a.v b.v), .int .i64 0] = _; rw [d_eql]; simp only [cmpQ_eq]) ?_
  refine primS (.bool true) (by show Prim.den (.beq false) [.bool (decide (a.v = b.v)), .bool (decide (a.v = b.v))] = _; rw [d_beqf]; simp) ?_
  exact ret_step rfl

theorem pure_RatReads {a : RR} {n d : Int} (ha : a.ok 1048576) (h0 : -9223372036854775808 ≤ n) (h1 : n < 9223372036854775808) (h2 : -9223372036854775808 ≤ d) (h3 : d < 9223372036854775808) :
    PureCalls prog F.penumbralaw03_RatReads [.agg a.dv, .one (.int .i64 n), .one (.int .i64 d)] [.one (.bool true)] := by
  refine symFunc_sound hmix tree_penumbralaw03_RatReads (by kernel_rfl) rfl ?_
  unfold ir_penumbralaw03_RatReads
  have la := okL ha
  have sa : Sm 1048576 a.v := ha.sm (by decide)
  have sL : Sm LL a.v := sa.mono (by decide)
  simp only [fa_aggrd, fa_one, fa_nil, fa_aggdv, fa_aggc, fa_aggn, fa_own, List.cons_append, List.nil_append, List.append_nil]
  refine call_step c_fixed3 rfl ?_
  simp only [fa_aggrd, fa_one, fa_nil, fa_aggdv, fa_aggc, fa_aggn, fa_own, List.cons_append, List.nil_append, List.append_nil]
  refine itT rfl ?_
  refine call_step (k_read la) rfl ?_
  simp only [fa_aggrd, fa_one, fa_nil, fa_aggdv, fa_aggc, fa_aggn, fa_own, List.cons_append, List.nil_append, List.append_nil]
  refine call_step (cr_read a (okK la).two) rfl ?_
  simp only [fa_aggrd, fa_one, fa_nil, fa_aggdv, fa_aggc, fa_aggn, fa_own, List.cons_append, List.nil_append, List.append_nil]
  refine call_step (k_is sL rfl) rfl ?_
  simp only [fa_aggrd, fa_one, fa_nil, fa_aggdv, fa_aggc, fa_aggn, fa_own, List.cons_append, List.nil_append, List.append_nil]
  refine itT rfl ?_
  refine call_step (c_check a (okK la)) rfl ?_
  simp only [fa_aggrd, fa_one, fa_nil, fa_aggdv, fa_aggc, fa_aggn, fa_own, List.cons_append, List.nil_append, List.append_nil]
  refine call_step (cr_check a (okK la)) rfl ?_
  simp only [fa_aggrd, fa_one, fa_nil, fa_aggdv, fa_aggc, fa_aggn, fa_own, List.cons_append, List.nil_append, List.append_nil]
  refine primS (.bool true) (by show Prim.den (.beq false) [.bool (eqRR (cr a.v) a), .bool (eqRR (cr a.v) a)] = _; rw [d_beqf]; simp) ?_
  refine itT rfl ?_
  refine call_step (c_sign a (okK la)) rfl ?_
  simp only [fa_aggrd, fa_one, fa_nil, fa_aggdv, fa_aggc, fa_aggn, fa_own, List.cons_append, List.nil_append, List.append_nil]
  refine call_step (cr_sign a (okK la)) rfl ?_
  simp only [fa_aggrd, fa_one, fa_nil, fa_aggdv, fa_aggc, fa_aggn, fa_own, List.cons_append, List.nil_append, List.append_nil]
  refine primS (.bool true) (by show Prim.den (.bin .eql) [.int .i64 a.v.num.sign, .int .i64 a.v.num.sign] = _; rw [d_eql, decide_eq_true rfl]) ?_
  refine itT rfl ?_
  refine call_step (c_abs a (okK la)) rfl ?_
  simp only [fa_aggrd, fa_one, fa_nil, fa_aggdv, fa_aggc, fa_aggn, fa_own, List.cons_append, List.nil_append, List.append_nil]
  refine call_step (cr_absQ a (okK la)) rfl ?_
  simp only [fa_aggrd, fa_one, fa_nil, fa_aggdv, fa_aggc, fa_aggn, fa_own, List.cons_append, List.nil_append, List.append_nil]
  refine call_step (k_is sL.abs rfl) rfl ?_
  simp only [fa_aggrd, fa_one, fa_nil, fa_aggdv, fa_aggc, fa_aggn, fa_own, List.cons_append, List.nil_append, List.append_nil]
  refine itT rfl ?_
  refine call_step (c_neg a (okK la)) rfl ?_
  simp only [fa_aggrd, fa_one, fa_nil, fa_aggdv, fa_aggc, fa_aggn, fa_own, List.cons_append, List.nil_append, List.append_nil]
  refine call_step (cr_neg a (okK la)) rfl ?_
  simp only [fa_aggrd, fa_one, fa_nil, fa_aggdv, fa_aggc, fa_aggn, fa_own, List.cons_append, List.nil_append, List.append_nil]
  refine call_step (k_is sL.neg rfl) rfl ?_
  simp only [fa_aggrd, fa_one, fa_nil, fa_aggdv, fa_aggc, fa_aggn, fa_own, List.cons_append, List.nil_append, List.append_nil]
  refine itT rfl ?_
  refine call_step (c_ofQ n d h0 h1 h2 h3) rfl ?_
  simp only [fa_aggrd, fa_one, fa_nil, fa_aggdv, fa_aggc, fa_aggn, fa_own, List.cons_append, List.nil_append, List.append_nil]
  refine call_step (cr_ofQ n d h0 h1 h2 h3) rfl ?_
  simp only [fa_aggrd, fa_one, fa_nil, fa_aggdv, fa_aggc, fa_aggn, fa_own, List.cons_append, List.nil_append, List.append_nil]
  refine call_step (k_is (k_of h0 h1 h2 h3) rfl) rfl ?_
  exact ret_step rfl

end Go.Px.Na

/- Do: each place is that of just one draw. -/
import Derived.Test.YtgnhhdgepnfnmaaDr2
set_option maxRecDepth 10000
set_option maxHeartbeats 8000000
set_option linter.unusedVariables false
set_option linter.unusedSimpArgs false
namespace Go.Px.Na
open Go.RowKit
open Go.Proofs.Try (prog)

theorem nesS {t : Bool} {a b d : Int} : Prim.den (.nes [true, false, false, false]) [.bool t, .int .i64 a, .int .i64 b, .int .i64 d, .bool t, .int .i64 a, .int .i64 b, .int .i64 d] = some (.bool false) := by
  simp [Prim.den, eqDVs]
theorem dvm {a b q r : Int} (hb : 0 < b) (e : a = q * b + r) (h0 : 0 ≤ r) (h1 : r < b) : a / b = q ∧ a % b = r :=
  (Int.ediv_emod_unique hb).2 ⟨by rw [e, Int.mul_comm]; omega, h0, h1⟩
theorem dvp {a b : Int} (hb : 0 < b) : a = a / b * b + a % b ∧ 0 ≤ a % b ∧ a % b < b :=
  ⟨by have := Int.mul_ediv_add_emod a b; rw [Int.mul_comm]; omega, Int.emod_nonneg _ (by omega), Int.emod_lt_of_pos _ hb⟩
/-- What the draw of a place is for. -/
def CF.wt (c : CF) (w h i : Int) : Bool := decide (w * h * (4 * c.d + 1) ≤ i % c.pass w h)
def CF.wp (c : CF) (w h i : Int) : Int := i / c.pass w h
def CF.ww (c : CF) (w h i : Int) : Int := if c.wt w h i then (i % c.pass w h - w * h * (4 * c.d + 1)) / (2 * c.d + 1) else i % c.pass w h / (4 * c.d + 1)
def CF.ws (c : CF) (w h i : Int) : Int := if c.wt w h i then (i % c.pass w h - w * h * (4 * c.d + 1)) % (2 * c.d + 1) else i % c.pass w h % (4 * c.d + 1)
def CF.sl4 (t : Bool) (a b d : Int) : List DV := [.bool t, .int .i64 a, .int .i64 b, .int .i64 d]
theorem c_where_t {c : CF} {w h i : Int} (hc : c.ok) (hl : c.lay w h) (h0 : 0 ≤ i) (h1 : i < c.pass w h * c.ps) :
    PureCalls prog F.draws_Where [.agg c.dv, .one (.int .i64 w), .one (.int .i64 h), .one (.int .i64 i)] [.agg [.bool (c.wt w h i), .int .i64 (c.wp w h i), .int .i64 (c.ww w h i), .int .i64 (c.ws w h i)], .one (.bool true)] := by
  refine symFunc_sound hmix tree_draws_Where (by kernel_rfl) rfl ?_
  unfold ir_draws_Where
  have hb := may_b hl.1
  have hp := pass_b hl
  have e1 := bnd (show 0 ≤ c.pass w h by omega) hp.2.1 (show 0 ≤ c.ps by omega) (show c.ps ≤ 16 by omega)
  have k1 := c_within i 0 (c.pass w h * c.ps - 1)
  rw [decide_eq_true ⟨h0, by omega⟩] at k1
  have kp := c_pass (p := w * h) (e := 4 * c.d + 1) (q := c.ph) (v := 2 * c.d + 1) hp.2.2.1 hp.2.2.2.1 (by omega) (by omega) (by omega) (by omega) (by omega) (by omega)
  have hm := dvp (a := i) (b := c.pass w h) hp.1
  have hd : 0 ≤ i / c.pass w h := Int.ediv_nonneg h0 (by omega)
  rw [fa_cf]
  unfold CF.dv
  try simp only [FF, List.cons_append, List.nil_append, List.append_nil]
  refine call_step (c_lay_t hc hl) rfl ?_
  try simp only [FF, List.cons_append, List.nil_append, List.append_nil]
  refine primS (.bool false) rfl ?_
  refine itF rfl ?_
  refine call_step kp rfl ?_
  try simp only [FF, List.cons_append, List.nil_append, List.append_nil]
  refine primS (.int .i64 (c.pass w h * c.ps)) (mulE rfl (by omega) (by omega)) ?_
  refine primS (.int .i64 (c.pass w h * c.ps - 1)) (d_sub64 (by omega) (by omega)) ?_
  refine call_step k1 rfl ?_
  try simp only [FF, List.cons_append, List.nil_append, List.append_nil]
  refine primS (.bool false) rfl ?_
  refine itF rfl ?_
  refine call_step kp rfl ?_
  try simp only [FF, List.cons_append, List.nil_append, List.append_nil]
  refine primS (.int .i64 (i / c.pass w h)) (d_quo64 (by omega) (by omega) (by show 0 < c.pass w h; omega)) ?_
  refine call_step kp rfl ?_
  try simp only [FF, List.cons_append, List.nil_append, List.append_nil]
  refine primS (.int .i64 (i % c.pass w h)) (d_rem64 (by omega) (by show 0 < c.pass w h; omega)) ?_
  refine primS (.int .i64 (w * h * (4 * c.d + 1))) (mulE rfl (by omega) (by omega)) ?_
  by_cases ht : w * h * (4 * c.d + 1) ≤ i % c.pass w h
  · have et : c.wt w h i = true := by unfold CF.wt; exact decide_eq_true ht
    refine primS (.bool true) (d_geq.trans (by rw [decide_eq_true ht])) ?_
    refine itT rfl ?_
    refine primS (.int .i64 (w * h * (4 * c.d + 1))) (mulE rfl (by omega) (by omega)) ?_
    refine primS (.int .i64 (i % c.pass w h - w * h * (4 * c.d + 1))) (d_sub64 (by omega) (by omega)) ?_
    refine primS (.int .i64 ((i % c.pass w h - w * h * (4 * c.d + 1)) / (2 * c.d + 1))) (d_quo64 (by omega) (by omega) (by omega)) ?_
    refine primS (.int .i64 ((i % c.pass w h - w * h * (4 * c.d + 1)) % (2 * c.d + 1))) (d_rem64 (by omega) (by omega)) ?_
    refine ret_step ?_
    unfold CF.ww CF.ws CF.wp
    rw [et]
    rfl
  · have et : c.wt w h i = false := by unfold CF.wt; exact decide_eq_false ht
    refine primS (.bool false) (d_geq.trans (by rw [decide_eq_false ht])) ?_
    refine itF rfl ?_
    refine primS (.int .i64 (i % c.pass w h / (4 * c.d + 1))) (d_quo64 (by omega) (by omega) (by omega)) ?_
    refine primS (.int .i64 (i % c.pass w h % (4 * c.d + 1))) (d_rem64 (by omega) (by omega)) ?_
    refine ret_step ?_
    unfold CF.ww CF.ws CF.wp
    rw [et]
    rfl
theorem c_where_f {c : CF} {w h i : Int} (hc : c.ok) (hw : ¬(c.lay w h ∧ 0 ≤ i ∧ i < c.pass w h * c.ps)) :
    PureCalls prog F.draws_Where [.agg c.dv, .one (.int .i64 w), .one (.int .i64 h), .one (.int .i64 i)] [.agg [.bool false, .int .i64 0, .int .i64 0, .int .i64 0], .one (.bool false)] := by
  refine symFunc_sound hmix tree_draws_Where (by kernel_rfl) rfl ?_
  unfold ir_draws_Where
  rw [fa_cf]
  unfold CF.dv
  try simp only [FF, List.cons_append, List.nil_append, List.append_nil]
  by_cases hl : c.lay w h
  · have hb := may_b hl.1
    have hp := pass_b hl
    have e1 := bnd (show 0 ≤ c.pass w h by omega) hp.2.1 (show 0 ≤ c.ps by omega) (show c.ps ≤ 16 by omega)
    have k1 := c_within i 0 (c.pass w h * c.ps - 1)
    rw [decide_eq_false (fun z => hw ⟨hl, z.1, by omega⟩)] at k1
    have kp := c_pass (p := w * h) (e := 4 * c.d + 1) (q := c.ph) (v := 2 * c.d + 1) hp.2.2.1 hp.2.2.2.1 (by omega) (by omega) (by omega) (by omega) (by omega) (by omega)
    refine call_step (c_lay_t hc hl) rfl ?_
    try simp only [FF, List.cons_append, List.nil_append, List.append_nil]
    refine primS (.bool false) rfl ?_
    refine itF rfl ?_
    refine call_step kp rfl ?_
    try simp only [FF, List.cons_append, List.nil_append, List.append_nil]
    refine primS (.int .i64 (c.pass w h * c.ps)) (mulE rfl (by omega) (by omega)) ?_
    refine primS (.int .i64 (c.pass w h * c.ps - 1)) (d_sub64 (by omega) (by omega)) ?_
    refine call_step k1 rfl ?_
    try simp only [FF, List.cons_append, List.nil_append, List.append_nil]
    refine primS (.bool true) rfl ?_
    refine itT rfl ?_
    exact ret_step rfl
  · refine call_step (c_lay_f hc hl) rfl ?_
    try simp only [FF, List.cons_append, List.nil_append, List.append_nil]
    refine primS (.bool true) rfl ?_
    refine itT rfl ?_
    exact ret_step rfl
/-- From a place to a draw and back. -/
theorem w_idx {c : CF} {w h i : Int} (hl : c.lay w h) (h0 : 0 ≤ i) (h1 : i < c.pass w h * c.ps) : c.idx w h (c.wt w h i) (c.wp w h i) (c.ww w h i) (c.ws w h i) ∧ c.plc w h (c.wt w h i) (c.wp w h i) (c.ww w h i) (c.ws w h i) = i := by
  have hb := may_b hl.1
  have hp := pass_b hl
  have hm := dvp (a := i) (b := c.pass w h) hp.1
  have hd : 0 ≤ i / c.pass w h := Int.ediv_nonneg h0 (by omega)
  have hd2 : i / c.pass w h < c.ps := Int.ediv_lt_of_lt_mul hp.1 (by rw [Int.mul_comm]; exact h1)
  have hpass : c.pass w h = w * h * (4 * c.d + 1) + c.ph * (2 * c.d + 1) := rfl
  unfold CF.idx CF.plc CF.ww CF.ws CF.wp
  by_cases ht : w * h * (4 * c.d + 1) ≤ i % c.pass w h
  · have et : c.wt w h i = true := by unfold CF.wt; exact decide_eq_true ht
    rw [et]
    have hq := dvp (a := i % c.pass w h - w * h * (4 * c.d + 1)) (b := 2 * c.d + 1) (by omega)
    have q0 : 0 ≤ (i % c.pass w h - w * h * (4 * c.d + 1)) / (2 * c.d + 1) := Int.ediv_nonneg (by omega) (by omega)
    have q1 : (i % c.pass w h - w * h * (4 * c.d + 1)) / (2 * c.d + 1) < c.ph := Int.ediv_lt_of_lt_mul (by omega) (by omega)
    simp only [if_true]
    refine ⟨⟨hl, by omega, by omega, fun _ => ⟨q0, by omega, by omega, by omega⟩, fun z => by cases z⟩, by omega⟩
  · have et : c.wt w h i = false := by unfold CF.wt; exact decide_eq_false ht
    rw [et]
    have hq := dvp (a := i % c.pass w h) (b := 4 * c.d + 1) (by omega)
    have q0 : 0 ≤ i % c.pass w h / (4 * c.d + 1) := Int.ediv_nonneg (by omega) (by omega)
    have q1 : i % c.pass w h / (4 * c.d + 1) < w * h := Int.ediv_lt_of_lt_mul (by omega) (by omega)
    simp only [Bool.false_eq_true, if_false]
    refine ⟨⟨hl, by omega, by omega, (fun z => by cases z), fun _ => ⟨q0, by omega, by omega, by omega⟩⟩, by omega⟩
theorem i_wh {c : CF} {w h : Int} {t : Bool} {pa wi sl : Int} (hx : c.idx w h t pa wi sl) : 0 ≤ c.plc w h t pa wi sl ∧ c.plc w h t pa wi sl < c.pass w h * c.ps ∧
    c.wt w h (c.plc w h t pa wi sl) = t ∧ c.wp w h (c.plc w h t pa wi sl) = pa ∧ c.ww w h (c.plc w h t pa wi sl) = wi ∧ c.ws w h (c.plc w h t pa wi sl) = sl := by
  obtain ⟨hl, hp0, hp1, ht, hf⟩ := hx
  have hb := may_b hl.1
  have hp := pass_b hl
  have hpass : c.pass w h = w * h * (4 * c.d + 1) + c.ph * (2 * c.d + 1) := rfl
  have low : ∀ r, 0 ≤ r → r < c.pass w h → 0 ≤ pa * c.pass w h + r ∧ pa * c.pass w h + r < c.pass w h * c.ps := by
    intro r r0 r1
    have a0 : 0 ≤ pa * c.pass w h := Int.mul_nonneg hp0 (by omega)
    have a1 : pa * c.pass w h ≤ (c.ps - 1) * c.pass w h := Int.mul_le_mul_of_nonneg_right hp1 (by omega)
    have a2 : (c.ps - 1) * c.pass w h = c.pass w h * c.ps - c.pass w h := by rw [Int.sub_mul, Int.one_mul, Int.mul_comm]
    omega
  cases t with
  | true =>
    obtain ⟨w0, w1, s0, s1⟩ := ht rfl
    have m0 : 0 ≤ wi * (2 * c.d + 1) := Int.mul_nonneg w0 (by omega)
    have m1 : wi * (2 * c.d + 1) ≤ (c.ph - 1) * (2 * c.d + 1) := Int.mul_le_mul_of_nonneg_right w1 (by omega)
    have m2 : (c.ph - 1) * (2 * c.d + 1) = c.ph * (2 * c.d + 1) - (2 * c.d + 1) := by rw [Int.sub_mul, Int.one_mul]
    have e : c.plc w h true pa wi sl = pa * c.pass w h + (w * h * (4 * c.d + 1) + wi * (2 * c.d + 1) + sl) := by unfold CF.plc; simp only [if_true]; omega
    have hr := low (w * h * (4 * c.d + 1) + wi * (2 * c.d + 1) + sl) (by omega) (by omega)
    have hv := dvm (a := c.plc w h true pa wi sl) (b := c.pass w h) hp.1 e (by omega) (by omega)
    have hv2 := dvm (a := c.plc w h true pa wi sl % c.pass w h - w * h * (4 * c.d + 1)) (b := 2 * c.d + 1) (q := wi) (r := sl) (by omega) (by omega) (by omega) (by omega)
    have et : c.wt w h (c.plc w h true pa wi sl) = true := by unfold CF.wt; exact decide_eq_true (by omega)
    refine ⟨by omega, by omega, et, hv.1, ?_, ?_⟩
    · unfold CF.ww; rw [et]; exact hv2.1
    · unfold CF.ws; rw [et]; exact hv2.2
  | false =>
    obtain ⟨w0, w1, s0, s1⟩ := hf rfl
    have m0 : 0 ≤ wi * (4 * c.d + 1) := Int.mul_nonneg w0 (by omega)
    have m1 : wi * (4 * c.d + 1) ≤ (w * h - 1) * (4 * c.d + 1) := Int.mul_le_mul_of_nonneg_right w1 (by omega)
    have m2 : (w * h - 1) * (4 * c.d + 1) = w * h * (4 * c.d + 1) - (4 * c.d + 1) := by rw [Int.sub_mul, Int.one_mul]
    have e : c.plc w h false pa wi sl = pa * c.pass w h + (wi * (4 * c.d + 1) + sl) := by unfold CF.plc; simp only [Bool.false_eq_true, if_false]; omega
    have hr := low (wi * (4 * c.d + 1) + sl) (by omega) (by omega)
    have hv := dvm (a := c.plc w h false pa wi sl) (b := c.pass w h) hp.1 e (by omega) (by omega)
    have hv2 := dvm (a := c.plc w h false pa wi sl % c.pass w h) (b := 4 * c.d + 1) (q := wi) (r := sl) (by omega) (by omega) (by omega) (by omega)
    have et : c.wt w h (c.plc w h false pa wi sl) = false := by unfold CF.wt; exact decide_eq_false (by omega)
    refine ⟨by omega, by omega, et, hv.1, ?_, ?_⟩
    · unfold CF.ww; rw [et]; exact hv2.1
    · unfold CF.ws; rw [et]; exact hv2.2
theorem once_x {c : CF} {w h i : Int} (hc : c.ok) (hl : c.lay w h) (h0 : 0 ≤ i) (h1 : i < c.pass w h * c.ps) :
    PureCalls prog F.draws_Index [.agg c.dv, .one (.int .i64 w), .one (.int .i64 h), .agg [.bool (c.wt w h i), .int .i64 (c.wp w h i), .int .i64 (c.ww w h i), .int .i64 (c.ws w h i)]] [.one (.int .i64 i), .one (.bool true)] := by
  obtain ⟨k1, k2⟩ := w_idx hl h0 h1
  have k := c_index_t hc k1
  rw [k2] at k
  exact k
theorem once_w {c : CF} {w h : Int} {t : Bool} {pa wi sl : Int} (hc : c.ok) (hx : c.idx w h t pa wi sl) : 0 ≤ c.plc w h t pa wi sl ∧ c.plc w h t pa wi sl < c.pass w h * c.ps ∧
    PureCalls prog F.draws_Where [.agg c.dv, .one (.int .i64 w), .one (.int .i64 h), .one (.int .i64 (c.plc w h t pa wi sl))] [.agg [.bool t, .int .i64 pa, .int .i64 wi, .int .i64 sl], .one (.bool true)] := by
  obtain ⟨k1, k2, k3, k4, k5, k6⟩ := i_wh hx
  have k := c_where_t hc hx.1 k1 k2
  rw [k3, k4, k5, k6] at k
  exact ⟨k1, k2, k⟩
theorem pure_DrawsOnce {c : CF} {w h i : Int} {t : Bool} {pa wi sl : Int} (hc : c.ok) : PureCalls prog F.penumbralaw13_DrawsOnce [.agg (c.dv ++ [.int .i64 w, .int .i64 h, .bool t, .int .i64 pa, .int .i64 wi, .int .i64 sl, .int .i64 i])] [.one (.bool true)] := by
  refine symFunc_sound hmix tree_penumbralaw13_DrawsOnce (by kernel_rfl) rfl ?_
  unfold ir_penumbralaw13_DrawsOnce
  unfold CF.dv
  simp only [flatAll, List.flatMap_cons, List.flatMap_nil, AV.flat, List.cons_append, List.nil_append, List.append_nil]
  by_cases hl : c.lay w h
  · have hb := may_b hl.1
    have hp := pass_b hl
    by_cases hx : c.idx w h t pa wi sl
    · obtain ⟨k0, k1, kw⟩ := once_w hc hx
      by_cases hi0 : 0 ≤ i
      · by_cases hi1 : i < c.pass w h * c.ps
        · have kx := once_x hc hl hi0 hi1
          refine call_step (c_need_t hc hl) rfl ?_
          try simp only [FF, List.cons_append, List.nil_append, List.append_nil]
          refine call_step (c_where_t hc hl hi0 hi1) rfl ?_
          try simp only [FF, List.cons_append, List.nil_append, List.append_nil]
          refine call_step (c_index_t hc hx) rfl ?_
          try simp only [FF, List.cons_append, List.nil_append, List.append_nil]
          refine call_step c_fixed13 rfl ?_
          try simp only [FF, List.cons_append, List.nil_append, List.append_nil]
          refine primS (.bool false) rfl ?_
          refine itF rfl ?_
          refine itT rfl ?_
          refine primS (.bool true) (d_geq.trans (by rw [decide_eq_true (by omega)])) ?_
          refine itT rfl ?_
          refine primS (.bool true) (d_lss.trans (by rw [decide_eq_true (by omega)])) ?_
          refine primS (.bool false) rfl ?_
          refine itF rfl ?_
          refine itT rfl ?_
          refine primS (.bool false) (d_lss.trans (by rw [decide_eq_false (by omega)])) ?_
          refine itF rfl ?_
          refine primS (.bool false) (d_geq.trans (by rw [decide_eq_false (by omega)])) ?_
          refine itF rfl ?_
          refine itT rfl ?_
          refine call_step kx rfl ?_
          try simp only [FF, List.cons_append, List.nil_append, List.append_nil]
          refine primS (.bool false) rfl ?_
          refine itF rfl ?_
          refine primS (.bool false) (d_neq.trans (by rw [decide_eq_false (by simp)])) ?_
          refine itF rfl ?_
          refine call_step kw rfl ?_
          try simp only [FF, List.cons_append, List.nil_append, List.append_nil]
          refine primS (.bool false) rfl ?_
          refine itF rfl ?_
          refine primS (.bool false) nesS ?_
          refine itF rfl ?_
          exact ret_step rfl
        · have hw : ¬(c.lay w h ∧ 0 ≤ i ∧ i < c.pass w h * c.ps) := fun z => hi1 z.2.2
          refine call_step (c_need_t hc hl) rfl ?_
          try simp only [FF, List.cons_append, List.nil_append, List.append_nil]
          refine call_step (c_where_f hc hw) rfl ?_
          try simp only [FF, List.cons_append, List.nil_append, List.append_nil]
          refine call_step (c_index_t hc hx) rfl ?_
          try simp only [FF, List.cons_append, List.nil_append, List.append_nil]
          refine call_step c_fixed13 rfl ?_
          try simp only [FF, List.cons_append, List.nil_append, List.append_nil]
          refine primS (.bool false) rfl ?_
          refine itF rfl ?_
          refine itT rfl ?_
          refine primS (.bool true) (d_geq.trans (by rw [decide_eq_true (by omega)])) ?_
          refine itT rfl ?_
          refine primS (.bool false) (d_lss.trans (by rw [decide_eq_false (by omega)])) ?_
          refine primS (.bool false) rfl ?_
          refine itF rfl ?_
          refine itT rfl ?_
          refine primS (.bool false) (d_lss.trans (by rw [decide_eq_false (by omega)])) ?_
          refine itF rfl ?_
          refine primS (.bool false) (d_geq.trans (by rw [decide_eq_false (by omega)])) ?_
          refine itF rfl ?_
          refine itF rfl ?_
          refine call_step kw rfl ?_
          try simp only [FF, List.cons_append, List.nil_append, List.append_nil]
          refine primS (.bool false) rfl ?_
          refine itF rfl ?_
          refine primS (.bool false) nesS ?_
          refine itF rfl ?_
          exact ret_step rfl
      · have hw : ¬(c.lay w h ∧ 0 ≤ i ∧ i < c.pass w h * c.ps) := fun z => hi0 z.2.1
        refine call_step (c_need_t hc hl) rfl ?_
        try simp only [FF, List.cons_append, List.nil_append, List.append_nil]
        refine call_step (c_where_f hc hw) rfl ?_
        try simp only [FF, List.cons_append, List.nil_append, List.append_nil]
        refine call_step (c_index_t hc hx) rfl ?_
        try simp only [FF, List.cons_append, List.nil_append, List.append_nil]
        refine call_step c_fixed13 rfl ?_
        try simp only [FF, List.cons_append, List.nil_append, List.append_nil]
        refine primS (.bool false) rfl ?_
        refine itF rfl ?_
        refine itT rfl ?_
        refine primS (.bool false) (d_geq.trans (by rw [decide_eq_false (by omega)])) ?_
        refine itF rfl ?_
        refine primS (.bool false) rfl ?_
        refine itF rfl ?_
        refine itT rfl ?_
        refine primS (.bool false) (d_lss.trans (by rw [decide_eq_false (by omega)])) ?_
        refine itF rfl ?_
        refine primS (.bool false) (d_geq.trans (by rw [decide_eq_false (by omega)])) ?_
        refine itF rfl ?_
        refine itF rfl ?_
        refine call_step kw rfl ?_
        try simp only [FF, List.cons_append, List.nil_append, List.append_nil]
        refine primS (.bool false) rfl ?_
        refine itF rfl ?_
        refine primS (.bool false) nesS ?_
        refine itF rfl ?_
        exact ret_step rfl
    · by_cases hi0 : 0 ≤ i
      · by_cases hi1 : i < c.pass w h * c.ps
        · have kx := once_x hc hl hi0 hi1
          refine call_step (c_need_t hc hl) rfl ?_
          try simp only [FF, List.cons_append, List.nil_append, List.append_nil]
          refine call_step (c_where_t hc hl hi0 hi1) rfl ?_
          try simp only [FF, List.cons_append, List.nil_append, List.append_nil]
          refine call_step (c_index_f hc hx) rfl ?_
          try simp only [FF, List.cons_append, List.nil_append, List.append_nil]
          refine call_step c_fixed13 rfl ?_
          try simp only [FF, List.cons_append, List.nil_append, List.append_nil]
          refine primS (.bool false) rfl ?_
          refine itF rfl ?_
          refine itT rfl ?_
          refine primS (.bool true) (d_geq.trans (by rw [decide_eq_true (by omega)])) ?_
          refine itT rfl ?_
          refine primS (.bool true) (d_lss.trans (by rw [decide_eq_true (by omega)])) ?_
          refine primS (.bool false) rfl ?_
          refine itF rfl ?_
          refine itF rfl ?_
          refine itT rfl ?_
          refine call_step kx rfl ?_
          try simp only [FF, List.cons_append, List.nil_append, List.append_nil]
          refine primS (.bool false) rfl ?_
          refine itF rfl ?_
          refine primS (.bool false) (d_neq.trans (by rw [decide_eq_false (by simp)])) ?_
          refine itF rfl ?_
          exact ret_step rfl
        · have hw : ¬(c.lay w h ∧ 0 ≤ i ∧ i < c.pass w h * c.ps) := fun z => hi1 z.2.2
          refine call_step (c_need_t hc hl) rfl ?_
          try simp only [FF, List.cons_append, List.nil_append, List.append_nil]
          refine call_step (c_where_f hc hw) rfl ?_
          try simp only [FF, List.cons_append, List.nil_append, List.append_nil]
          refine call_step (c_index_f hc hx) rfl ?_
          try simp only [FF, List.cons_append, List.nil_append, List.append_nil]
          refine call_step c_fixed13 rfl ?_
          try simp only [FF, List.cons_append, List.nil_append, List.append_nil]
          refine primS (.bool false) rfl ?_
          refine itF rfl ?_
          refine itT rfl ?_
          refine primS (.bool true) (d_geq.trans (by rw [decide_eq_true (by omega)])) ?_
          refine itT rfl ?_
          refine primS (.bool false) (d_lss.trans (by rw [decide_eq_false (by omega)])) ?_
          refine primS (.bool false) rfl ?_
          refine itF rfl ?_
          refine itF rfl ?_
          refine itF rfl ?_
          exact ret_step rfl
      · have hw : ¬(c.lay w h ∧ 0 ≤ i ∧ i < c.pass w h * c.ps) := fun z => hi0 z.2.1
        refine call_step (c_need_t hc hl) rfl ?_
        try simp only [FF, List.cons_append, List.nil_append, List.append_nil]
        refine call_step (c_where_f hc hw) rfl ?_
        try simp only [FF, List.cons_append, List.nil_append, List.append_nil]
        refine call_step (c_index_f hc hx) rfl ?_
        try simp only [FF, List.cons_append, List.nil_append, List.append_nil]
        refine call_step c_fixed13 rfl ?_
        try simp only [FF, List.cons_append, List.nil_append, List.append_nil]
        refine primS (.bool false) rfl ?_
        refine itF rfl ?_
        refine itT rfl ?_
        refine primS (.bool false) (d_geq.trans (by rw [decide_eq_false (by omega)])) ?_
        refine itF rfl ?_
        refine primS (.bool false) rfl ?_
        refine itF rfl ?_
        refine itF rfl ?_
        refine itF rfl ?_
        exact ret_step rfl
  · have hw : ¬(c.lay w h ∧ 0 ≤ i ∧ i < c.pass w h * c.ps) := fun z => hl z.1
    have hx : ¬c.idx w h t pa wi sl := fun z => hl z.1
    refine call_step (c_need_f hc hl) rfl ?_
    try simp only [FF, List.cons_append, List.nil_append, List.append_nil]
    refine call_step (c_where_f hc hw) rfl ?_
    try simp only [FF, List.cons_append, List.nil_append, List.append_nil]
    refine call_step (c_index_f hc hx) rfl ?_
    try simp only [FF, List.cons_append, List.nil_append, List.append_nil]
    refine call_step c_fixed13 rfl ?_
    try simp only [FF, List.cons_append, List.nil_append, List.append_nil]
    refine primS (.bool false) rfl ?_
    refine itF rfl ?_
    refine itF rfl ?_
    refine primS (.bool false) rfl ?_
    refine itF rfl ?_
    refine itF rfl ?_
    refine itF rfl ?_
    exact ret_step rfl
end Go.Px.Na

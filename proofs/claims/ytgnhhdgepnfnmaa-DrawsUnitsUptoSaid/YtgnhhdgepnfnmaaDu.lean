/- Du: what any draw is worth. -/
import Derived.Test.YtgnhhdgepnfnmaaDr2
import Derived.Test.YtgnhhdgepnfnmaaLs
set_option maxRecDepth 10000
set_option maxHeartbeats 8000000
set_option linter.unusedVariables false
set_option linter.unusedSimpArgs false
namespace Go.Px.Na
open Go.RowKit
open Go.Proofs.Try (prog)

abbrev i64q (n : Int) : Prop := -9223372036854775808 ≤ n ∧ n < 9223372036854775808
/-- So many places. -/
def pw (b : Int) : Int := 2 ^ b.toNat
theorem pw_b {b : Int} (h0 : 1 ≤ b) (h1 : b ≤ 24) : 2 ≤ pw b ∧ pw b ≤ 16777216 := by
  unfold pw
  obtain ⟨n, rfl⟩ := Int.eq_ofNat_of_zero_le (show 0 ≤ b by omega)
  have a0 : 1 ≤ n := by omega
  have a1 : n ≤ 24 := by omega
  rw [Int.toNat_natCast]
  have e1 : (2 : Nat) ^ 1 ≤ 2 ^ n := Nat.pow_le_pow_right (by decide) a0
  have e2 : (2 : Nat) ^ n ≤ 2 ^ 24 := Nat.pow_le_pow_right (by decide) a1
  have e3 : ((2 ^ n : Nat) : Int) = (2 : Int) ^ n := by simp
  rw [← e3]
  omega
theorem d_shlp {b a : Int} (h0 : 1 ≤ b) (h1 : b ≤ 24) (k0 : 0 ≤ a) (k1 : a ≤ 2) : Prim.den (.bin .shl) [.int .i64 a, .int .i64 b] = some (.int .i64 (a * pw b)) := by
  have h := pw_b h0 h1
  simp only [Prim.den, Prim.bin1, binInt]
  rw [if_neg (by omega), show min b.toNat IntKind.i64.bits = b.toNat from Nat.min_eq_left (by show b.toNat ≤ 64; omega)]
  have e : a * pw b ≤ 2 * pw b := Int.mul_le_mul_of_nonneg_right k1 (by omega)
  have e0 : 0 ≤ a * pw b := Int.mul_nonneg k0 (by omega)
  show some (DV.int .i64 (IntKind.i64.wrap (a * pw b))) = _
  rw [wi64 (by omega) (by omega)]
theorem d_shlu {b a : Int} (h0 : 1 ≤ b) (h1 : b ≤ 24) (k0 : 0 ≤ a) (k1 : a ≤ 2) : Prim.den (.bin .shl) [.int .i64 a, .int .u64 b] = some (.int .i64 (a * pw b)) := d_shlp h0 h1 k0 k1
/-- Is there such a draw? -/
def uk (d b : Int) : Prop := 1 ≤ b ∧ b ≤ 24 ∧ 0 ≤ d ∧ d ≤ pw b - 1
def uv (d b : Int) : Rat := ofQ (2 * d + 1) (2 * pw b)
theorem c_unit_t {d b : Int} (h : uk d b) : PureCalls prog F.draws_Unit [.one (.int .i64 d), .one (.int .i64 b)] [.agg (rd (uv d b)), .one (.bool true)] := by
  obtain ⟨h0, h1, h2, h3⟩ := h
  have hp := pw_b h0 h1
  refine symFunc_sound hmix tree_draws_Unit (by kernel_rfl) rfl ?_
  unfold ir_draws_Unit
  try simp only [FF, List.cons_append, List.nil_append, List.append_nil]
  have k1 := c_within b 1 24
  rw [decide_eq_true ⟨h0, h1⟩] at k1
  have k2 := c_within d 0 (pw b - 1)
  rw [decide_eq_true ⟨h2, h3⟩] at k2
  refine call_step k1 rfl ?_
  try simp only [FF, List.cons_append, List.nil_append, List.append_nil]
  refine primS (.bool false) rfl ?_
  refine itF rfl ?_
  refine primS (.int .i64 (pw b)) ((d_shlp (a := 1) h0 h1 (by decide) (by decide)).trans (by rw [Int.one_mul])) ?_
  refine primS (.int .i64 (pw b - 1)) (d_sub64 (by omega) (by omega)) ?_
  refine call_step k2 rfl ?_
  try simp only [FF, List.cons_append, List.nil_append, List.append_nil]
  refine primS (.bool false) rfl ?_
  refine itF rfl ?_
  refine primS (.int .i64 (2 * d)) (d_mul64 (by omega) (by omega)) ?_
  refine primS (.int .i64 (2 * d + 1)) (d_add64 (by omega) (by omega)) ?_
  refine primS (.int .i64 (2 * pw b)) (d_shlp (a := 2) h0 h1 (by decide) (by decide)) ?_
  refine call_step (c_ofQ (2 * d + 1) (2 * pw b) (by omega) (by omega) (by omega) (by omega)) rfl ?_
  try simp only [FF, List.cons_append, List.nil_append, List.append_nil]
  exact ret_step rfl
theorem c_unit_f {d b : Int} (hr : i64q b) (h : ¬uk d b) : PureCalls prog F.draws_Unit [.one (.int .i64 d), .one (.int .i64 b)] [.agg (rd (ofQ 0 1)), .one (.bool false)] := by
  refine symFunc_sound hmix tree_draws_Unit (by kernel_rfl) rfl ?_
  unfold ir_draws_Unit
  try simp only [FF, List.cons_append, List.nil_append, List.append_nil]
  have k1 := c_within b 1 24
  by_cases hb : 1 ≤ b ∧ b ≤ 24
  · have hp := pw_b hb.1 hb.2
    rw [decide_eq_true hb] at k1
    have k2 := c_within d 0 (pw b - 1)
    rw [decide_eq_false (fun z => h ⟨hb.1, hb.2, z.1, z.2⟩)] at k2
    refine call_step k1 rfl ?_
    try simp only [FF, List.cons_append, List.nil_append, List.append_nil]
    refine primS (.bool false) rfl ?_
    refine itF rfl ?_
    refine primS (.int .i64 (pw b)) ((d_shlp (a := 1) hb.1 hb.2 (by decide) (by decide)).trans (by rw [Int.one_mul])) ?_
    refine primS (.int .i64 (pw b - 1)) (d_sub64 (by omega) (by omega)) ?_
    refine call_step k2 rfl ?_
    try simp only [FF, List.cons_append, List.nil_append, List.append_nil]
    refine primS (.bool true) rfl ?_
    refine itT rfl ?_
    refine call_step (c_ofQ 0 1 (by decide) (by decide) (by decide) (by decide)) rfl ?_
    try simp only [FF, List.cons_append, List.nil_append, List.append_nil]
    exact ret_step rfl
  · rw [decide_eq_false hb] at k1
    refine call_step k1 rfl ?_
    try simp only [FF, List.cons_append, List.nil_append, List.append_nil]
    refine primS (.bool true) rfl ?_
    refine itT rfl ?_
    refine call_step (c_ofQ 0 1 (by decide) (by decide) (by decide) (by decide)) rfl ?_
    try simp only [FF, List.cons_append, List.nil_append, List.append_nil]
    exact ret_step rfl
theorem cr_unit_t {d b : Int} (h : uk d b) : PureCalls prog F.penumbraref13_Unit [.one (.int .i64 d), .one (.int .i64 b)] [.agg (rd (uv d b)), .one (.bool true)] := by
  obtain ⟨h0, h1, h2, h3⟩ := h
  have hp := pw_b h0 h1
  refine symFunc_sound hmix tree_penumbraref13_Unit (by kernel_rfl) rfl ?_
  unfold ir_penumbraref13_Unit
  try simp only [FF, List.cons_append, List.nil_append, List.append_nil]
  refine primS (.bool false) (d_lss.trans (by rw [decide_eq_false (by omega)])) ?_
  refine itF rfl ?_
  refine primS (.bool false) (d_gtr.trans (by rw [decide_eq_false (by omega)])) ?_
  refine itF rfl ?_
  refine primS (.bool false) (d_lss.trans (by rw [decide_eq_false (by omega)])) ?_
  refine itF rfl ?_
  refine primS (.int .u64 b) (d_conv64 (by omega) (by omega)) ?_
  refine primS (.int .i64 (pw b)) ((d_shlu (a := 1) h0 h1 (by decide) (by decide)).trans (by rw [Int.one_mul])) ?_
  refine primS (.int .i64 (pw b - 1)) (d_sub64 (by omega) (by omega)) ?_
  refine primS (.bool false) (d_gtr.trans (by rw [decide_eq_false (by omega)])) ?_
  refine itF rfl ?_
  refine primS (.int .i64 (2 * d)) (d_mul64 (by omega) (by omega)) ?_
  refine primS (.int .i64 (2 * d + 1)) (d_add64 (by omega) (by omega)) ?_
  refine primS (.int .u64 b) (d_conv64 (by omega) (by omega)) ?_
  refine primS (.int .i64 (2 * pw b)) (d_shlu (a := 2) h0 h1 (by decide) (by decide)) ?_
  refine call_step (cr_ofQ (2 * d + 1) (2 * pw b) (by omega) (by omega) (by omega) (by omega)) rfl ?_
  try simp only [FF, List.cons_append, List.nil_append, List.append_nil]
  exact ret_step rfl
theorem cr_unit_f {d b : Int} (hr : i64q b) (h : ¬uk d b) : PureCalls prog F.penumbraref13_Unit [.one (.int .i64 d), .one (.int .i64 b)] [.agg (rd 0), .one (.bool false)] := by
  refine symFunc_sound hmix tree_penumbraref13_Unit (by kernel_rfl) rfl ?_
  unfold ir_penumbraref13_Unit
  try simp only [FF, List.cons_append, List.nil_append, List.append_nil]
  by_cases b0 : b < 1
  · refine primS (.bool true) (d_lss.trans (by rw [decide_eq_true b0])) ?_
    refine itT rfl ?_
    refine call_step cr_zeroQ rfl ?_
    try simp only [FF, List.cons_append, List.nil_append, List.append_nil]
    exact ret_step rfl
  refine primS (.bool false) (d_lss.trans (by rw [decide_eq_false b0])) ?_
  refine itF rfl ?_
  by_cases b1 : 24 < b
  · refine primS (.bool true) (d_gtr.trans (by rw [decide_eq_true b1])) ?_
    refine itT rfl ?_
    refine call_step cr_zeroQ rfl ?_
    try simp only [FF, List.cons_append, List.nil_append, List.append_nil]
    exact ret_step rfl
  refine primS (.bool false) (d_gtr.trans (by rw [decide_eq_false b1])) ?_
  refine itF rfl ?_
  have h0 : 1 ≤ b := by omega
  have h1 : b ≤ 24 := by omega
  have hp := pw_b h0 h1
  by_cases d0 : d < 0
  · refine primS (.bool true) (d_lss.trans (by rw [decide_eq_true d0])) ?_
    refine itT rfl ?_
    refine call_step cr_zeroQ rfl ?_
    try simp only [FF, List.cons_append, List.nil_append, List.append_nil]
    exact ret_step rfl
  refine primS (.bool false) (d_lss.trans (by rw [decide_eq_false d0])) ?_
  refine itF rfl ?_
  refine primS (.int .u64 b) (d_conv64 (by omega) (by omega)) ?_
  refine primS (.int .i64 (pw b)) ((d_shlu (a := 1) h0 h1 (by decide) (by decide)).trans (by rw [Int.one_mul])) ?_
  refine primS (.int .i64 (pw b - 1)) (d_sub64 (by omega) (by omega)) ?_
  refine primS (.bool true) (d_gtr.trans (by rw [decide_eq_true (Int.not_le.1 fun z => h ⟨h0, h1, by omega, z⟩)])) ?_
  refine itT rfl ?_
  refine call_step cr_zeroQ rfl ?_
  try simp only [FF, List.cons_append, List.nil_append, List.append_nil]
  exact ret_step rfl

/-! ### The numbers -/
theorem nn_of {a p : Rat} (hp : 0 < p) (h : 0 ≤ a * p) : 0 ≤ a := Classical.byContradiction fun z => by
  have := Rat.mul_pos (a := -a) (b := p) (by grind) hp
  grind
theorem ps_of {a p : Rat} (hp : 0 < p) (h : 0 < a * p) : 0 < a := Classical.byContradiction fun z => by
  have := Rat.mul_nonneg (a := -a) (b := p) (by grind) (Rat.le_of_lt hp)
  grind
theorem uv_eq {d b : Int} (h0 : 1 ≤ b) (h1 : b ≤ 24) : uv d b * (2 * (pw b : Rat)) = 2 * (d : Rat) + 1 := by
  have hp := pw_b h0 h1
  have hn : ((2 * pw b : Int) : Rat) ≠ 0 := by
    intro z
    have : (2 * pw b : Int) = 0 := by exact_mod_cast z
    omega
  unfold uv ofQ
  rw [show (2 * (pw b : Rat)) = ((2 * pw b : Int) : Rat) by simp [Rat.intCast_mul], Rat.div_mul_cancel hn]
  simp [Rat.intCast_mul, Rat.intCast_add]
theorem pw_q {b : Int} (h0 : 1 ≤ b) (h1 : b ≤ 24) : (2 : Rat) ≤ (pw b : Rat) := by
  have hp := pw_b h0 h1
  have : ((2 : Int) : Rat) ≤ (pw b : Rat) := Rat.intCast_le_intCast.2 hp.1
  simpa using this
theorem uv_in {d b : Int} (h : uk d b) : 0 < uv d b ∧ uv d b < 1 := by
  obtain ⟨h0, h1, h2, h3⟩ := h
  have e := uv_eq (d := d) h0 h1
  have p := pw_q h0 h1
  have k2 : (0 : Rat) ≤ (d : Rat) := by have := Rat.intCast_le_intCast.2 h2; simpa using this
  have k3 : (d : Rat) ≤ (pw b : Rat) - 1 := by have := Rat.intCast_le_intCast.2 h3; simpa [Rat.intCast_sub] using this
  constructor
  · exact ps_of (p := 2 * (pw b : Rat)) (by grind) (by grind)
  · have := ps_of (a := 1 - uv d b) (p := 2 * (pw b : Rat)) (by grind) (by grind)
    grind
theorem uv_far {d e b : Int} (h : uk d b) (k : uk e b) (hn : d ≠ e) {f : Rat} (hf : f * (pw b : Rat) = 1) : ¬(uv d b - uv e b).abs < f ∧ ¬uv d b = uv e b := by
  obtain ⟨h0, h1, h2, h3⟩ := h
  have e1 := uv_eq (d := d) h0 h1
  have e2 := uv_eq (d := e) h0 h1
  have p := pw_q h0 h1
  have e3 : (uv d b - uv e b) * (pw b : Rat) = (d : Rat) - (e : Rat) := by grind
  have fp : 0 < f := ps_of (p := (pw b : Rat)) (by grind) (by grind)
  rcases Int.lt_or_gt_of_ne hn with l | l
  · have k4 : (d : Rat) + 1 ≤ (e : Rat) := by
      have := Rat.intCast_le_intCast.2 (show d + 1 ≤ e by omega)
      simpa [Rat.intCast_add] using this
    have k5 := nn_of (a := uv e b - uv d b - f) (p := (pw b : Rat)) (by grind) (by grind)
    rw [Rat.abs_of_nonpos (by grind)]
    constructor <;> grind
  · have k4 : (e : Rat) + 1 ≤ (d : Rat) := by
      have := Rat.intCast_le_intCast.2 (show e + 1 ≤ d by omega)
      simpa [Rat.intCast_add] using this
    have k5 := nn_of (a := uv d b - uv e b - f) (p := (pw b : Rat)) (by grind) (by grind)
    rw [Rat.abs_of_nonneg (by grind)]
    constructor <;> grind

theorem pure_DrawsUnits {d e b : Int} (hd : i64q d) (he : i64q e) (hb : i64q b) : PureCalls prog F.penumbralaw13_DrawsUnits [.one (.int .i64 d), .one (.int .i64 e), .one (.int .i64 b)] [.one (.bool true)] := by
  refine symFunc_sound hmix tree_penumbralaw13_DrawsUnits (by kernel_rfl) rfl ?_
  unfold ir_penumbralaw13_DrawsUnits
  simp only [GG, List.cons_append, List.nil_append, List.append_nil]
  by_cases h : uk d b
  · refine call_step (c_unit_t h) rfl ?_
    try simp only [FF, List.cons_append, List.nil_append, List.append_nil]
    refine call_step (cr_unit_t h) rfl ?_
    try simp only [FF, List.cons_append, List.nil_append, List.append_nil]
    refine call_step c_fixed13 rfl ?_
    try simp only [FF, List.cons_append, List.nil_append, List.append_nil]
    obtain ⟨h0, h1, h2, h3⟩ := id h
    have hp := pw_b h0 h1
    have sX : Sm 2 (uv d b) := Sm_ofQ (by omega) (by omega) (by omega) (by omega)
    refine primS (.bool false) rfl ?_
    refine itF rfl ?_
    refine call_step (k_is (sX.mono (by decide)) rfl) rfl ?_
    try simp only [FF, List.cons_append, List.nil_append, List.append_nil]
    refine primS (.bool false) rfl ?_
    refine itF rfl ?_
    refine primS (.bool false) rfl ?_
    refine itF rfl ?_
    by_cases k : uk e b
    · refine call_step (c_unit_t k) rfl ?_
      try simp only [FF, List.cons_append, List.nil_append, List.append_nil]
      refine primS (.bool false) rfl ?_
      refine itF rfl ?_
      refine primS (.bool false) rfl ?_
      refine itF rfl ?_
      obtain ⟨_, _, g2, g3⟩ := id k
      have sZ : Sm 2 (uv e b) := Sm_ofQ (by omega) (by omega) (by omega) (by omega)
      have s1 : Sm 2 (ofQ 1 1) := Sm_ofQ (by decide) (by decide) (by decide) (by decide)
      have sQ : Sm 2 (ofQ (pw b) 1) := Sm_ofQ (by omega) (by omega) (by decide) (by decide)
      have mX := Num.of sX
      have mZ := Num.of sZ
      have m1 := Num.of s1
      have mQ := Num.of sQ
      have o1 : ofQ 1 1 = 1 := by decide +kernel
      have oQ : ofQ (pw b) 1 = (pw b : Rat) := by
        unfold ofQ
        rw [Rat.div_def, show (((1 : Int) : Rat))⁻¹ = 1 by decide +kernel, Rat.mul_one]
      have pq := pw_q h0 h1
      obtain ⟨Z0, Y0⟩ := ex_eq (0 : Rat)
      have nQ : ¬ofQ (pw b) 1 = Z0 := by rw [oQ, Y0]; grind
      refine call_step (c_ofQ 1 1 (by decide) (by decide) (by decide) (by decide)) rfl ?_
      try simp only [FF, List.cons_append, List.nil_append, List.append_nil]
      refine primS (.int .u64 b) (d_conv64 (by omega) (by omega)) ?_
      refine primS (.int .i64 (pw b)) ((d_shlu (a := 1) h0 h1 (by decide) (by decide)).trans (by rw [Int.one_mul])) ?_
      refine call_step (c_ofQ (pw b) 1 (by omega) (by omega) (by decide) (by decide)) rfl ?_
      try simp only [FF, List.cons_append, List.nil_append, List.append_nil]
      refine call_step (n_rat_Div_f (k0 := ofQ 1 1 / ofQ (pw b) 1) Y0 (m1.mono (by decide)) (mQ.mono (by decide)) rfl nQ) rfl ?_
      simp only [GG, List.cons_append, List.nil_append, List.append_nil]
      refine call_step (n_rat_Sub (k0 := uv d b - uv e b) (mX.mono (by decide)) (mZ.mono (by decide)) rfl) rfl ?_
      simp only [GG, List.cons_append, List.nil_append, List.append_nil]
      have mD := Num.of (sX.sub sZ)
      refine call_step (n_rat_Abs_o (k0 := (uv d b - uv e b).abs) (mD.mono (by decide)) rfl) rfl ?_
      simp only [GG, List.cons_append, List.nil_append, List.append_nil]
      have mA := Num.of (sX.sub sZ).abs
      have mF := Num.of (s1.div sQ)
      refine call_step (n_rat_Cmp (mA.mono (by decide)) (mF.mono (by decide))) rfl ?_
      simp only [GG, List.cons_append, List.nil_append, List.append_nil]
      have ff : ofQ 1 1 / ofQ (pw b) 1 * (pw b : Rat) = 1 := by
        rw [oQ, o1]; exact Rat.div_mul_cancel (by grind)
      have fp : 0 < ofQ 1 1 / ofQ (pw b) 1 := ps_of (p := (pw b : Rat)) (by grind) (by grind)
      have hin := uv_in h
      by_cases de : d = e
      · subst de
        refine primS (.bool false) (cs_geq_f (cq_lt.2 (by rw [Rat.sub_self]; exact fp))) ?_
        refine call_step (n_rat_Sign (mX.mono (by decide))) rfl ?_
        simp only [GG, List.cons_append, List.nil_append, List.append_nil]
        refine primS (.bool true) (cs_gtr_t ((sg_gt Y0).2 (by rw [Y0]; exact hin.1))) ?_
        refine itT rfl ?_
        refine call_step (c_ofQ 1 1 (by decide) (by decide) (by decide) (by decide)) rfl ?_
        try simp only [FF, List.cons_append, List.nil_append, List.append_nil]
        refine call_step (n_rat_Cmp (mX.mono (by decide)) (m1.mono (by decide))) rfl ?_
        simp only [GG, List.cons_append, List.nil_append, List.append_nil]
        refine primS (.bool true) (cs_lss_t (cq_lt.2 (by rw [o1]; exact hin.2))) ?_
        refine itT rfl ?_
        refine primS (.bool true) (d_eql.trans (by rw [decide_eq_true rfl])) ?_
        refine call_step (n_rat_Same_t (mX.mono (by decide)) (mX.mono (by decide)) rfl) rfl ?_
        simp only [GG, List.cons_append, List.nil_append, List.append_nil]
        refine primS (.bool true) rfl ?_
        refine itT rfl ?_
        refine primS (.bool true) (d_eql.trans (by rw [decide_eq_true rfl])) ?_
        refine itT rfl ?_
        exact ret_step rfl
      · have hf := uv_far h k de ff
        refine primS (.bool true) (cs_geq_t (fun z => hf.1 (cq_lt.1 z))) ?_
        refine call_step (n_rat_Sign (mX.mono (by decide))) rfl ?_
        simp only [GG, List.cons_append, List.nil_append, List.append_nil]
        refine primS (.bool true) (cs_gtr_t ((sg_gt Y0).2 (by rw [Y0]; exact hin.1))) ?_
        refine itT rfl ?_
        refine call_step (c_ofQ 1 1 (by decide) (by decide) (by decide) (by decide)) rfl ?_
        try simp only [FF, List.cons_append, List.nil_append, List.append_nil]
        refine call_step (n_rat_Cmp (mX.mono (by decide)) (m1.mono (by decide))) rfl ?_
        simp only [GG, List.cons_append, List.nil_append, List.append_nil]
        refine primS (.bool true) (cs_lss_t (cq_lt.2 (by rw [o1]; exact hin.2))) ?_
        refine itT rfl ?_
        refine primS (.bool false) (d_eql.trans (by rw [decide_eq_false de])) ?_
        refine call_step (n_rat_Same_f (mX.mono (by decide)) (mZ.mono (by decide)) hf.2) rfl ?_
        simp only [GG, List.cons_append, List.nil_append, List.append_nil]
        refine primS (.bool true) rfl ?_
        refine itT rfl ?_
        refine primS (.bool false) (d_eql.trans (by rw [decide_eq_false de])) ?_
        refine itF rfl ?_
        exact ret_step rfl
    · refine call_step (c_unit_f hb k) rfl ?_
      try simp only [FF, List.cons_append, List.nil_append, List.append_nil]
      refine primS (.bool false) rfl ?_
      refine itF rfl ?_
      refine primS (.bool true) rfl ?_
      refine itT rfl ?_
      exact ret_step rfl
  · refine call_step (c_unit_f hb h) rfl ?_
    try simp only [FF, List.cons_append, List.nil_append, List.append_nil]
    refine call_step (cr_unit_f hb h) rfl ?_
    try simp only [FF, List.cons_append, List.nil_append, List.append_nil]
    refine call_step c_fixed13 rfl ?_
    try simp only [FF, List.cons_append, List.nil_append, List.append_nil]
    refine primS (.bool false) rfl ?_
    refine itF rfl ?_
    refine call_step (k_is (p := ofQ 0 1) (q := 0) (k_of (by decide) (by decide) (by decide) (by decide)) (by decide +kernel)) rfl ?_
    try simp only [FF, List.cons_append, List.nil_append, List.append_nil]
    refine primS (.bool false) rfl ?_
    refine itF rfl ?_
    refine primS (.bool false) rfl ?_
    refine itF rfl ?_
    by_cases k : uk e b
    · refine call_step (c_unit_t k) rfl ?_
      try simp only [FF, List.cons_append, List.nil_append, List.append_nil]
      refine primS (.bool true) rfl ?_
      refine itT rfl ?_
      exact ret_step rfl
    · refine call_step (c_unit_f hb k) rfl ?_
      try simp only [FF, List.cons_append, List.nil_append, List.append_nil]
      refine primS (.bool true) rfl ?_
      refine itT rfl ?_
      exact ret_step rfl
end Go.Px.Na

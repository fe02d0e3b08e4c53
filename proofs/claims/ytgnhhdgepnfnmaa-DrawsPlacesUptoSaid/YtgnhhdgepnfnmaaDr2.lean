/- Dr1: which configs may be. -/
import Derived.Test.YtgnhhdgepnfnmaaLf3
set_option maxRecDepth 10000
set_option maxHeartbeats 8000000
set_option linter.unusedSimpArgs false
set_option linter.unusedVariables false
namespace Go.Px.Na
open Go.RowKit
open Go.Proofs.Try (prog)

/-- A config. -/
structure CF where
  m : Int
  ps : Int
  ph : Int
  d : Int
  bt : Int
  nr : Int
  r2 : RR
  al : RR
abbrev i64r (n : Int) : Prop := -9223372036854775808 ≤ n ∧ n < 9223372036854775808
def CF.dv (c : CF) : List DV := [.int .i64 c.m, .int .i64 c.ps, .int .i64 c.ph, .int .i64 c.d, .int .i64 c.bt, .int .i64 c.nr, .bool c.r2.neg, nl c.r2.num, nl c.r2.den, .bool c.al.neg, nl c.al.num, nl c.al.den]
def CF.ok (c : CF) : Prop := i64r c.m ∧ i64r c.ps ∧ i64r c.ph ∧ i64r c.d ∧ i64r c.bt ∧ i64r c.nr ∧ c.r2.ok LL ∧ c.al.ok LL
theorem fa_cf {c : CF} {q : List AV} : flatAll (.agg c.dv :: q) = c.dv ++ flatAll q := by simp [flatAll, AV.flat]

/-- May a number stand in a config? -/
def sml (r : RR) : Bool := eqRR (cr r.v) r && (decide (nbits (val r.num) ≤ 64) && decide (nbits (val r.den) ≤ 64))
/-- What may be. -/
def ckP (m ps ph d bt nr : Int) (s2 sa : Bool) (g2 ga cm : Int) : Prop :=
  0 ≤ m ∧ m ≤ 3 ∧ 1 ≤ ps ∧ ps ≤ 16 ∧ 1 ≤ d ∧ d ≤ 6 ∧ 1 ≤ bt ∧ bt ≤ 24 ∧ s2 = true ∧ sa = true ∧ (m = 0 → ph = 0) ∧ (m ≠ 0 → 1 ≤ ph ∧ ph ≤ 64) ∧ (m = 3 → 1 ≤ nr ∧ nr ≤ 16) ∧ (m ≠ 3 → nr = 0) ∧
  (m = 0 ∨ m = 3 → g2 = 0 ∧ ga = 0) ∧ (m ≠ 0 ∧ m ≠ 3 → 0 < g2 ∧ 0 < ga ∧ cm < 0)
def CF.may (c : CF) : Prop := ckP c.m c.ps c.ph c.d c.bt c.nr (sml c.r2) (sml c.al) c.r2.v.num.sign c.al.v.num.sign (cmpQ c.al.v 1)

theorem c_within (x lo hi : Int) : PureCalls prog F.draws_within [.one (.int .i64 x), .one (.int .i64 lo), .one (.int .i64 hi)] [.one (.bool (decide (lo ≤ x ∧ x ≤ hi)))] := by
  refine symFunc_sound hmix tree_draws_within (by kernel_rfl) rfl ?_
  unfold ir_draws_within
  simp only [FF, List.cons_append, List.nil_append, List.append_nil]
  simp (disch := omega) only [STEP, Px.A.ev, List.map_cons, List.map_nil, List.getD_cons_zero, List.getD_cons_succ, List.cons_append, List.nil_append, List.append_nil, Option.isSome_some, Option.getD_some, true_and, Int.sub_zero, Int.toNat_zero, List.drop_zero, Int.toNat_natCast]
  refine ite_step rfl ?_ ?_
  · intro h
    simp (disch := omega) only [STEP, Px.A.ev, List.map_cons, List.map_nil, List.getD_cons_zero, List.getD_cons_succ, List.cons_append, List.nil_append, List.append_nil, Option.isSome_some, Option.getD_some, true_and, Int.sub_zero, Int.toNat_zero, List.drop_zero, Int.toNat_natCast]
    refine ret_step ?_
    simp [Arg.ev, A.ev, h]
  · intro h
    refine ret_step ?_
    simp [Arg.ev, A.ev, h]
theorem c_sml {r : RR} (hr : r.ok LL) : PureCalls prog F.draws_small [.agg r.dv] [.one (.bool (sml r))] := by
  refine symFunc_sound hmix tree_draws_small (by kernel_rfl) rfl ?_
  unfold ir_draws_small
  simp only [FF, List.cons_append, List.nil_append, List.append_nil]
  refine call_step (c_check r (okK hr)) rfl ?_
  unfold sml
  simp only [FF, List.cons_append, List.nil_append, List.append_nil]
  refine itb_step rfl ?_ ?_
  · intro h
    refine call_step (c_bits r.num (okK hr).wf.1) rfl ?_
    simp (disch := omega) only [STEP, Px.A.ev, List.map_cons, List.map_nil, List.getD_cons_zero, List.getD_cons_succ, List.cons_append, List.nil_append, List.append_nil, Option.isSome_some, Option.getD_some, true_and, Int.sub_zero, Int.toNat_zero, List.drop_zero, Int.toNat_natCast]
    refine ite_step rfl ?_ ?_
    · intro h2
      refine call_step (c_bits r.den (okK hr).wf.2) rfl ?_
      simp (disch := omega) only [STEP, Px.A.ev, List.map_cons, List.map_nil, List.getD_cons_zero, List.getD_cons_succ, List.cons_append, List.nil_append, List.append_nil, Option.isSome_some, Option.getD_some, true_and, Int.sub_zero, Int.toNat_zero, List.drop_zero, Int.toNat_natCast]
      refine ret_step ?_
      rw [h, decide_eq_true (show nbits (val r.num) ≤ 64 by omega)]
      show [AV.one (.bool (decide ((nbits (val r.den) : Int) ≤ 64)))] = _
      congr 2
      simp
      omega
    · intro h2
      refine ret_step ?_
      rw [decide_eq_false (show ¬nbits (val r.num) ≤ 64 by omega)]
      simp [Arg.ev, A.ev]
  · intro h
    refine ret_step ?_
    rw [h]; rfl
theorem cr_sml {r : RR} (hr : r.ok LL) : PureCalls prog F.penumbraref13_small [.agg r.dv] [.one (.bool (sml r))] := by
  refine symFunc_sound hmix tree_penumbraref13_small (by kernel_rfl) rfl ?_
  unfold ir_penumbraref13_small
  simp only [FF, List.cons_append, List.nil_append, List.append_nil]
  refine call_step (cr_check r (okK hr)) rfl ?_
  unfold sml
  simp only [FF, List.cons_append, List.nil_append, List.append_nil]
  refine itb_step rfl ?_ ?_
  · intro h
    refine call_step (cr_bits r.num (okK hr).wf.1) rfl ?_
    simp (disch := omega) only [STEP, Px.A.ev, List.map_cons, List.map_nil, List.getD_cons_zero, List.getD_cons_succ, List.cons_append, List.nil_append, List.append_nil, Option.isSome_some, Option.getD_some, true_and, Int.sub_zero, Int.toNat_zero, List.drop_zero, Int.toNat_natCast]
    refine ite_step rfl ?_ ?_
    · intro h2
      refine call_step (cr_bits r.den (okK hr).wf.2) rfl ?_
      simp (disch := omega) only [STEP, Px.A.ev, List.map_cons, List.map_nil, List.getD_cons_zero, List.getD_cons_succ, List.cons_append, List.nil_append, List.append_nil, Option.isSome_some, Option.getD_some, true_and, Int.sub_zero, Int.toNat_zero, List.drop_zero, Int.toNat_natCast]
      refine ret_step ?_
      rw [h, decide_eq_true (show nbits (val r.num) ≤ 64 by omega)]
      show [AV.one (.bool (decide ((nbits (val r.den) : Int) ≤ 64)))] = _
      congr 2
      simp
      omega
    · intro h2
      refine ret_step ?_
      rw [decide_eq_false (show ¬nbits (val r.num) ≤ 64 by omega)]
      simp [Arg.ev, A.ev]
  · intro h
    refine ret_step ?_
    rw [h]; rfl

theorem leafB {L : List AV} {X b : Bool} {C : Prop} (h : L = [AV.one (.bool X)]) (hb : b = true ↔ C) (hx : X = true ↔ C) : L = [AV.one (.bool b)] := by
  rw [h, Bool.eq_iff_iff.2 (hx.trans hb.symm)]

theorem c_ckd {c : CF} {b : Bool} (hc : c.ok) (hb : b = true ↔ c.may) : PureCalls prog F.draws_Check [.agg c.dv] [.one (.bool b)] := by
  obtain ⟨h1, h2, h3, h4, h5, h6, h7, h8⟩ := hc
  refine symFunc_sound hmix tree_draws_Check (by kernel_rfl) rfl ?_
  unfold ir_draws_Check
  have k1 := c_sml h7
  have k2 := c_sml h8
  have k3 := c_sign c.r2 (okK h7)
  have k4 := c_sign c.al (okK h8)
  have k5 := c_ofQ 1 1 (by decide) (by decide) (by decide) (by decide)
  have k6 := c_cmpQ c.al (cr (ofQ 1 1)) (okK h8) (smK (k_of (by decide) (by decide) (by decide) (by decide)))
  rw [cr_v, show ofQ 1 1 = 1 by decide +kernel] at k6
  rw [show ofQ 1 1 = 1 by decide +kernel] at k5
  unfold CF.may at hb
  obtain ⟨m, ps, ph, d, bt, nr, r2, al⟩ := c
  simp only at *
  rw [fa_cf]
  unfold CF.dv
  generalize sml r2 = s2 at *
  generalize sml al = sa at *
  generalize r2.v.num.sign = g2 at *
  generalize al.v.num.sign = ga at *
  generalize cmpQ al.v 1 = cm at *
  simp only [FF, List.cons_append, List.nil_append, List.append_nil]
  repeat' first
    | (refine call_step k1 rfl ?_; simp only [FF, List.cons_append, List.nil_append, List.append_nil])
    | (refine call_step k2 rfl ?_; simp only [FF, List.cons_append, List.nil_append, List.append_nil])
    | (refine call_step k3 rfl ?_; simp only [FF, List.cons_append, List.nil_append, List.append_nil])
    | (refine call_step k4 rfl ?_; simp only [FF, List.cons_append, List.nil_append, List.append_nil])
    | (refine call_step k5 rfl ?_; simp only [FF, List.cons_append, List.nil_append, List.append_nil])
    | (refine call_step k6 rfl ?_; simp only [FF, List.cons_append, List.nil_append, List.append_nil])
    | (refine call_step (c_within _ _ _) rfl ?_; simp only [FF, List.cons_append, List.nil_append, List.append_nil])
    | (refine ite_step rfl ?_ ?_ <;> intro _)
    | (refine itb_step rfl ?_ ?_ <;> intro _)
    | refine ret_step ?_
    | simp (disch := omega) only [STEP, Px.A.ev, List.map_cons, List.map_nil, List.getD_cons_zero, List.getD_cons_succ, List.cons_append, List.nil_append, List.append_nil, Option.isSome_some, Option.getD_some, true_and, Int.sub_zero, Int.toNat_zero, List.drop_zero, Int.toNat_natCast]
  all_goals (refine leafB rfl hb ?_; unfold ckP; grind)

theorem cr_ckd {c : CF} {b : Bool} (hc : c.ok) (hb : b = true ↔ c.may) : PureCalls prog F.penumbraref13_Check [.agg c.dv] [.one (.bool b)] := by
  obtain ⟨h1, h2, h3, h4, h5, h6, h7, h8⟩ := hc
  refine symFunc_sound hmix tree_penumbraref13_Check (by kernel_rfl) rfl ?_
  unfold ir_penumbraref13_Check
  have k1 := cr_sml h7
  have k2 := cr_sml h8
  have k3 := cr_sign c.r2 (okK h7)
  have k4 := cr_sign c.al (okK h8)
  have k5 := cr_one
  have k6 := cr_cmpQ c.al (cr 1) (h8.mono (by decide)) ((cr_ok (L := LL) (Sm1.mono (by decide))).mono (by decide))
  rw [cr_v] at k6
  unfold CF.may at hb
  obtain ⟨m, ps, ph, d, bt, nr, r2, al⟩ := c
  simp only at *
  rw [fa_cf]
  unfold CF.dv
  generalize sml r2 = s2 at *
  generalize sml al = sa at *
  generalize r2.v.num.sign = g2 at *
  generalize al.v.num.sign = ga at *
  generalize cmpQ al.v 1 = cm at *
  simp only [FF, List.cons_append, List.nil_append, List.append_nil]
  repeat' first
    | (refine call_step k1 rfl ?_; simp only [FF, List.cons_append, List.nil_append, List.append_nil])
    | (refine call_step k2 rfl ?_; simp only [FF, List.cons_append, List.nil_append, List.append_nil])
    | (refine call_step k3 rfl ?_; simp only [FF, List.cons_append, List.nil_append, List.append_nil])
    | (refine call_step k4 rfl ?_; simp only [FF, List.cons_append, List.nil_append, List.append_nil])
    | (refine call_step k5 rfl ?_; simp only [FF, List.cons_append, List.nil_append, List.append_nil])
    | (refine call_step k6 rfl ?_; simp only [FF, List.cons_append, List.nil_append, List.append_nil])
    | (refine ite_step rfl ?_ ?_ <;> intro _)
    | (refine itb_step rfl ?_ ?_ <;> intro _)
    | refine ret_step ?_
    | simp (disch := omega) only [STEP, Px.A.ev, List.map_cons, List.map_nil, List.getD_cons_zero, List.getD_cons_succ, List.cons_append, List.nil_append, List.append_nil, Option.isSome_some, Option.getD_some, true_and, Int.sub_zero, Int.toNat_zero, List.drop_zero, Int.toNat_natCast]
  all_goals (refine leafB rfl hb ?_; unfold ckP; grind)

end Go.Px.Na
/- Dr2: the passes stand one behind the other. -/
set_option maxRecDepth 10000
set_option maxHeartbeats 4000000
set_option linter.unusedSimpArgs false
set_option linter.unusedVariables false
namespace Go.Px.Na
open Go.RowKit
open Go.Proofs.Try (prog)

theorem mulE {a b p : Int} (h : p = a * b) (h0 : -9223372036854775808 ≤ p) (h1 : p < 9223372036854775808) : Prim.den (.bin .mul) [.int .i64 a, .int .i64 b] = some (.int .i64 p) := by
  subst h; exact d_mul64 h0 h1
theorem bnd {a b A B : Int} (h0 : 0 ≤ a) (h1 : a ≤ A) (h2 : 0 ≤ b) (h3 : b ≤ B) : 0 ≤ a * b ∧ a * b ≤ A * B :=
  ⟨Int.mul_nonneg h0 h2, Int.mul_le_mul h1 h3 h2 (by omega)⟩

/-- Is a pass laid out? -/
def CF.lay (c : CF) (w h : Int) : Prop := c.may ∧ 1 ≤ w ∧ w ≤ 16 ∧ 1 ≤ h ∧ h ≤ 16
theorem may_b {c : CF} (h : c.may) : 1 ≤ c.ps ∧ c.ps ≤ 16 ∧ 1 ≤ c.d ∧ c.d ≤ 6 ∧ 0 ≤ c.ph ∧ c.ph ≤ 64 := by
  unfold CF.may ckP at h
  obtain ⟨h1, h2, h3, h4, h5, h6, h7, h8, h9, h10, h11, h12, _⟩ := h
  by_cases hm : c.m = 0
  · have := h11 hm; omega
  · have := h12 hm; omega
theorem bool_of (C : Prop) : ∃ b : Bool, b = true ↔ C := ⟨@decide C (Classical.propDecidable C), @decide_eq_true_iff C (Classical.propDecidable C)⟩

theorem c_lay_t {c : CF} {w h : Int} (hc : c.ok) (hl : c.lay w h) : PureCalls prog F.draws_lay [.agg c.dv, .one (.int .i64 w), .one (.int .i64 h)] [.agg [.int .i64 (w * h), .int .i64 (4 * c.d + 1), .int .i64 c.ph, .int .i64 (2 * c.d + 1)], .one (.bool true)] := by
  refine symFunc_sound hmix tree_draws_lay (by kernel_rfl) rfl ?_
  unfold ir_draws_lay
  obtain ⟨hm, h1, h2, h3, h4⟩ := hl
  have hb := may_b hm
  have e1 := bnd (show 0 ≤ w by omega) h2 (show 0 ≤ h by omega) h4
  have em := mulE (a := w) (b := h) rfl (by omega) (by omega)
  rw [fa_cf]
  unfold CF.dv
  try simp only [FF, List.cons_append, List.nil_append, List.append_nil]
  refine call_step (c_ckd (b := true) hc (by simp [hm])) rfl ?_
  try simp only [FF, List.cons_append, List.nil_append, List.append_nil]
  refine primS (.bool false) rfl ?_
  try simp only [FF, List.cons_append, List.nil_append, List.append_nil]
  refine itF rfl ?_
  have k1 := c_within w 1 16
  have k2 := c_within h 1 16
  rw [decide_eq_true ⟨h1, h2⟩] at k1
  rw [decide_eq_true ⟨h3, h4⟩] at k2
  refine call_step k1 rfl ?_
  try simp only [FF, List.cons_append, List.nil_append, List.append_nil]
  refine primS (.bool false) rfl ?_
  try simp only [FF, List.cons_append, List.nil_append, List.append_nil]
  refine itF rfl ?_
  refine call_step k2 rfl ?_
  try simp only [FF, List.cons_append, List.nil_append, List.append_nil]
  refine primS (.bool false) rfl ?_
  try simp only [FF, List.cons_append, List.nil_append, List.append_nil]
  refine itF rfl ?_
  simp (disch := omega) only [STEP, Px.A.ev, List.map_cons, List.map_nil, List.getD_cons_zero, List.getD_cons_succ, List.cons_append, List.nil_append, List.append_nil, Option.isSome_some, Option.getD_some, true_and, Int.sub_zero, Int.toNat_zero, List.drop_zero, Int.toNat_natCast, em]
  exact ret_step rfl
theorem c_lay_f {c : CF} {w h : Int} (hc : c.ok) (hl : ¬c.lay w h) : PureCalls prog F.draws_lay [.agg c.dv, .one (.int .i64 w), .one (.int .i64 h)] [.agg [.int .i64 0, .int .i64 0, .int .i64 0, .int .i64 0], .one (.bool false)] := by
  refine symFunc_sound hmix tree_draws_lay (by kernel_rfl) rfl ?_
  unfold ir_draws_lay
  obtain ⟨b, hb⟩ := bool_of c.may
  rw [fa_cf]
  unfold CF.dv
  try simp only [FF, List.cons_append, List.nil_append, List.append_nil]
  refine call_step (c_ckd hc hb) rfl ?_
  try simp only [FF, List.cons_append, List.nil_append, List.append_nil]
  simp (disch := omega) only [STEP, Px.A.ev, List.map_cons, List.map_nil, List.getD_cons_zero, List.getD_cons_succ, List.cons_append, List.nil_append, List.append_nil, Option.isSome_some, Option.getD_some, true_and, Int.sub_zero, Int.toNat_zero, List.drop_zero, Int.toNat_natCast]
  refine itb_step rfl ?_ ?_
  · intro _; exact ret_step rfl
  · intro hbt
    refine call_step (c_within w 1 16) rfl ?_
    try simp only [FF, List.cons_append, List.nil_append, List.append_nil]
    simp (disch := omega) only [STEP, Px.A.ev, List.map_cons, List.map_nil, List.getD_cons_zero, List.getD_cons_succ, List.cons_append, List.nil_append, List.append_nil, Option.isSome_some, Option.getD_some, true_and, Int.sub_zero, Int.toNat_zero, List.drop_zero, Int.toNat_natCast]
    refine itb_step rfl ?_ ?_
    · intro _; exact ret_step rfl
    · intro hw
      refine call_step (c_within h 1 16) rfl ?_
      try simp only [FF, List.cons_append, List.nil_append, List.append_nil]
      simp (disch := omega) only [STEP, Px.A.ev, List.map_cons, List.map_nil, List.getD_cons_zero, List.getD_cons_succ, List.cons_append, List.nil_append, List.append_nil, Option.isSome_some, Option.getD_some, true_and, Int.sub_zero, Int.toNat_zero, List.drop_zero, Int.toNat_natCast]
      refine itb_step rfl ?_ ?_
      · intro _; exact ret_step rfl
      · intro hh
        exfalso
        simp at hbt hw hh
        exact hl ⟨hb.1 hbt, hw.1, hw.2, hh.1, hh.2⟩

theorem c_pass {p e q v : Int} (h0 : 0 ≤ p) (h1 : p ≤ 256) (h2 : 0 ≤ e) (h3 : e ≤ 25) (h4 : 0 ≤ q) (h5 : q ≤ 64) (h6 : 0 ≤ v) (h7 : v ≤ 13) :
    PureCalls prog F._draws_layout__pass [.agg [.int .i64 p, .int .i64 e, .int .i64 q, .int .i64 v]] [.one (.int .i64 (p * e + q * v))] := by
  refine symFunc_sound hmix tree__draws_layout__pass (by kernel_rfl) rfl ?_
  unfold ir__draws_layout__pass
  have e1 := bnd h0 h1 h2 h3
  have e2 := bnd h4 h5 h6 h7
  have m1 := mulE (a := p) (b := e) rfl (by omega) (by omega)
  have m2 := mulE (a := q) (b := v) rfl (by omega) (by omega)
  refine primS _ m1 ?_
  try simp only [FF, List.cons_append, List.nil_append, List.append_nil]
  refine primS _ m2 ?_
  try simp only [FF, List.cons_append, List.nil_append, List.append_nil]
  refine primS (.int .i64 (p * e + q * v)) (d_add64 (by omega) (by omega)) ?_
  try simp only [FF, List.cons_append, List.nil_append, List.append_nil]
  exact ret_step rfl
theorem c_truth (b : Bool) : PureCalls prog F.draws_truth [.one (.bool b)] [.one (.int .i64 (if b then 1 else 0))] := by
  refine symFunc_sound hmix tree_draws_truth (by kernel_rfl) rfl ?_
  unfold ir_draws_truth
  cases b
  · refine itF rfl ?_; exact ret_step rfl
  · refine itT rfl ?_; exact ret_step rfl

/-- How many draws a pass has. -/
def CF.pass (c : CF) (w h : Int) : Int := w * h * (4 * c.d + 1) + c.ph * (2 * c.d + 1)
theorem pass_b {c : CF} {w h : Int} (hl : c.lay w h) : 0 < c.pass w h ∧ c.pass w h ≤ 7232 ∧ 0 ≤ w * h ∧ w * h ≤ 256 ∧ 0 ≤ w * h * (4 * c.d + 1) ∧ w * h * (4 * c.d + 1) ≤ 6400 ∧ 0 ≤ c.ph * (2 * c.d + 1) ∧ c.ph * (2 * c.d + 1) ≤ 832 := by
  obtain ⟨hm, h1, h2, h3, h4⟩ := hl
  have hb := may_b hm
  have e1 := bnd (show 0 ≤ w by omega) h2 (show 0 ≤ h by omega) h4
  have e2 := bnd e1.1 e1.2 (show 0 ≤ 4 * c.d + 1 by omega) (show 4 * c.d + 1 ≤ 25 by omega)
  have e3 := bnd (show 0 ≤ c.ph by omega) (show c.ph ≤ 64 by omega) (show 0 ≤ 2 * c.d + 1 by omega) (show 2 * c.d + 1 ≤ 13 by omega)
  have e4 : 0 < w * h := Int.mul_pos (by omega) (by omega)
  have e5 : 0 < w * h * (4 * c.d + 1) := Int.mul_pos e4 (by omega)
  unfold CF.pass
  omega

def needR (b : Bool) (n : Int) : List AV := [.one (.int .i64 (if b then n else 0)), .one (.bool b)]
theorem c_need_t {c : CF} {w h : Int} (hc : c.ok) (hl : c.lay w h) : PureCalls prog F.draws_Need [.agg c.dv, .one (.int .i64 w), .one (.int .i64 h)] [.one (.int .i64 (c.pass w h * c.ps)), .one (.bool true)] := by
  refine symFunc_sound hmix tree_draws_Need (by kernel_rfl) rfl ?_
  unfold ir_draws_Need
  have hb := may_b hl.1
  have hp := pass_b hl
  rw [fa_cf]
  unfold CF.dv
  try simp only [FF, List.cons_append, List.nil_append, List.append_nil]
  refine call_step (c_lay_t hc hl) rfl ?_
  try simp only [FF, List.cons_append, List.nil_append, List.append_nil]
  refine call_step (c_pass hp.2.2.1 hp.2.2.2.1 (by omega) (by omega) (by omega) (by omega) (by omega) (by omega)) rfl ?_
  try simp only [FF, List.cons_append, List.nil_append, List.append_nil]
  have e1 := bnd (show 0 ≤ c.pass w h by omega) hp.2.1 (show 0 ≤ c.ps by omega) (show c.ps ≤ 16 by omega)
  refine primS (.int .i64 (c.pass w h * c.ps)) (mulE rfl (by omega) (by omega)) ?_
  try simp only [FF, List.cons_append, List.nil_append, List.append_nil]
  refine call_step (c_truth true) rfl ?_
  try simp only [FF, List.cons_append, List.nil_append, List.append_nil]
  refine primS (.int .i64 (c.pass w h * c.ps)) (mulE (a := c.pass w h * c.ps) (b := 1) (by omega) (by omega) (by omega)) ?_
  try simp only [FF, List.cons_append, List.nil_append, List.append_nil]
  exact ret_step rfl
theorem c_need_f {c : CF} {w h : Int} (hc : c.ok) (hl : ¬c.lay w h) : PureCalls prog F.draws_Need [.agg c.dv, .one (.int .i64 w), .one (.int .i64 h)] [.one (.int .i64 0), .one (.bool false)] := by
  refine symFunc_sound hmix tree_draws_Need (by kernel_rfl) rfl ?_
  unfold ir_draws_Need
  rw [fa_cf]
  unfold CF.dv
  try simp only [FF, List.cons_append, List.nil_append, List.append_nil]
  refine call_step (c_lay_f hc hl) rfl ?_
  try simp only [FF, List.cons_append, List.nil_append, List.append_nil]
  refine call_step (c_pass (p := 0) (e := 0) (q := 0) (v := 0) (by omega) (by omega) (by omega) (by omega) (by omega) (by omega) (by omega) (by omega)) rfl ?_
  try simp only [FF, List.cons_append, List.nil_append, List.append_nil]
  refine primS (.int .i64 0) (mulE (a := 0 * 0 + 0 * 0) (b := c.ps) (by omega) (by omega) (by omega)) ?_
  try simp only [FF, List.cons_append, List.nil_append, List.append_nil]
  refine call_step (c_truth false) rfl ?_
  try simp only [FF, List.cons_append, List.nil_append, List.append_nil]
  refine primS (.int .i64 0) (mulE (a := 0) (b := 0) (by omega) (by omega) (by omega)) ?_
  try simp only [FF, List.cons_append, List.nil_append, List.append_nil]
  exact ret_step rfl
theorem cr_need_t {c : CF} {w h : Int} (hc : c.ok) (hl : c.lay w h) : PureCalls prog F.penumbraref13_Need [.agg c.dv, .one (.int .i64 w), .one (.int .i64 h)] [.one (.int .i64 (c.pass w h * c.ps)), .one (.bool true)] := by
  refine symFunc_sound hmix tree_penumbraref13_Need (by kernel_rfl) rfl ?_
  unfold ir_penumbraref13_Need
  have hb := may_b hl.1
  have hp := pass_b hl
  have e1 := bnd (show 0 ≤ c.ps by omega) (show c.ps ≤ 16 by omega) (show 0 ≤ c.pass w h by omega) hp.2.1
  obtain ⟨hm, h1, h2, h3, h4⟩ := hl
  rw [fa_cf]
  unfold CF.dv
  try simp only [FF, List.cons_append, List.nil_append, List.append_nil]
  refine call_step (cr_ckd (b := true) hc (by simp [hm])) rfl ?_
  try simp only [FF, List.cons_append, List.nil_append, List.append_nil]
  refine primS (.bool false) rfl ?_
  try simp only [FF, List.cons_append, List.nil_append, List.append_nil]
  refine itF rfl ?_
  refine primS (.bool false) (by show Prim.den (.bin .lss) [.int .i64 w, .int .i64 1] = _; rw [d_lss, decide_eq_false (by omega)]) ?_
  try simp only [FF, List.cons_append, List.nil_append, List.append_nil]
  refine itF rfl ?_
  refine primS (.bool false) (by show Prim.den (.bin .gtr) [.int .i64 w, .int .i64 16] = _; rw [d_gtr, decide_eq_false (by omega)]) ?_
  try simp only [FF, List.cons_append, List.nil_append, List.append_nil]
  refine itF rfl ?_
  refine primS (.bool false) (by show Prim.den (.bin .lss) [.int .i64 h, .int .i64 1] = _; rw [d_lss, decide_eq_false (by omega)]) ?_
  try simp only [FF, List.cons_append, List.nil_append, List.append_nil]
  refine itF rfl ?_
  refine primS (.bool false) (by show Prim.den (.bin .gtr) [.int .i64 h, .int .i64 16] = _; rw [d_gtr, decide_eq_false (by omega)]) ?_
  try simp only [FF, List.cons_append, List.nil_append, List.append_nil]
  refine itF rfl ?_
  refine primS (.int .i64 (w * h)) (mulE rfl (by omega) (by omega)) ?_
  try simp only [FF, List.cons_append, List.nil_append, List.append_nil]
  refine primS (.int .i64 (4 * c.d)) (mulE rfl (by omega) (by omega)) ?_
  try simp only [FF, List.cons_append, List.nil_append, List.append_nil]
  refine primS (.int .i64 (4 * c.d + 1)) (d_add64 (by omega) (by omega)) ?_
  try simp only [FF, List.cons_append, List.nil_append, List.append_nil]
  refine primS (.int .i64 (w * h * (4 * c.d + 1))) (mulE rfl (by omega) (by omega)) ?_
  try simp only [FF, List.cons_append, List.nil_append, List.append_nil]
  refine primS (.int .i64 (2 * c.d)) (mulE rfl (by omega) (by omega)) ?_
  try simp only [FF, List.cons_append, List.nil_append, List.append_nil]
  refine primS (.int .i64 (2 * c.d + 1)) (d_add64 (by omega) (by omega)) ?_
  try simp only [FF, List.cons_append, List.nil_append, List.append_nil]
  refine primS (.int .i64 (c.ph * (2 * c.d + 1))) (mulE rfl (by omega) (by omega)) ?_
  try simp only [FF, List.cons_append, List.nil_append, List.append_nil]
  refine primS (.int .i64 (c.pass w h)) (d_add64 (by omega) (by omega)) ?_
  try simp only [FF, List.cons_append, List.nil_append, List.append_nil]
  refine primS (.int .i64 (c.pass w h * c.ps)) (mulE (Int.mul_comm _ _) (by rw [Int.mul_comm]; omega) (by rw [Int.mul_comm]; omega)) ?_
  try simp only [FF, List.cons_append, List.nil_append, List.append_nil]
  exact ret_step rfl
theorem cr_need_f {c : CF} {w h : Int} (hc : c.ok) (hl : ¬c.lay w h) : PureCalls prog F.penumbraref13_Need [.agg c.dv, .one (.int .i64 w), .one (.int .i64 h)] [.one (.int .i64 0), .one (.bool false)] := by
  refine symFunc_sound hmix tree_penumbraref13_Need (by kernel_rfl) rfl ?_
  unfold ir_penumbraref13_Need
  obtain ⟨b, hb⟩ := bool_of c.may
  rw [fa_cf]
  unfold CF.dv
  try simp only [FF, List.cons_append, List.nil_append, List.append_nil]
  refine call_step (cr_ckd hc hb) rfl ?_
  try simp only [FF, List.cons_append, List.nil_append, List.append_nil]
  simp (disch := omega) only [STEP, Px.A.ev, List.map_cons, List.map_nil, List.getD_cons_zero, List.getD_cons_succ, List.cons_append, List.nil_append, List.append_nil, Option.isSome_some, Option.getD_some, true_and, Int.sub_zero, Int.toNat_zero, List.drop_zero, Int.toNat_natCast]
  refine itb_step rfl ?_ ?_
  · intro _; exact ret_step rfl
  · intro hbt
    simp (disch := omega) only [STEP, Px.A.ev, List.map_cons, List.map_nil, List.getD_cons_zero, List.getD_cons_succ, List.cons_append, List.nil_append, List.append_nil, Option.isSome_some, Option.getD_some, true_and, Int.sub_zero, Int.toNat_zero, List.drop_zero, Int.toNat_natCast]
    refine ite_step rfl ?_ ?_
    · intro _; exact ret_step rfl
    · intro h1
      simp (disch := omega) only [STEP, Px.A.ev, List.map_cons, List.map_nil, List.getD_cons_zero, List.getD_cons_succ, List.cons_append, List.nil_append, List.append_nil, Option.isSome_some, Option.getD_some, true_and, Int.sub_zero, Int.toNat_zero, List.drop_zero, Int.toNat_natCast]
      refine ite_step rfl ?_ ?_
      · intro _; exact ret_step rfl
      · intro h2
        simp (disch := omega) only [STEP, Px.A.ev, List.map_cons, List.map_nil, List.getD_cons_zero, List.getD_cons_succ, List.cons_append, List.nil_append, List.append_nil, Option.isSome_some, Option.getD_some, true_and, Int.sub_zero, Int.toNat_zero, List.drop_zero, Int.toNat_natCast]
        refine ite_step rfl ?_ ?_
        · intro _; exact ret_step rfl
        · intro h3
          simp (disch := omega) only [STEP, Px.A.ev, List.map_cons, List.map_nil, List.getD_cons_zero, List.getD_cons_succ, List.cons_append, List.nil_append, List.append_nil, Option.isSome_some, Option.getD_some, true_and, Int.sub_zero, Int.toNat_zero, List.drop_zero, Int.toNat_natCast]
          refine ite_step rfl ?_ ?_
          · intro _; exact ret_step rfl
          · intro h4
            exfalso
            simp at hbt
            exact hl ⟨hb.1 hbt, by omega, by omega, by omega, by omega⟩

/-- Has what a draw is for a place? -/
def CF.idx (c : CF) (w h : Int) (t : Bool) (pa wi sl : Int) : Prop := c.lay w h ∧ 0 ≤ pa ∧ pa ≤ c.ps - 1 ∧
  (t = true → 0 ≤ wi ∧ wi ≤ c.ph - 1 ∧ 0 ≤ sl ∧ sl ≤ 2 * c.d + 1 - 1) ∧ (t = false → 0 ≤ wi ∧ wi ≤ w * h - 1 ∧ 0 ≤ sl ∧ sl ≤ 4 * c.d + 1 - 1)
def CF.plc (c : CF) (w h : Int) (t : Bool) (pa wi sl : Int) : Int :=
  if t then pa * c.pass w h + w * h * (4 * c.d + 1) + wi * (2 * c.d + 1) + sl else pa * c.pass w h + wi * (4 * c.d + 1) + sl

theorem c_index_t {c : CF} {w h : Int} {t : Bool} {pa wi sl : Int} (hc : c.ok) (hi : c.idx w h t pa wi sl) :
    PureCalls prog F.draws_Index [.agg c.dv, .one (.int .i64 w), .one (.int .i64 h), .agg [.bool t, .int .i64 pa, .int .i64 wi, .int .i64 sl]] [.one (.int .i64 (c.plc w h t pa wi sl)), .one (.bool true)] := by
  refine symFunc_sound hmix tree_draws_Index (by kernel_rfl) rfl ?_
  unfold ir_draws_Index
  obtain ⟨hl, hp0, hp1, ht, hf⟩ := hi
  have hb := may_b hl.1
  have hp := pass_b hl
  have k1 := c_within pa 0 (c.ps - 1)
  rw [decide_eq_true ⟨hp0, hp1⟩] at k1
  have e1 := bnd hp0 (show pa ≤ 15 by omega) (show 0 ≤ c.pass w h by omega) hp.2.1
  rw [fa_cf]
  unfold CF.dv
  try simp only [FF, List.cons_append, List.nil_append, List.append_nil]
  refine call_step (c_lay_t hc hl) rfl ?_
  try simp only [FF, List.cons_append, List.nil_append, List.append_nil]
  refine primS (.bool false) rfl ?_
  try simp only [FF, List.cons_append, List.nil_append, List.append_nil]
  refine itF rfl ?_
  refine primS (.int .i64 (c.ps - 1)) (d_sub64 (by omega) (by omega)) ?_
  try simp only [FF, List.cons_append, List.nil_append, List.append_nil]
  refine call_step k1 rfl ?_
  try simp only [FF, List.cons_append, List.nil_append, List.append_nil]
  refine primS (.bool false) rfl ?_
  try simp only [FF, List.cons_append, List.nil_append, List.append_nil]
  refine itF rfl ?_
  refine call_step (c_pass hp.2.2.1 hp.2.2.2.1 (by omega) (by omega) (by omega) (by omega) (by omega) (by omega)) rfl ?_
  try simp only [FF, List.cons_append, List.nil_append, List.append_nil]
  refine primS (.int .i64 (pa * c.pass w h)) (mulE rfl (by omega) (by omega)) ?_
  try simp only [FF, List.cons_append, List.nil_append, List.append_nil]
  cases t with
  | true =>
    obtain ⟨w0, w1, s0, s1⟩ := ht rfl
    have k2 := c_within wi 0 (c.ph - 1)
    have k3 := c_within sl 0 (2 * c.d + 1 - 1)
    rw [decide_eq_true ⟨w0, w1⟩] at k2
    rw [decide_eq_true ⟨s0, s1⟩] at k3
    have e2 := bnd w0 (show wi ≤ 63 by omega) (show 0 ≤ 2 * c.d + 1 by omega) (show 2 * c.d + 1 ≤ 13 by omega)
    refine itT rfl ?_
    refine primS (.int .i64 (w * h * (4 * c.d + 1))) (mulE rfl (by omega) (by omega)) ?_
    try simp only [FF, List.cons_append, List.nil_append, List.append_nil]
    refine primS (.int .i64 (pa * c.pass w h + w * h * (4 * c.d + 1))) (d_add64 (by omega) (by omega)) ?_
    try simp only [FF, List.cons_append, List.nil_append, List.append_nil]
    refine primS (.int .i64 (c.ph - 1)) (d_sub64 (by omega) (by omega)) ?_
    try simp only [FF, List.cons_append, List.nil_append, List.append_nil]
    refine call_step k2 rfl ?_
    try simp only [FF, List.cons_append, List.nil_append, List.append_nil]
    refine primS (.bool false) rfl ?_
    try simp only [FF, List.cons_append, List.nil_append, List.append_nil]
    refine itF rfl ?_
    refine primS (.int .i64 (2 * c.d + 1 - 1)) (d_sub64 (by omega) (by omega)) ?_
    try simp only [FF, List.cons_append, List.nil_append, List.append_nil]
    refine call_step k3 rfl ?_
    try simp only [FF, List.cons_append, List.nil_append, List.append_nil]
    refine primS (.bool false) rfl ?_
    try simp only [FF, List.cons_append, List.nil_append, List.append_nil]
    refine itF rfl ?_
    refine primS (.int .i64 (wi * (2 * c.d + 1))) (mulE rfl (by omega) (by omega)) ?_
    try simp only [FF, List.cons_append, List.nil_append, List.append_nil]
    refine primS (.int .i64 (pa * c.pass w h + w * h * (4 * c.d + 1) + wi * (2 * c.d + 1))) (d_add64 (by omega) (by omega)) ?_
    try simp only [FF, List.cons_append, List.nil_append, List.append_nil]
    refine primS (.int .i64 (pa * c.pass w h + w * h * (4 * c.d + 1) + wi * (2 * c.d + 1) + sl)) (d_add64 (by omega) (by omega)) ?_
    try simp only [FF, List.cons_append, List.nil_append, List.append_nil]
    exact ret_step rfl
  | false =>
    obtain ⟨w0, w1, s0, s1⟩ := hf rfl
    have k2 := c_within wi 0 (w * h - 1)
    have k3 := c_within sl 0 (4 * c.d + 1 - 1)
    rw [decide_eq_true ⟨w0, w1⟩] at k2
    rw [decide_eq_true ⟨s0, s1⟩] at k3
    have e2 := bnd w0 (show wi ≤ 255 by omega) (show 0 ≤ 4 * c.d + 1 by omega) (show 4 * c.d + 1 ≤ 25 by omega)
    refine itF rfl ?_
    refine primS (.int .i64 (w * h - 1)) (d_sub64 (by omega) (by omega)) ?_
    try simp only [FF, List.cons_append, List.nil_append, List.append_nil]
    refine call_step k2 rfl ?_
    try simp only [FF, List.cons_append, List.nil_append, List.append_nil]
    refine primS (.bool false) rfl ?_
    try simp only [FF, List.cons_append, List.nil_append, List.append_nil]
    refine itF rfl ?_
    refine primS (.int .i64 (4 * c.d + 1 - 1)) (d_sub64 (by omega) (by omega)) ?_
    try simp only [FF, List.cons_append, List.nil_append, List.append_nil]
    refine call_step k3 rfl ?_
    try simp only [FF, List.cons_append, List.nil_append, List.append_nil]
    refine primS (.bool false) rfl ?_
    try simp only [FF, List.cons_append, List.nil_append, List.append_nil]
    refine itF rfl ?_
    refine primS (.int .i64 (wi * (4 * c.d + 1))) (mulE rfl (by omega) (by omega)) ?_
    try simp only [FF, List.cons_append, List.nil_append, List.append_nil]
    refine primS (.int .i64 (pa * c.pass w h + wi * (4 * c.d + 1))) (d_add64 (by omega) (by omega)) ?_
    try simp only [FF, List.cons_append, List.nil_append, List.append_nil]
    refine primS (.int .i64 (pa * c.pass w h + wi * (4 * c.d + 1) + sl)) (d_add64 (by omega) (by omega)) ?_
    try simp only [FF, List.cons_append, List.nil_append, List.append_nil]
    exact ret_step rfl
theorem c_index_f {c : CF} {w h : Int} {t : Bool} {pa wi sl : Int} (hc : c.ok) (hi : ¬c.idx w h t pa wi sl) :
    PureCalls prog F.draws_Index [.agg c.dv, .one (.int .i64 w), .one (.int .i64 h), .agg [.bool t, .int .i64 pa, .int .i64 wi, .int .i64 sl]] [.one (.int .i64 0), .one (.bool false)] := by
  refine symFunc_sound hmix tree_draws_Index (by kernel_rfl) rfl ?_
  unfold ir_draws_Index
  rw [fa_cf]
  unfold CF.dv
  try simp only [FF, List.cons_append, List.nil_append, List.append_nil]
  by_cases hl : c.lay w h
  · have hb := may_b hl.1
    have hp := pass_b hl
    refine call_step (c_lay_t hc hl) rfl ?_
    try simp only [FF, List.cons_append, List.nil_append, List.append_nil]
    refine primS (.bool false) rfl ?_
    try simp only [FF, List.cons_append, List.nil_append, List.append_nil]
    refine itF rfl ?_
    refine primS (.int .i64 (c.ps - 1)) (d_sub64 (by omega) (by omega)) ?_
    try simp only [FF, List.cons_append, List.nil_append, List.append_nil]
    refine call_step (c_within pa 0 (c.ps - 1)) rfl ?_
    try simp only [FF, List.cons_append, List.nil_append, List.append_nil]
    refine primS (.bool (!(decide (0 ≤ pa ∧ pa ≤ c.ps - 1)))) rfl ?_
    try simp only [FF, List.cons_append, List.nil_append, List.append_nil]
    refine itb_step rfl ?_ ?_
    · intro _; exact ret_step rfl
    · intro h1
      have h1 : 0 ≤ pa ∧ pa ≤ c.ps - 1 := by simpa using h1
      have e1 := bnd h1.1 (show pa ≤ 15 by omega) (show 0 ≤ c.pass w h by omega) hp.2.1
      refine call_step (c_pass hp.2.2.1 hp.2.2.2.1 (by omega) (by omega) (by omega) (by omega) (by omega) (by omega)) rfl ?_
      try simp only [FF, List.cons_append, List.nil_append, List.append_nil]
      refine primS (.int .i64 (pa * c.pass w h)) (mulE rfl (by omega) (by omega)) ?_
      try simp only [FF, List.cons_append, List.nil_append, List.append_nil]
      cases t with
      | true =>
        refine itT rfl ?_
        refine primS (.int .i64 (w * h * (4 * c.d + 1))) (mulE rfl (by omega) (by omega)) ?_
        try simp only [FF, List.cons_append, List.nil_append, List.append_nil]
        refine primS (.int .i64 (pa * c.pass w h + w * h * (4 * c.d + 1))) (d_add64 (by omega) (by omega)) ?_
        try simp only [FF, List.cons_append, List.nil_append, List.append_nil]
        refine primS (.int .i64 (c.ph - 1)) (d_sub64 (by omega) (by omega)) ?_
        try simp only [FF, List.cons_append, List.nil_append, List.append_nil]
        refine call_step (c_within wi 0 (c.ph - 1)) rfl ?_
        try simp only [FF, List.cons_append, List.nil_append, List.append_nil]
        refine primS (.bool (!(decide (0 ≤ wi ∧ wi ≤ c.ph - 1)))) rfl ?_
        try simp only [FF, List.cons_append, List.nil_append, List.append_nil]
        refine itb_step rfl ?_ ?_
        · intro _; exact ret_step rfl
        · intro h2
          have h2 : 0 ≤ wi ∧ wi ≤ c.ph - 1 := by simpa using h2
          refine primS (.int .i64 (2 * c.d + 1 - 1)) (d_sub64 (by omega) (by omega)) ?_
          try simp only [FF, List.cons_append, List.nil_append, List.append_nil]
          refine call_step (c_within sl 0 (2 * c.d + 1 - 1)) rfl ?_
          try simp only [FF, List.cons_append, List.nil_append, List.append_nil]
          refine primS (.bool (!(decide (0 ≤ sl ∧ sl ≤ 2 * c.d + 1 - 1)))) rfl ?_
          try simp only [FF, List.cons_append, List.nil_append, List.append_nil]
          refine itb_step rfl ?_ ?_
          · intro _; exact ret_step rfl
          · intro h3
            have h3 : 0 ≤ sl ∧ sl ≤ 2 * c.d + 1 - 1 := by simpa only [Bool.not_eq_false', decide_eq_true_eq] using h3
            exact absurd ⟨hl, h1.1, h1.2, fun _ => ⟨h2.1, h2.2, h3.1, h3.2⟩, fun h => by cases h⟩ hi
      | false =>
        refine itF rfl ?_
        refine primS (.int .i64 (w * h - 1)) (d_sub64 (by omega) (by omega)) ?_
        try simp only [FF, List.cons_append, List.nil_append, List.append_nil]
        refine call_step (c_within wi 0 (w * h - 1)) rfl ?_
        try simp only [FF, List.cons_append, List.nil_append, List.append_nil]
        refine primS (.bool (!(decide (0 ≤ wi ∧ wi ≤ w * h - 1)))) rfl ?_
        try simp only [FF, List.cons_append, List.nil_append, List.append_nil]
        refine itb_step rfl ?_ ?_
        · intro _; exact ret_step rfl
        · intro h2
          have h2 : 0 ≤ wi ∧ wi ≤ w * h - 1 := by simpa using h2
          refine primS (.int .i64 (4 * c.d + 1 - 1)) (d_sub64 (by omega) (by omega)) ?_
          try simp only [FF, List.cons_append, List.nil_append, List.append_nil]
          refine call_step (c_within sl 0 (4 * c.d + 1 - 1)) rfl ?_
          try simp only [FF, List.cons_append, List.nil_append, List.append_nil]
          refine primS (.bool (!(decide (0 ≤ sl ∧ sl ≤ 4 * c.d + 1 - 1)))) rfl ?_
          try simp only [FF, List.cons_append, List.nil_append, List.append_nil]
          refine itb_step rfl ?_ ?_
          · intro _; exact ret_step rfl
          · intro h3
            have h3 : 0 ≤ sl ∧ sl ≤ 4 * c.d + 1 - 1 := by simpa only [Bool.not_eq_false', decide_eq_true_eq] using h3
            exact absurd ⟨hl, h1.1, h1.2, fun h => (by cases h), fun _ => ⟨h2.1, h2.2, h3.1, h3.2⟩⟩ hi
  · refine call_step (c_lay_f hc hl) rfl ?_
    refine primS (.bool true) rfl ?_
    try simp only [FF, List.cons_append, List.nil_append, List.append_nil]
    refine itT rfl ?_
    exact ret_step rfl

/-! ### The fixed calls -/
def c0 : CF := ⟨1, 2, 3, 2, 1, 0, cr (ofQ 1 4), cr (ofQ 2 3)⟩
theorem c0_ok : c0.ok := ⟨by decide, by decide, by decide, by decide, by decide, by decide, cr_ok (k_of (by decide) (by decide) (by decide) (by decide)), cr_ok (k_of (by decide) (by decide) (by decide) (by decide))⟩
theorem sml_cr {q : Rat} (h1 : q.num.natAbs < 2 ^ 64) (h2 : q.den < 2 ^ 64) : sml (cr q) = true := by
  unfold sml
  rw [cr_v, eqRR_cr, decide_eq_true rfl]
  have a1 : nbits (val (cr q).num) ≤ 64 := by show nbits (val (limbs q.num.natAbs)) ≤ 64; rw [val_limbs]; exact nbits_le h1
  have a2 : nbits (val (cr q).den) ≤ 64 := by show nbits (val (limbs q.den)) ≤ 64; rw [val_limbs]; exact nbits_le h2
  simp [a1, a2]
theorem c0_may : c0.may := by
  unfold CF.may c0
  simp only [cr_v]
  rw [sml_cr (by decide +kernel) (by decide +kernel), sml_cr (by decide +kernel) (by decide +kernel)]
  have g1 : (ofQ 1 4).num.sign = 1 := by decide +kernel
  have g2 : (ofQ 2 3).num.sign = 1 := by decide +kernel
  have g3 : cmpQ (ofQ 2 3) 1 = -1 := by decide +kernel
  rw [g1, g2, g3]
  unfold ckP
  decide
theorem c0_lay : c0.lay 1 1 := ⟨c0_may, by decide, by decide, by decide, by decide⟩
theorem c_some : PureCalls prog F.penumbralaw13_some [] [.agg c0.dv] := by
  refine symFunc_sound hmix tree_penumbralaw13_some (by kernel_rfl) rfl ?_
  unfold ir_penumbralaw13_some
  refine call_step (c_ofQ 1 4 (by decide) (by decide) (by decide) (by decide)) rfl ?_
  try simp only [FF, List.cons_append, List.nil_append, List.append_nil]
  refine call_step (c_ofQ 2 3 (by decide) (by decide) (by decide) (by decide)) rfl ?_
  try simp only [FF, List.cons_append, List.nil_append, List.append_nil]
  exact ret_step rfl
theorem c_unit11 : PureCalls prog F.draws_Unit [.one (.int .i64 1), .one (.int .i64 1)] [.agg (rd (ofQ 3 4)), .one (.bool true)] := by
  refine symFunc_sound hmix tree_draws_Unit (by kernel_rfl) rfl ?_
  unfold ir_draws_Unit
  refine call_step (c_within 1 1 24) rfl ?_
  try simp only [FF, List.cons_append, List.nil_append, List.append_nil]
  refine primS (.bool false) rfl ?_
  try simp only [FF, List.cons_append, List.nil_append, List.append_nil]
  refine itF rfl ?_
  refine primS (.int .i64 2) (by kernel_rfl) ?_
  try simp only [FF, List.cons_append, List.nil_append, List.append_nil]
  refine primS (.int .i64 1) (by kernel_rfl) ?_
  try simp only [FF, List.cons_append, List.nil_append, List.append_nil]
  refine call_step (c_within 1 0 1) rfl ?_
  try simp only [FF, List.cons_append, List.nil_append, List.append_nil]
  refine primS (.bool false) rfl ?_
  try simp only [FF, List.cons_append, List.nil_append, List.append_nil]
  refine itF rfl ?_
  refine primS (.int .i64 2) (by kernel_rfl) ?_
  try simp only [FF, List.cons_append, List.nil_append, List.append_nil]
  refine primS (.int .i64 3) (by kernel_rfl) ?_
  try simp only [FF, List.cons_append, List.nil_append, List.append_nil]
  refine primS (.int .i64 4) (by kernel_rfl) ?_
  try simp only [FF, List.cons_append, List.nil_append, List.append_nil]
  refine call_step (c_ofQ 3 4 (by decide) (by decide) (by decide) (by decide)) rfl ?_
  try simp only [FF, List.cons_append, List.nil_append, List.append_nil]
  exact ret_step rfl
theorem c_unit21 : PureCalls prog F.draws_Unit [.one (.int .i64 2), .one (.int .i64 1)] [.agg (rd (ofQ 0 1)), .one (.bool false)] := by
  refine symFunc_sound hmix tree_draws_Unit (by kernel_rfl) rfl ?_
  unfold ir_draws_Unit
  refine call_step (c_within 1 1 24) rfl ?_
  try simp only [FF, List.cons_append, List.nil_append, List.append_nil]
  refine primS (.bool false) rfl ?_
  try simp only [FF, List.cons_append, List.nil_append, List.append_nil]
  refine itF rfl ?_
  refine primS (.int .i64 2) (by kernel_rfl) ?_
  try simp only [FF, List.cons_append, List.nil_append, List.append_nil]
  refine primS (.int .i64 1) (by kernel_rfl) ?_
  try simp only [FF, List.cons_append, List.nil_append, List.append_nil]
  refine call_step (c_within 2 0 1) rfl ?_
  try simp only [FF, List.cons_append, List.nil_append, List.append_nil]
  refine primS (.bool true) rfl ?_
  try simp only [FF, List.cons_append, List.nil_append, List.append_nil]
  refine itT rfl ?_
  refine call_step (c_ofQ 0 1 (by decide) (by decide) (by decide) (by decide)) rfl ?_
  try simp only [FF, List.cons_append, List.nil_append, List.append_nil]
  exact ret_step rfl
def cz : CF := ⟨0, 0, 0, 0, 0, 0, ⟨false, [], []⟩, ⟨false, [], []⟩⟩
theorem c_fixed13 : PureCalls prog F.penumbralaw13_fixed [] [.one (.bool true)] := by
  refine symFunc_sound hmix tree_penumbralaw13_fixed (by kernel_rfl) rfl ?_
  unfold ir_penumbralaw13_fixed
  have e1 : c0.pass 1 1 * c0.ps = 48 := by decide +kernel
  have kn := c_need_t c0_ok c0_lay
  rw [e1] at kn
  have hi : c0.idx 1 1 true 1 1 0 := ⟨c0_lay, by decide, by decide, fun _ => by decide, fun h => by cases h⟩
  have ki := c_index_t c0_ok hi
  have e2 : c0.plc 1 1 true 1 1 0 = 38 := by decide +kernel
  rw [e2] at ki
  have kcz := c_ckd (c := cz) (b := false) ⟨by decide, by decide, by decide, by decide, by decide, by decide, ⟨WL.nil, WL.nil, by simp [cz], by simp [cz]⟩, ⟨WL.nil, WL.nil, by simp [cz], by simp [cz]⟩⟩ (by
    constructor
    · intro h; cases h
    · intro h; unfold CF.may ckP cz at h; simp at h)
  refine call_step c_some rfl ?_
  try simp only [FF, List.cons_append, List.nil_append, List.append_nil]
  refine call_step kn rfl ?_
  try simp only [FF, List.cons_append, List.nil_append, List.append_nil]
  refine call_step c_some rfl ?_
  try simp only [FF, List.cons_append, List.nil_append, List.append_nil]
  refine call_step ki rfl ?_
  try simp only [FF, List.cons_append, List.nil_append, List.append_nil]
  refine call_step c_unit11 rfl ?_
  try simp only [FF, List.cons_append, List.nil_append, List.append_nil]
  refine call_step c_unit21 rfl ?_
  try simp only [FF, List.cons_append, List.nil_append, List.append_nil]
  refine primS (.bool true) rfl ?_
  try simp only [FF, List.cons_append, List.nil_append, List.append_nil]
  refine itT rfl ?_
  refine itT rfl ?_
  refine primS (.bool true) rfl ?_
  try simp only [FF, List.cons_append, List.nil_append, List.append_nil]
  refine itT rfl ?_
  refine itT rfl ?_
  refine call_step (cr_ofQ 3 4 (by decide) (by decide) (by decide) (by decide)) rfl ?_
  try simp only [FF, List.cons_append, List.nil_append, List.append_nil]
  refine call_step (k_is (k_of (by decide) (by decide) (by decide) (by decide)) rfl) rfl ?_
  try simp only [FF, List.cons_append, List.nil_append, List.append_nil]
  refine itT rfl ?_
  refine itT rfl ?_
  refine primS (.bool true) rfl ?_
  try simp only [FF, List.cons_append, List.nil_append, List.append_nil]
  refine itT rfl ?_
  refine call_step c_some rfl ?_
  try simp only [FF, List.cons_append, List.nil_append, List.append_nil]
  refine call_step (c_ckd (b := true) c0_ok (by simp [c0_may])) rfl ?_
  try simp only [FF, List.cons_append, List.nil_append, List.append_nil]
  refine itT rfl ?_
  refine call_step kcz rfl ?_
  try simp only [FF, List.cons_append, List.nil_append, List.append_nil]
  refine primS (.bool true) rfl ?_
  try simp only [FF, List.cons_append, List.nil_append, List.append_nil]
  exact ret_step rfl

end Go.Px.Na

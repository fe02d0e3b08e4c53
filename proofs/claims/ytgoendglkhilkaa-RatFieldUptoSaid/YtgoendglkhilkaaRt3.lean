/- Rt3: numbers: Equal, Check, Floor, Sqrt; the document's numbers. -/
import Derived.Test.YtgoendglkhilkaaRt2
set_option maxRecDepth 10000
set_option linter.unusedSimpArgs false
set_option linter.unusedVariables false
namespace Go.Px.Na
open Go.RowKit
variable {P : Program}

def CEqual (P : Program) : Prop := ∀ a b : List Nat, a.length ≤ 8796093022208 → b.length ≤ 8796093022208 → PureCalls P F.slices_Equal___uint32_uint32_ [.one (nl a), .one (nl b)] [.one (.bool (decide (a = b)))]
theorem w_equal {a b : List Nat} (ha : a.length ≤ 8796093022208) (hb : b.length ≤ 8796093022208) : IRwp P [] [nl a, nl b] ir_slices_Equal___uint32_uint32_ (· = [.one (.bool (decide (a = b)))]) := by
  unfold ir_slices_Equal___uint32_uint32_
  simp (disch := omega) only [IRwp_prim, List.map_cons, List.map_nil, Px.A.ev, List.getD_cons_zero, List.getD_cons_succ, List.cons_append, List.nil_append, List.append_nil, fa_nil, fa_one, fa_agg, fa_own, den_len, den_inb, den_get, den_slc, den_cut, den_lt0, den_sum, den_app1, den_app0, den_app, den_setl, den_make, den_mk0, den_mk1, den_mk2, d_add64, d_sub64, d_mul64, d_quo64, d_rem64, d_addu, d_subu, d_mulu, d_quo32, d_lss, d_leq, d_gtr, d_geq, d_eql, d_neq, d_shl32, d_conv32', d_conv64, d_convi, d_not, d_beqf, d_beqt, d_max, Option.isSome_some, Option.getD_some, true_and, ev_nil, Int.sub_zero, Int.toNat_zero, List.drop_zero, Int.toNat_natCast, val_limbs]
  refine ite_step rfl ?_ ?_
  · intro h
    have : a ≠ b := fun he => h (by rw [he])
    exact ret_step (by simp [Arg.ev, A.ev, this])
  · intro h
    have hl : a.length = b.length := by omega
    simp (disch := omega) only [IRwp_prim, List.map_cons, List.map_nil, Px.A.ev, List.getD_cons_zero, List.getD_cons_succ, List.cons_append, List.nil_append, List.append_nil, fa_nil, fa_one, fa_agg, fa_own, den_len, den_inb, den_get, den_slc, den_cut, den_lt0, den_sum, den_app1, den_app0, den_app, den_setl, den_make, den_mk0, den_mk1, den_mk2, d_add64, d_sub64, d_mul64, d_quo64, d_rem64, d_addu, d_subu, d_mulu, d_quo32, d_lss, d_leq, d_gtr, d_geq, d_eql, d_neq, d_shl32, d_conv32', d_conv64, d_convi, d_not, d_beqf, d_beqt, d_max, Option.isSome_some, Option.getD_some, true_and, ev_nil, Int.sub_zero, Int.toNat_zero, List.drop_zero, Int.toNat_natCast, val_limbs]
    refine loop_step (fun ds => ∃ i : Int, ds = [nl a, nl b, .int .i64 a.length, .int .i64 i] ∧ 0 ≤ i ∧ i ≤ a.length ∧ a.take i.toNat = b.take i.toNat) (numf (fun i => (a.length - i).toNat) 3) ?_ ?_ ?_
    · exact ⟨0, rfl, by omega, by omega, by simp⟩
    · rintro ds ⟨i, rfl, _⟩; rfl
    · rintro ds ⟨i, rfl, h0, h1, hv⟩
      simp (disch := omega) only [IRwp_prim, List.map_cons, List.map_nil, Px.A.ev, List.getD_cons_zero, List.getD_cons_succ, List.cons_append, List.nil_append, List.append_nil, fa_nil, fa_one, fa_agg, fa_own, den_len, den_inb, den_get, den_slc, den_cut, den_lt0, den_sum, den_app1, den_app0, den_app, den_setl, den_make, den_mk0, den_mk1, den_mk2, d_add64, d_sub64, d_mul64, d_quo64, d_rem64, d_addu, d_subu, d_mulu, d_quo32, d_lss, d_leq, d_gtr, d_geq, d_eql, d_neq, d_shl32, d_conv32', d_conv64, d_convi, d_not, d_beqf, d_beqt, d_max, Option.isSome_some, Option.getD_some, true_and, ev_nil, Int.sub_zero, Int.toNat_zero, List.drop_zero, Int.toNat_natCast, val_limbs]
      refine ite_step rfl ?_ ?_
      · intro hi
        have ea : a.getD i.toNat 0 = a[i.toNat]'(by omega) := by simp [List.getD_eq_getElem?_getD, show i.toNat < a.length by omega]
        have eb : b.getD i.toNat 0 = b[i.toNat]'(by omega) := by simp [List.getD_eq_getElem?_getD, show i.toNat < b.length by omega]
        simp (disch := omega) only [IRwp_prim, List.map_cons, List.map_nil, Px.A.ev, List.getD_cons_zero, List.getD_cons_succ, List.cons_append, List.nil_append, List.append_nil, fa_nil, fa_one, fa_agg, fa_own, den_len, den_inb, den_get, den_slc, den_cut, den_lt0, den_sum, den_app1, den_app0, den_app, den_setl, den_make, den_mk0, den_mk1, den_mk2, d_add64, d_sub64, d_mul64, d_quo64, d_rem64, d_addu, d_subu, d_mulu, d_quo32, d_lss, d_leq, d_gtr, d_geq, d_eql, d_neq, d_shl32, d_conv32', d_conv64, d_convi, d_not, d_beqf, d_beqt, d_max, Option.isSome_some, Option.getD_some, true_and, ev_nil, Int.sub_zero, Int.toNat_zero, List.drop_zero, Int.toNat_natCast, val_limbs]
        refine ite_step rfl ?_ ?_
        · intro hne
          have : a ≠ b := fun he => hne (by rw [he])
          exact ret_step (by simp [Arg.ev, A.ev, this])
        · intro hne
          simp (disch := omega) only [IRwp_prim, List.map_cons, List.map_nil, Px.A.ev, List.getD_cons_zero, List.getD_cons_succ, List.cons_append, List.nil_append, List.append_nil, fa_nil, fa_one, fa_agg, fa_own, den_len, den_inb, den_get, den_slc, den_cut, den_lt0, den_sum, den_app1, den_app0, den_app, den_setl, den_make, den_mk0, den_mk1, den_mk2, d_add64, d_sub64, d_mul64, d_quo64, d_rem64, d_addu, d_subu, d_mulu, d_quo32, d_lss, d_leq, d_gtr, d_geq, d_eql, d_neq, d_shl32, d_conv32', d_conv64, d_convi, d_not, d_beqf, d_beqt, d_max, Option.isSome_some, Option.getD_some, true_and, ev_nil, Int.sub_zero, Int.toNat_zero, List.drop_zero, Int.toNat_natCast, val_limbs]
          refine jump_step rfl ⟨⟨_, rfl, by omega, by omega, ?_⟩, ?_⟩
          · rw [show (i + 1).toNat = i.toNat + 1 by omega, List.take_succ_eq_append_getElem (by omega), List.take_succ_eq_append_getElem (by omega), hv, ← ea, ← eb, show a.getD i.toNat 0 = b.getD i.toNat 0 by omega]
          · show (a.length - (i + 1) : Int).toNat < (a.length - i : Int).toNat
            omega
      · intro hi
        rw [List.take_of_length_le (by omega), List.take_of_length_le (by omega)] at hv
        exact ret_step (by simp [Arg.ev, A.ev, hv])

/-- Are two the same, field by field? -/
def eqRR (r s : RR) : Bool := (r.neg == s.neg) && (decide (r.num = s.num) && decide (r.den = s.den))
theorem eqRR_cr (p q : Rat) : eqRR (cr p) (cr q) = decide (p = q) := by
  unfold eqRR
  by_cases h : p = q
  · subst h; simp
  · rw [decide_eq_false h]
    cases h1 : (cr p).neg == (cr q).neg
    · rfl
    · by_cases h2 : (cr p).num = (cr q).num
      · by_cases h3 : (cr p).den = (cr q).den
        · exfalso
          apply h
          apply rd_inj
          have h1 := by simpa using h1
          cases hp : cr p; cases hq : cr q
          simp only [hp, hq] at h1 h2 h3
          rw [h1, h2, h3]
        · simp [h3]
      · simp [h2]
theorem RR.ok.cr {r : RR} (h : r.ok KL) : (cr r.v).ok KL := cr_ok (h.sm (by decide))
theorem RR.ok.len {r : RR} (h : r.ok KL) : r.num.length ≤ 8796093022208 ∧ r.den.length ≤ 8796093022208 := ⟨Nat.le_trans h.2.2.1 (by decide), Nat.le_trans h.2.2.2 (by decide)⟩
def CCheck (P : Program) : Prop := ∀ r : RR, r.ok KL → PureCalls P F.rat_Check [.agg r.dv] [.one (.bool (eqRR (cr r.v) r))]
theorem w_check (c1 : CRead P) (c2 : CEqual P) {r : RR} (hr : r.ok KL) : IRwp P [] (flatAll [.agg r.dv]) ir_rat_Check (· = [.one (.bool (eqRR (cr r.v) r))]) := by
  unfold ir_rat_Check
  rw [fa_aggdv]
  refine call_step (c1 r hr) rfl ?_
  have l1 := hr.cr.len
  have l2 := hr.len
  simp only [fa_aggrd]
  have e : ∀ q, rd q = (cr q).dv := fun q => rfl
  unfold eqRR
  show IRwp P [] (RR.dv r ++ [.bool (cr r.v).neg, nl (cr r.v).num, nl (cr r.v).den]) _ _
  generalize cr r.v = s at *
  unfold RR.dv
  simp (disch := omega) only [IRwp_prim, List.map_cons, List.map_nil, Px.A.ev, List.getD_cons_zero, List.getD_cons_succ, List.cons_append, List.nil_append, List.append_nil, fa_nil, fa_one, fa_agg, fa_own, den_len, den_inb, den_get, den_slc, den_cut, den_lt0, den_sum, den_app1, den_app0, den_app, den_setl, den_make, den_mk0, den_mk1, den_mk2, d_add64, d_sub64, d_mul64, d_quo64, d_rem64, d_addu, d_subu, d_mulu, d_quo32, d_lss, d_leq, d_gtr, d_geq, d_eql, d_neq, d_shl32, d_conv32', d_conv64, d_convi, d_not, d_beqf, d_beqt, d_max, Option.isSome_some, Option.getD_some, true_and, ev_nil, Int.sub_zero, Int.toNat_zero, List.drop_zero, Int.toNat_natCast, val_limbs]
  refine itb_step rfl ?_ ?_
  · intro h1
    refine call_step (c2 _ _ l1.1 l2.1) rfl ?_
    simp (disch := omega) only [IRwp_prim, List.map_cons, List.map_nil, Px.A.ev, List.getD_cons_zero, List.getD_cons_succ, List.cons_append, List.nil_append, List.append_nil, fa_nil, fa_one, fa_agg, fa_own, den_len, den_inb, den_get, den_slc, den_cut, den_lt0, den_sum, den_app1, den_app0, den_app, den_setl, den_make, den_mk0, den_mk1, den_mk2, d_add64, d_sub64, d_mul64, d_quo64, d_rem64, d_addu, d_subu, d_mulu, d_quo32, d_lss, d_leq, d_gtr, d_geq, d_eql, d_neq, d_shl32, d_conv32', d_conv64, d_convi, d_not, d_beqf, d_beqt, d_max, Option.isSome_some, Option.getD_some, true_and, ev_nil, Int.sub_zero, Int.toNat_zero, List.drop_zero, Int.toNat_natCast, val_limbs]
    refine ite_step rfl ?_ ?_
    · intro h2
      refine call_step (c2 _ _ l1.2 l2.2) rfl ?_
      refine ret_step ?_
      rw [h1]; simp [h2, Arg.ev, A.ev, flatAll, AV.flat]
    · intro h2
      refine ret_step ?_
      rw [h1]; simp [h2, Arg.ev, A.ev]
  · intro h1
    refine ret_step ?_
    rw [h1]; rfl

/-! ### Floor -/
theorem floor_neg {q : Rat} (h : q.num < 0) : q.floor = sg true (if q.num.natAbs % q.den = 0 then q.num.natAbs / q.den else q.num.natAbs / q.den + 1) := by
  rw [Rat.floor_def]
  have hd := q.den_pos
  obtain ⟨m, hm⟩ : ∃ m : Nat, q.num = -(m : Int) := ⟨q.num.natAbs, by omega⟩
  rw [hm, Int.natAbs_neg, Int.natAbs_natCast]
  have h1 := Nat.div_add_mod m q.den
  have h2 := Nat.mod_lt m hd
  simp only [sg, if_true]
  split
  · rename_i h0
    rw [h0, Nat.add_zero] at h1
    conv => lhs; rw [← h1]
    rw [show (((q.den * (m / q.den) : Nat)) : Int) = (q.den : Int) * ((m / q.den : Nat) : Int) by simp, ← Int.mul_neg, Int.mul_ediv_cancel_left _ (by omega)]
  · rename_i h0
    generalize m / q.den = k at *
    generalize m % q.den = r at *
    generalize q.den = d at *
    rw [← h1]
    have : -((d * k + r : Nat) : Int) = ((d - r : Nat) : Int) + (d : Int) * (-((k + 1 : Nat) : Int)) := by
      rw [Int.mul_neg]
      have : (d : Int) * ((k + 1 : Nat) : Int) = ((d * k + d : Nat) : Int) := by simp [Int.mul_add]
      rw [this]; omega
    rw [this, Int.add_mul_ediv_left _ _ (by omega), Int.ediv_eq_zero_of_lt (by omega) (by omega), Int.zero_add]
theorem floor_nn {q : Rat} (h : ¬q.num < 0) : q.floor = sg false (q.num.natAbs / q.den) := by
  rw [Rat.floor_def]
  obtain ⟨m, hm⟩ : ∃ m : Nat, q.num = (m : Int) := ⟨q.num.natAbs, by omega⟩
  rw [hm]; simp [sg]
theorem mkRat_one (n : Int) : mkRat n 1 = (n : Rat) := Rat.ext (by rw [Rat.num_mkRat]; simp) (by rw [Rat.den_mkRat]; simp)
theorem Sm.floor {L : Nat} {q : Rat} (h : Sm L q) : Sm (L + 1) (q.floor : Rat) := by
  refine Sm_int ?_ (by omega)
  have h1 := h.num
  have h2 := Nat.div_le_self q.num.natAbs q.den
  rw [Nat.pow_succ]
  have hp : 0 < 4294967296 ^ L := Nat.pow_pos (by omega)
  by_cases hn : q.num < 0
  · rw [floor_neg hn, sg_natAbs]; split <;> omega
  · rw [floor_nn hn, sg_natAbs]; omega
def CFloor (P : Program) : Prop := ∀ r : RR, r.ok KL → PureCalls P F.rat_Floor [.agg r.dv] [.agg (rd (r.v.floor : Rat))]
theorem w_floor (c0 : COne P) (c1 : CRead P) (c2 : CDivMod P) (c3 : CAdd P) (c4 : CMade P) {r : RR} (hr : r.ok KL) : IRwp P [] (flatAll [.agg r.dv]) ir_rat_Floor (· = [.agg (rd (r.v.floor : Rat))]) := by
  unfold ir_rat_Floor
  rw [fa_aggdv]
  refine call_step (c1 r hr) rfl ?_
  have hs := hr.sm (by decide)
  generalize r.v = q at *
  simp only [fa_aggrd, nn]
  have hw := (cr_ok hs).wf
  have k1 := c2 (limbs q.num.natAbs) (limbs q.den) hw.1 hw.2
  rw [val_limbs, val_limbs] at k1
  unfold divRes at k1
  rw [if_neg q.den_nz] at k1
  simp (disch := omega) only [IRwp_prim, List.map_cons, List.map_nil, Px.A.ev, List.getD_cons_zero, List.getD_cons_succ, List.cons_append, List.nil_append, List.append_nil, fa_nil, fa_one, fa_agg, fa_own, den_len, den_inb, den_get, den_slc, den_cut, den_lt0, den_sum, den_app1, den_app0, den_app, den_setl, den_make, den_mk0, den_mk1, den_mk2, d_add64, d_sub64, d_mul64, d_quo64, d_rem64, d_addu, d_subu, d_mulu, d_quo32, d_lss, d_leq, d_gtr, d_geq, d_eql, d_neq, d_shl32, d_conv32', d_conv64, d_convi, d_not, d_beqf, d_beqt, d_max, Option.isSome_some, Option.getD_some, true_and, ev_nil, Int.sub_zero, Int.toNat_zero, List.drop_zero, Int.toNat_natCast, val_limbs]
  refine call_step k1 rfl ?_
  simp only [nn]
  simp (disch := omega) only [IRwp_prim, List.map_cons, List.map_nil, Px.A.ev, List.getD_cons_zero, List.getD_cons_succ, List.cons_append, List.nil_append, List.append_nil, fa_nil, fa_one, fa_agg, fa_own, den_len, den_inb, den_get, den_slc, den_cut, den_lt0, den_sum, den_app1, den_app0, den_app, den_setl, den_make, den_mk0, den_mk1, den_mk2, d_add64, d_sub64, d_mul64, d_quo64, d_rem64, d_addu, d_subu, d_mulu, d_quo32, d_lss, d_leq, d_gtr, d_geq, d_eql, d_neq, d_shl32, d_conv32', d_conv64, d_convi, d_not, d_beqf, d_beqt, d_max, Option.isSome_some, Option.getD_some, true_and, ev_nil, Int.sub_zero, Int.toNat_zero, List.drop_zero, Int.toNat_natCast, val_limbs]
  have l1 : (limbs (q.num.natAbs / q.den)).length ≤ KL := Nat.le_trans (limbs_len_mono (Nat.div_le_self _ _)) hs.1
  have w1 : WF (limbs (q.num.natAbs / q.den)) := ⟨WL_limbs _, Nat.le_trans l1 (by decide)⟩
  have wo : WF [1] := ⟨WL.single (by omega), by simp⟩
  refine ite_step rfl ?_ ?_
  · intro hneg
    simp (disch := omega) only [IRwp_prim, List.map_cons, List.map_nil, Px.A.ev, List.getD_cons_zero, List.getD_cons_succ, List.cons_append, List.nil_append, List.append_nil, fa_nil, fa_one, fa_agg, fa_own, den_len, den_inb, den_get, den_slc, den_cut, den_lt0, den_sum, den_app1, den_app0, den_app, den_setl, den_make, den_mk0, den_mk1, den_mk2, d_add64, d_sub64, d_mul64, d_quo64, d_rem64, d_addu, d_subu, d_mulu, d_quo32, d_lss, d_leq, d_gtr, d_geq, d_eql, d_neq, d_shl32, d_conv32', d_conv64, d_convi, d_not, d_beqf, d_beqt, d_max, Option.isSome_some, Option.getD_some, true_and, ev_nil, Int.sub_zero, Int.toNat_zero, List.drop_zero, Int.toNat_natCast, val_limbs]
    refine ite_step rfl ?_ ?_
    · intro hr0
      have hr0 : q.num.natAbs % q.den ≠ 0 := len_pos_iff.1 (by omega)
      refine call_step c0 rfl ?_
      simp (disch := omega) only [IRwp_prim, List.map_cons, List.map_nil, Px.A.ev, List.getD_cons_zero, List.getD_cons_succ, List.cons_append, List.nil_append, List.append_nil, fa_nil, fa_one, fa_agg, fa_own, den_len, den_inb, den_get, den_slc, den_cut, den_lt0, den_sum, den_app1, den_app0, den_app, den_setl, den_make, den_mk0, den_mk1, den_mk2, d_add64, d_sub64, d_mul64, d_quo64, d_rem64, d_addu, d_subu, d_mulu, d_quo32, d_lss, d_leq, d_gtr, d_geq, d_eql, d_neq, d_shl32, d_conv32', d_conv64, d_convi, d_not, d_beqf, d_beqt, d_max, Option.isSome_some, Option.getD_some, true_and, ev_nil, Int.sub_zero, Int.toNat_zero, List.drop_zero, Int.toNat_natCast, val_limbs]
      have k2 := c3 (limbs (q.num.natAbs / q.den)) [1] w1 wo
      rw [val_limbs, val_single] at k2
      refine call_step k2 rfl ?_
      refine call_step c0 rfl ?_
      have w2 : WF (limbs (q.num.natAbs / q.den + 1)) := by
        refine ⟨WL_limbs _, ?_⟩
        have : (limbs (q.num.natAbs / q.den + 1)).length ≤ (limbs (q.num.natAbs / q.den)).length + 1 := limbs_len (by
          have := limbs_lt_pow (q.num.natAbs / q.den)
          have hp : 0 < 4294967296 ^ (limbs (q.num.natAbs / q.den)).length := Nat.pow_pos (by omega)
          rw [Nat.pow_succ]; omega)
        have : KL ≤ 1099511627775 := by decide
        omega
      have k3 := c4 (decide (q.num < 0)) (limbs (q.num.natAbs / q.den + 1)) [1] w2 wo
      rw [val_limbs, val_single, mkRat_one, decide_eq_true hneg] at k3
      have e := floor_neg hneg
      rw [if_neg hr0] at e
      rw [← e] at k3
      rw [decide_eq_true hneg]
      refine call_step k3 rfl ?_
      exact ret_step rfl
    · intro hr0
      have hr0 : q.num.natAbs % q.den = 0 := by
        rcases Nat.eq_zero_or_pos (q.num.natAbs % q.den) with h | h
        · exact h
        · have := limbs_len_pos (n := q.num.natAbs % q.den) (by omega); omega
      refine call_step c0 rfl ?_
      simp (disch := omega) only [IRwp_prim, List.map_cons, List.map_nil, Px.A.ev, List.getD_cons_zero, List.getD_cons_succ, List.cons_append, List.nil_append, List.append_nil, fa_nil, fa_one, fa_agg, fa_own, den_len, den_inb, den_get, den_slc, den_cut, den_lt0, den_sum, den_app1, den_app0, den_app, den_setl, den_make, den_mk0, den_mk1, den_mk2, d_add64, d_sub64, d_mul64, d_quo64, d_rem64, d_addu, d_subu, d_mulu, d_quo32, d_lss, d_leq, d_gtr, d_geq, d_eql, d_neq, d_shl32, d_conv32', d_conv64, d_convi, d_not, d_beqf, d_beqt, d_max, Option.isSome_some, Option.getD_some, true_and, ev_nil, Int.sub_zero, Int.toNat_zero, List.drop_zero, Int.toNat_natCast, val_limbs]
      have k3 := c4 (decide (q.num < 0)) (limbs (q.num.natAbs / q.den)) [1] w1 wo
      rw [val_limbs, val_single, mkRat_one, decide_eq_true hneg] at k3
      have e := floor_neg hneg
      rw [if_pos hr0] at e
      rw [← e] at k3
      rw [decide_eq_true hneg]
      refine call_step k3 rfl ?_
      exact ret_step rfl
  · intro hneg
    refine call_step c0 rfl ?_
    simp (disch := omega) only [IRwp_prim, List.map_cons, List.map_nil, Px.A.ev, List.getD_cons_zero, List.getD_cons_succ, List.cons_append, List.nil_append, List.append_nil, fa_nil, fa_one, fa_agg, fa_own, den_len, den_inb, den_get, den_slc, den_cut, den_lt0, den_sum, den_app1, den_app0, den_app, den_setl, den_make, den_mk0, den_mk1, den_mk2, d_add64, d_sub64, d_mul64, d_quo64, d_rem64, d_addu, d_subu, d_mulu, d_quo32, d_lss, d_leq, d_gtr, d_geq, d_eql, d_neq, d_shl32, d_conv32', d_conv64, d_convi, d_not, d_beqf, d_beqt, d_max, Option.isSome_some, Option.getD_some, true_and, ev_nil, Int.sub_zero, Int.toNat_zero, List.drop_zero, Int.toNat_natCast, val_limbs]
    have k3 := c4 (decide (q.num < 0)) (limbs (q.num.natAbs / q.den)) [1] w1 wo
    rw [val_limbs, val_single, mkRat_one, decide_eq_false hneg, ← floor_nn hneg] at k3
    rw [decide_eq_false hneg]
    refine call_step k3 rfl ?_
    exact ret_step rfl

/-! ### Sqrt -/
def sqQ (q : Rat) : List AV := if isq q.num.natAbs * isq q.num.natAbs = q.num.natAbs ∧ isq q.den * isq q.den = q.den ∧ ¬q.num < 0 then [.agg (rd (mkRat (isq q.num.natAbs) (isq q.den))), .one (.bool true)] else [.agg (rd 0), .one (.bool false)]
def CSqrtQ (P : Program) : Prop := ∀ r : RR, r.ok 4095 → PureCalls P F.rat_Sqrt [.agg r.dv] (sqQ r.v)
theorem isq_le (n : Nat) : isq n ≤ n := by
  obtain ⟨h, _⟩ := isq_spec n
  rcases Nat.eq_zero_or_pos (isq n) with h0 | h0
  · omega
  · have := Nat.mul_le_mul_left (isq n) (show 1 ≤ isq n from h0); omega
theorem w_sqrtQ (c0 : COne P) (c1 : CRead P) (c2 : CSqrt P) (c3 : CMade P) {r : RR} (hr : r.ok 4095) : IRwp P [] (flatAll [.agg r.dv]) ir_rat_Sqrt (· = sqQ r.v) := by
  unfold ir_rat_Sqrt
  rw [fa_aggdv]
  refine call_step (c1 r (hr.mono (by decide))) rfl ?_
  have hs : Sm 4095 r.v := hr.sm (by decide)
  generalize r.v = q at *
  simp only [fa_aggrd, nn]
  have bits : ∀ n : Nat, (limbs n).length ≤ 4095 → nbits n ≤ 131071 := fun n h => by
    obtain ⟨L, hL⟩ : ∃ L : Nat, L = 4095 := ⟨4095, rfl⟩
    rw [← hL] at h
    have h1 := len_le_iff.1 h
    have h2 : n < 2 ^ (32 * L) := by rw [Nat.pow_mul]; exact h1
    have := nbits_le h2
    omega
  have wf : ∀ n : Nat, (limbs n).length ≤ 4095 → WF (limbs n) := fun n h => ⟨WL_limbs n, by omega⟩
  have k1 := c2 (limbs q.num.natAbs) (wf _ hs.1) (by rw [val_limbs]; exact bits _ hs.1)
  have k2 := c2 (limbs q.den) (wf _ hs.2) (by rw [val_limbs]; exact bits _ hs.2)
  rw [val_limbs] at k1 k2
  unfold sqrtRes at k1 k2
  simp (disch := omega) only [IRwp_prim, List.map_cons, List.map_nil, Px.A.ev, List.getD_cons_zero, List.getD_cons_succ, List.cons_append, List.nil_append, List.append_nil, fa_nil, fa_one, fa_agg, fa_own, den_len, den_inb, den_get, den_slc, den_cut, den_lt0, den_sum, den_app1, den_app0, den_app, den_setl, den_make, den_mk0, den_mk1, den_mk2, d_add64, d_sub64, d_mul64, d_quo64, d_rem64, d_addu, d_subu, d_mulu, d_quo32, d_lss, d_leq, d_gtr, d_geq, d_eql, d_neq, d_shl32, d_conv32', d_conv64, d_convi, d_not, d_beqf, d_beqt, d_max, Option.isSome_some, Option.getD_some, true_and, ev_nil, Int.sub_zero, Int.toNat_zero, List.drop_zero, Int.toNat_natCast, val_limbs]
  refine call_step k1 rfl ?_
  refine call_step k2 rfl ?_
  simp (disch := omega) only [IRwp_prim, List.map_cons, List.map_nil, Px.A.ev, List.getD_cons_zero, List.getD_cons_succ, List.cons_append, List.nil_append, List.append_nil, fa_nil, fa_one, fa_agg, fa_own, den_len, den_inb, den_get, den_slc, den_cut, den_lt0, den_sum, den_app1, den_app0, den_app, den_setl, den_make, den_mk0, den_mk1, den_mk2, d_add64, d_sub64, d_mul64, d_quo64, d_rem64, d_addu, d_subu, d_mulu, d_quo32, d_lss, d_leq, d_gtr, d_geq, d_eql, d_neq, d_shl32, d_conv32', d_conv64, d_convi, d_not, d_beqf, d_beqt, d_max, Option.isSome_some, Option.getD_some, true_and, ev_nil, Int.sub_zero, Int.toNat_zero, List.drop_zero, Int.toNat_natCast, val_limbs]
  unfold sqQ
  have bad : rd 0 = [.bool false, nl [], nl [1]] := rd_zero
  refine itb_step rfl ?_ ?_
  · intro h
    have h : ¬(isq q.num.natAbs * isq q.num.natAbs = q.num.natAbs) := by simpa using h
    rw [if_neg (by simp [h])]
    refine call_step c0 rfl ?_
    refine ret_step ?_
    rw [bad]; rfl
  · intro h
    have h1 : isq q.num.natAbs * isq q.num.natAbs = q.num.natAbs := by simpa using h
    simp (disch := omega) only [IRwp_prim, List.map_cons, List.map_nil, Px.A.ev, List.getD_cons_zero, List.getD_cons_succ, List.cons_append, List.nil_append, List.append_nil, fa_nil, fa_one, fa_agg, fa_own, den_len, den_inb, den_get, den_slc, den_cut, den_lt0, den_sum, den_app1, den_app0, den_app, den_setl, den_make, den_mk0, den_mk1, den_mk2, d_add64, d_sub64, d_mul64, d_quo64, d_rem64, d_addu, d_subu, d_mulu, d_quo32, d_lss, d_leq, d_gtr, d_geq, d_eql, d_neq, d_shl32, d_conv32', d_conv64, d_convi, d_not, d_beqf, d_beqt, d_max, Option.isSome_some, Option.getD_some, true_and, ev_nil, Int.sub_zero, Int.toNat_zero, List.drop_zero, Int.toNat_natCast, val_limbs]
    refine itb_step rfl ?_ ?_
    · intro h
      have h : ¬(isq q.den * isq q.den = q.den) := by simpa using h
      rw [if_neg (by simp [h])]
      refine call_step c0 rfl ?_
      refine ret_step ?_
      rw [bad]; rfl
    · intro h
      have h2 : isq q.den * isq q.den = q.den := by simpa using h
      refine ite_step rfl ?_ ?_
      · intro h
        rw [if_neg (by simp [h])]
        refine call_step c0 rfl ?_
        refine ret_step ?_
        rw [bad]; rfl
      · intro h3
        rw [if_pos ⟨h1, h2, h3⟩]
        have k3 := c3 false (limbs (isq q.num.natAbs)) (limbs (isq q.den)) (wf _ (Nat.le_trans (limbs_len_mono (isq_le _)) hs.1)) (wf _ (Nat.le_trans (limbs_len_mono (isq_le _)) hs.2))
        rw [val_limbs, val_limbs] at k3
        refine call_step k3 rfl ?_
        exact ret_step rfl

end Go.Px.Na

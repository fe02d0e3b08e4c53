/- Wn2b: naturals: Sub. -/
import Derived.Test.YtgoendglkhilkaaWn2
set_option linter.unusedSimpArgs false
set_option linter.unusedVariables false
namespace Go.Px.Na
open Go.RowKit
variable {P : Program}

def CSub (P : Program) : Prop := ∀ a b, WF a → WF b → PureCalls P F.nat_Sub [.one (nl a), .one (nl b)] (if val a < val b then [.one (nl []), .one (.bool false)] else [.one (nn (val a - val b)), .one (.bool true)])
theorem w_sub (c1 : CTrim P) (c2 : CSub32 P) (c3 : CCmp P) {a b : List Nat} (ha : WF a) (hb : WF b) : IRwp P [] [nl a, nl b] ir_nat_Sub (· = if val a < val b then [.one (nl []), .one (.bool false)] else [.one (nn (val a - val b)), .one (.bool true)]) := by
  unfold ir_nat_Sub
  refine call_step (c3 a b ha hb) rfl ?_
  obtain ⟨ha, hla⟩ := ha
  obtain ⟨hb, hlb⟩ := hb
  simp (disch := omega) only [IRwp_prim, List.map_cons, List.map_nil, Px.A.ev, List.getD_cons_zero, List.getD_cons_succ, List.cons_append, List.nil_append, List.append_nil, fa_nil, fa_one, fa_agg, fa_own, den_len, den_inb, den_get, den_slc, den_cut, den_lt0, den_sum, den_app1, den_app0, den_app, den_setl, den_make, den_mk0, den_mk1, den_mk2, d_add64, d_sub64, d_mul64, d_quo64, d_rem64, d_addu, d_subu, d_mulu, d_quo32, d_lss, d_leq, d_gtr, d_geq, d_eql, d_neq, d_shl32, d_conv32', d_conv64, d_convi, d_not, d_beqf, d_beqt, d_max, Option.isSome_some, Option.getD_some, true_and, ev_nil, Int.sub_zero, Int.toNat_zero, List.drop_zero, Int.toNat_natCast, val_limbs]
  refine ite_step rfl ?_ ?_
  · intro h
    have : val a < val b := by unfold cmpI at h; split at h <;> first | assumption | (split at h <;> omega)
    rw [if_pos this]
    exact ret_step rfl
  · intro h
    have hge : val b ≤ val a := by unfold cmpI at h; split at h <;> omega
    rw [if_neg (by omega)]
    refine call_step (c1 a ha (by omega)) rfl ?_
    refine call_step (c1 b hb (by omega)) rfl ?_
    have l1 := limbs_len_le ha
    have l2 := limbs_len_le hb
    have l3 := limbs_len_mono hge
    have wa := WL_limbs (val a)
    have wb := WL_limbs (val b)
    have va := val_limbs (val a)
    have vb := val_limbs (val b)
    simp only [nn]
    generalize limbs (val a) = A at *
    generalize limbs (val b) = B at *
    simp (disch := omega) only [IRwp_prim, List.map_cons, List.map_nil, Px.A.ev, List.getD_cons_zero, List.getD_cons_succ, List.cons_append, List.nil_append, List.append_nil, fa_nil, fa_one, fa_agg, fa_own, den_len, den_inb, den_get, den_slc, den_cut, den_lt0, den_sum, den_app1, den_app0, den_app, den_setl, den_make, den_mk0, den_mk1, den_mk2, d_add64, d_sub64, d_mul64, d_quo64, d_rem64, d_addu, d_subu, d_mulu, d_quo32, d_lss, d_leq, d_gtr, d_geq, d_eql, d_neq, d_shl32, d_conv32', d_conv64, d_convi, d_not, d_beqf, d_beqt, d_max, Option.isSome_some, Option.getD_some, true_and, ev_nil, Int.sub_zero, Int.toNat_zero, List.drop_zero, Int.toNat_natCast, val_limbs]
    refine loop_step (fun ds => ∃ (i : Int) (c : Nat) (out : List Nat), ds = [nl B, .int .u32 c, nl A, .int .i64 A.length, .int .i64 i, nl out] ∧ 0 ≤ i ∧ i ≤ A.length ∧ c ≤ 1 ∧ WL out ∧ out.length = i.toNat ∧
      val (A.take i.toNat) + 4294967296 ^ i.toNat * c = val out + val (B.take i.toNat)) (numf (fun i => (A.length - i).toNat) 4) ?_ ?_ ?_
    · exact ⟨0, 0, [], rfl, by omega, by omega, by omega, WL.nil, rfl, by simp [val]⟩
    · rintro ds ⟨i, c, out, rfl, _⟩; rfl
    · rintro ds ⟨i, c, out, rfl, h0, h1, hc, hw, hlo, hv⟩
      simp (disch := omega) only [IRwp_prim, List.map_cons, List.map_nil, Px.A.ev, List.getD_cons_zero, List.getD_cons_succ, List.cons_append, List.nil_append, List.append_nil, fa_nil, fa_one, fa_agg, fa_own, den_len, den_inb, den_get, den_slc, den_cut, den_lt0, den_sum, den_app1, den_app0, den_app, den_setl, den_make, den_mk0, den_mk1, den_mk2, d_add64, d_sub64, d_mul64, d_quo64, d_rem64, d_addu, d_subu, d_mulu, d_quo32, d_lss, d_leq, d_gtr, d_geq, d_eql, d_neq, d_shl32, d_conv32', d_conv64, d_convi, d_not, d_beqf, d_beqt, d_max, Option.isSome_some, Option.getD_some, true_and, ev_nil, Int.sub_zero, Int.toNat_zero, List.drop_zero, Int.toNat_natCast, val_limbs]
      refine ite_step rfl ?_ ?_
      · intro hi
        have step : ∀ y : Nat, y = B.getD i.toNat 0 → (∃ (i' : Int) (c' : Nat) (out' : List Nat), [nl B, DV.int .u32 ((if A.getD i.toNat 0 < y + c then 1 else 0 : Nat) : Int), nl A, .int .i64 A.length, .int .i64 (i + 1), nl (out ++ [(A.getD i.toNat 0 + 8589934592 - y - c) % 4294967296])] = [nl B, .int .u32 c', nl A, .int .i64 A.length, .int .i64 i', nl out'] ∧ 0 ≤ i' ∧ i' ≤ A.length ∧ c' ≤ 1 ∧ WL out' ∧ out'.length = i'.toNat ∧
            val (A.take i'.toNat) + 4294967296 ^ i'.toNat * c' = val out' + val (B.take i'.toNat)) ∧ (A.length - (i + 1)).toNat < (A.length - i).toNat := by
          intro y hy
          have g1 := wa.getD i.toNat
          have g2 := wb.getD i.toNat
          refine ⟨⟨_, _, _, rfl, by omega, by omega, by split <;> omega, hw.append (WL.single (by omega)), by simp [hlo]; omega, ?_⟩, by omega⟩
          rw [show (i + 1).toNat = i.toNat + 1 by omega, val_take_getD, val_take_getD, val_snoc, hlo, Nat.pow_succ, ← hy]
          exact borrow_step g1 (by omega) hc hv
        simp (disch := omega) only [IRwp_prim, List.map_cons, List.map_nil, Px.A.ev, List.getD_cons_zero, List.getD_cons_succ, List.cons_append, List.nil_append, List.append_nil, fa_nil, fa_one, fa_agg, fa_own, den_len, den_inb, den_get, den_slc, den_cut, den_lt0, den_sum, den_app1, den_app0, den_app, den_setl, den_make, den_mk0, den_mk1, den_mk2, d_add64, d_sub64, d_mul64, d_quo64, d_rem64, d_addu, d_subu, d_mulu, d_quo32, d_lss, d_leq, d_gtr, d_geq, d_eql, d_neq, d_shl32, d_conv32', d_conv64, d_convi, d_not, d_beqf, d_beqt, d_max, Option.isSome_some, Option.getD_some, true_and, ev_nil, Int.sub_zero, Int.toNat_zero, List.drop_zero, Int.toNat_natCast, val_limbs]
        refine ite_step rfl ?_ ?_
        · intro hj
          simp (disch := omega) only [IRwp_prim, List.map_cons, List.map_nil, Px.A.ev, List.getD_cons_zero, List.getD_cons_succ, List.cons_append, List.nil_append, List.append_nil, fa_nil, fa_one, fa_agg, fa_own, den_len, den_inb, den_get, den_slc, den_cut, den_lt0, den_sum, den_app1, den_app0, den_app, den_setl, den_make, den_mk0, den_mk1, den_mk2, d_add64, d_sub64, d_mul64, d_quo64, d_rem64, d_addu, d_subu, d_mulu, d_quo32, d_lss, d_leq, d_gtr, d_geq, d_eql, d_neq, d_shl32, d_conv32', d_conv64, d_convi, d_not, d_beqf, d_beqt, d_max, Option.isSome_some, Option.getD_some, true_and, ev_nil, Int.sub_zero, Int.toNat_zero, List.drop_zero, Int.toNat_natCast, val_limbs]
          refine call_step (c2 _ _ _ (wa.getD _) (wb.getD _) hc) rfl ?_
          simp (disch := omega) only [IRwp_prim, List.map_cons, List.map_nil, Px.A.ev, List.getD_cons_zero, List.getD_cons_succ, List.cons_append, List.nil_append, List.append_nil, fa_nil, fa_one, fa_agg, fa_own, den_len, den_inb, den_get, den_slc, den_cut, den_lt0, den_sum, den_app1, den_app0, den_app, den_setl, den_make, den_mk0, den_mk1, den_mk2, d_add64, d_sub64, d_mul64, d_quo64, d_rem64, d_addu, d_subu, d_mulu, d_quo32, d_lss, d_leq, d_gtr, d_geq, d_eql, d_neq, d_shl32, d_conv32', d_conv64, d_convi, d_not, d_beqf, d_beqt, d_max, Option.isSome_some, Option.getD_some, true_and, ev_nil, Int.sub_zero, Int.toNat_zero, List.drop_zero, Int.toNat_natCast, val_limbs]
          exact jump_step rfl (step _ rfl)
        · intro hj
          refine call_step (c2 _ 0 _ (wa.getD _) (by omega) hc) rfl ?_
          simp (disch := omega) only [IRwp_prim, List.map_cons, List.map_nil, Px.A.ev, List.getD_cons_zero, List.getD_cons_succ, List.cons_append, List.nil_append, List.append_nil, fa_nil, fa_one, fa_agg, fa_own, den_len, den_inb, den_get, den_slc, den_cut, den_lt0, den_sum, den_app1, den_app0, den_app, den_setl, den_make, den_mk0, den_mk1, den_mk2, d_add64, d_sub64, d_mul64, d_quo64, d_rem64, d_addu, d_subu, d_mulu, d_quo32, d_lss, d_leq, d_gtr, d_geq, d_eql, d_neq, d_shl32, d_conv32', d_conv64, d_convi, d_not, d_beqf, d_beqt, d_max, Option.isSome_some, Option.getD_some, true_and, ev_nil, Int.sub_zero, Int.toNat_zero, List.drop_zero, Int.toNat_natCast, val_limbs]
          refine jump_step rfl (step 0 ?_)
          simp [List.getD_eq_getElem?_getD, List.getElem?_eq_none (show B.length ≤ i.toNat by omega)]
      · intro hi
        refine call_step (c1 out hw (by omega)) rfl ?_
        refine ret_step ?_
        show [AV.one (nn (val out)), AV.one (.bool true)] = _
        rw [val_take_all (by omega), val_take_all (by omega), va, vb] at hv
        have h4 := val_lt hw
        rw [hlo] at h4
        have : c = 0 ∨ c = 1 := by omega
        rcases this with rfl | rfl
        · rw [show val out = val a - val b by omega]; rfl
        · exfalso; omega

end Go.Px.Na

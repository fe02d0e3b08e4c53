/- QWarpFolds: whatever the numbers, the law tells true. -/
import Derived.Test.YtadaibgdeojlmaaXWarpFolds
set_option maxRecDepth 20000
set_option maxHeartbeats 40000000
set_option linter.unusedVariables false
set_option linter.unusedSimpArgs false
namespace Go.Px.Na
open Go.RowKit
open Go.Proofs.Try (prog)

theorem WarpFolds_al14 {Z0 Z1 : Rat} (Y0 : Z0 = (0 : Rat)) (Y1 : Z1 = (1 : Rat)) {q12 q8 x0 q9 x1 q6 : Rat} (e8 : q8 = (Z1 - x0)) (e9 : q9 = (Z1 - x1)) (e12 : q12 = (q8 + q9)) (e6 : q6 = (x0 + x1)) (c1 : ¬x0 < Z0) (c3 : ¬Z1 < x0) (c4 : ¬x1 < Z0) (c5 : ¬Z1 < x1) (c7 : Z1 < q6) : ¬(Z1 < q12) := by
  subst Y0 Y1 e8 e9 e12 e6
  grind

theorem WarpFolds_al18 {Z0 Z1 : Rat} (Y0 : Z0 = (0 : Rat)) (Y1 : Z1 = (1 : Rat)) {q8 x0 x1 q6 q12 q9 : Rat} (e8 : q8 = (Z1 - x0)) (e6 : q6 = (x0 + x1)) (e9 : q9 = (Z1 - x1)) (e12 : q12 = (q8 + q9)) (c1 : ¬x0 < Z0) (c3 : ¬Z1 < x0) (c4 : ¬x1 < Z0) (c5 : ¬Z1 < x1) (c7 : Z1 < q6) (c13 : ¬Z1 < q12) : ¬(q8 < Z0) := by
  subst Y0 Y1 e8 e6 e9 e12
  grind

theorem WarpFolds_al20 {Z0 Z1 : Rat} (Y0 : Z0 = (0 : Rat)) (Y1 : Z1 = (1 : Rat)) {q9 x1 x0 q6 q12 q8 : Rat} (e9 : q9 = (Z1 - x1)) (e6 : q6 = (x0 + x1)) (e8 : q8 = (Z1 - x0)) (e12 : q12 = (q8 + q9)) (c1 : ¬x0 < Z0) (c3 : ¬Z1 < x0) (c4 : ¬x1 < Z0) (c5 : ¬Z1 < x1) (c7 : Z1 < q6) (c13 : ¬Z1 < q12) (c17 : ¬q8 < Z0) : ¬(q9 < Z0) := by
  subst Y0 Y1 e9 e6 e8 e12
  grind

theorem WarpFolds_al32 {Z1 : Rat} (Y1 : Z1 = (1 : Rat)) {x0 q25 : Rat} (e25 : q25 = (Z1 - x0)) : x0 = (Z1 - q25) := by
  subst Y1 e25
  grind

theorem WarpFolds_al34 {Z1 : Rat} (Y1 : Z1 = (1 : Rat)) {x1 q26 : Rat} (e26 : q26 = (Z1 - x1)) : x1 = (Z1 - q26) := by
  subst Y1 e26
  grind

theorem WarpFolds_al38 {Z0 Z1 : Rat} (Y0 : Z0 = (0 : Rat)) (Y1 : Z1 = (1 : Rat)) {q6 x0 x1 q29 q25 q26 : Rat} (e6 : q6 = (x0 + x1)) (e25 : q25 = (Z1 - x0)) (e26 : q26 = (Z1 - x1)) (e29 : q29 = (q25 + q26)) (c1 : ¬x0 < Z0) (c3 : ¬Z1 < x0) (c4 : ¬x1 < Z0) (c5 : ¬Z1 < x1) (c7 : ¬Z1 < q6) (c30 : Z1 < q29) : ¬(q6 = Z1) := by
  subst Y0 Y1 e6 e25 e26 e29
  grind

theorem WarpFolds_al43 {Z0 Z1 : Rat} (Y0 : Z0 = (0 : Rat)) (Y1 : Z1 = (1 : Rat)) {q6 x0 x1 q29 q25 q26 : Rat} (e6 : q6 = (x0 + x1)) (e25 : q25 = (Z1 - x0)) (e26 : q26 = (Z1 - x1)) (e29 : q29 = (q25 + q26)) (c1 : ¬x0 < Z0) (c3 : ¬Z1 < x0) (c4 : ¬x1 < Z0) (c5 : ¬Z1 < x1) (c7 : ¬Z1 < q6) (c30 : ¬Z1 < q29) : (q6 = Z1) := by
  subst Y0 Y1 e6 e25 e26 e29
  grind

theorem pure_WarpFolds {r0 r1 : RR} (g0 : r0.ok 1048576) (g1 : r1.ok 1048576) : PureCalls prog F.penumbralaw14_WarpFolds [.agg ([.bool r0.neg, nl r0.num, nl r0.den]), .agg ([.bool r1.neg, nl r1.num, nl r1.den])] [.one (.bool true)] := by
  obtain ⟨Z0, Y0⟩ := ex_eq (0 : Rat)
  obtain ⟨Z1, Y1⟩ := ex_eq (1 : Rat)
  obtain ⟨x0, h0⟩ := Num.raw g0 (by decide)
  obtain ⟨x1, h1⟩ := Num.raw g1 (by decide)
  refine symFunc_sound hmix tree_penumbralaw14_WarpFolds (by kernel_rfl) rfl ?_
  unfold ir_penumbralaw14_WarpFolds
  simp only [fa_agg, fa_one, fa_nil, List.cons_append, List.nil_append, List.append_nil]
  refine call_step (n_rat_Of (1) (1) (by decide) (by decide) (by decide) (by decide) (Y1.trans (by decide +kernel))) rfl ?_
  simp only [fa_agg, fa_one, fa_nil, List.cons_append, List.nil_append, List.append_nil]
  refine call_step (n_rat_Sign (h0.mono (by decide))) rfl ?_
  simp only [fa_agg, fa_one, fa_nil, List.cons_append, List.nil_append, List.append_nil]
  by_cases c1 : x0 < Z0
  · skip
    refine primS (.bool false) (cs_geq_f ((sg_lt Y0).2 c1)) ?_
    refine itF rfl ?_
    refine call_step n_penumbralaw14_fixed rfl ?_
    simp only [fa_agg, fa_one, fa_nil, List.cons_append, List.nil_append, List.append_nil]
    refine primS (.bool false) rfl ?_
    refine itF rfl ?_
    refine call_step n_penumbralaw14_fixed rfl ?_
    simp only [fa_agg, fa_one, fa_nil, List.cons_append, List.nil_append, List.append_nil]
    exact ret_step rfl
  · skip
    refine primS (.bool true) (cs_geq_t (fun z => c1 ((sg_lt Y0).1 z))) ?_
    refine itT rfl ?_
    have m2 : Num 1 (cr Z1) Z1 := Num.c Y1 (by decide +kernel) (by decide +kernel)
    refine call_step (n_rat_Cmp (h0.mono (by decide)) (m2.mono (by decide))) rfl ?_
    simp only [fa_agg, fa_one, fa_nil, List.cons_append, List.nil_append, List.append_nil]
    by_cases c3 : Z1 < x0
    · skip
      refine primS (.bool false) (cs_leq_f (cq_gt.2 c3)) ?_
      refine itF rfl ?_
      refine call_step n_penumbralaw14_fixed rfl ?_
      simp only [fa_agg, fa_one, fa_nil, List.cons_append, List.nil_append, List.append_nil]
      refine primS (.bool false) rfl ?_
      refine itF rfl ?_
      refine call_step n_penumbralaw14_fixed rfl ?_
      simp only [fa_agg, fa_one, fa_nil, List.cons_append, List.nil_append, List.append_nil]
      exact ret_step rfl
    · skip
      refine primS (.bool true) (cs_leq_t (fun z => c3 (cq_gt.1 z))) ?_
      refine itT rfl ?_
      refine call_step (n_rat_Sign (h1.mono (by decide))) rfl ?_
      simp only [fa_agg, fa_one, fa_nil, List.cons_append, List.nil_append, List.append_nil]
      by_cases c4 : x1 < Z0
      · skip
        refine primS (.bool false) (cs_geq_f ((sg_lt Y0).2 c4)) ?_
        refine itF rfl ?_
        refine call_step n_penumbralaw14_fixed rfl ?_
        simp only [fa_agg, fa_one, fa_nil, List.cons_append, List.nil_append, List.append_nil]
        refine primS (.bool false) rfl ?_
        refine itF rfl ?_
        refine call_step n_penumbralaw14_fixed rfl ?_
        simp only [fa_agg, fa_one, fa_nil, List.cons_append, List.nil_append, List.append_nil]
        exact ret_step rfl
      · skip
        refine primS (.bool true) (cs_geq_t (fun z => c4 ((sg_lt Y0).1 z))) ?_
        refine itT rfl ?_
        refine call_step (n_rat_Cmp (h1.mono (by decide)) (m2.mono (by decide))) rfl ?_
        simp only [fa_agg, fa_one, fa_nil, List.cons_append, List.nil_append, List.append_nil]
        by_cases c5 : Z1 < x1
        · skip
          refine primS (.bool false) (cs_leq_f (cq_gt.2 c5)) ?_
          refine call_step n_penumbralaw14_fixed rfl ?_
          simp only [fa_agg, fa_one, fa_nil, List.cons_append, List.nil_append, List.append_nil]
          refine primS (.bool false) rfl ?_
          refine itF rfl ?_
          refine primS (.bool true) rfl ?_
          refine itT rfl ?_
          refine call_step n_penumbralaw14_fixed rfl ?_
          simp only [fa_agg, fa_one, fa_nil, List.cons_append, List.nil_append, List.append_nil]
          exact ret_step rfl
        · skip
          refine primS (.bool true) (cs_leq_t (fun z => c5 (cq_gt.1 z))) ?_
          refine call_step n_penumbralaw14_fixed rfl ?_
          simp only [fa_agg, fa_one, fa_nil, List.cons_append, List.nil_append, List.append_nil]
          refine primS (.bool false) rfl ?_
          refine itF rfl ?_
          refine primS (.bool false) rfl ?_
          refine itF rfl ?_
          obtain ⟨q6, e6⟩ := ex_eq (x0 + x1)
          by_cases c7 : Z1 < q6
          · skip
            obtain ⟨q8, e8⟩ := ex_eq (Z1 - x0)
            obtain ⟨q9, e9⟩ := ex_eq (Z1 - x1)
            refine call_step (n_warp_Fold_0 (k0 := q6) (k1 := q8) (k2 := q9) Y1 (h0.mono (by decide)) (h1.mono (by decide)) e6 e8 e9 c7) rfl ?_
            simp only [fa_agg, fa_one, fa_nil, List.cons_append, List.nil_append, List.append_nil]
            have m10 : Num 1048578 (cr q8) q8 := Num.eqn e8 (Sm.sub m2.sm h0.sm)
            have m11 : Num 1048578 (cr q9) q9 := Num.eqn e9 (Sm.sub m2.sm h1.sm)
            obtain ⟨q12, e12⟩ := ex_eq (q8 + q9)
            have c13 : ¬(Z1 < q12) := (WarpFolds_al14 Y0 Y1 e8 e9 e12 e6 c1 c3 c4 c5 c7)
            refine call_step (n_warp_Fold_1 (k0 := q12) Y1 (m10.mono (by decide)) (m11.mono (by decide)) e12 c13) rfl ?_
            simp only [fa_agg, fa_one, fa_nil, List.cons_append, List.nil_append, List.append_nil]
            refine call_step (n_rat_Sub (k0 := q8) (m2.mono (by decide)) (h0.mono (by decide)) e8) rfl ?_
            simp only [fa_agg, fa_one, fa_nil, List.cons_append, List.nil_append, List.append_nil]
            refine call_step (n_rat_Sub (k0 := q9) (m2.mono (by decide)) (h1.mono (by decide)) e9) rfl ?_
            simp only [fa_agg, fa_one, fa_nil, List.cons_append, List.nil_append, List.append_nil]
            refine call_step (n_warp_Fold_1 (k0 := q12) Y1 (m10.mono (by decide)) (m11.mono (by decide)) e12 c13) rfl ?_
            simp only [fa_agg, fa_one, fa_nil, List.cons_append, List.nil_append, List.append_nil]
            refine primS (rl [r0, r1]) rfl ?_
            refine call_step (n_rat_Sum_2 (k0 := q6) (h0.mono (by decide)) (h1.mono (by decide)) e6) rfl ?_
            simp only [fa_agg, fa_one, fa_nil, List.cons_append, List.nil_append, List.append_nil]
            have m16 : Num 2097153 (cr q6) q6 := Num.eqn e6 (Sm.add h0.sm h1.sm)
            refine call_step (n_rat_Same_f (m16.mono (by decide)) (m2.mono (by decide)) (fun z => Rat.ne_of_lt c7 z.symm)) rfl ?_
            simp only [fa_agg, fa_one, fa_nil, List.cons_append, List.nil_append, List.append_nil]
            refine call_step (n_rat_Sign (m10.mono (by decide))) rfl ?_
            simp only [fa_agg, fa_one, fa_nil, List.cons_append, List.nil_append, List.append_nil]
            have c17 : ¬(q8 < Z0) := (WarpFolds_al18 Y0 Y1 e8 e6 e9 e12 c1 c3 c4 c5 c7 c13)
            refine primS (.bool true) (cs_geq_t (fun z => c17 ((sg_lt Y0).1 z))) ?_
            refine itT rfl ?_
            refine call_step (n_rat_Sign (m11.mono (by decide))) rfl ?_
            simp only [fa_agg, fa_one, fa_nil, List.cons_append, List.nil_append, List.append_nil]
            have c19 : ¬(q9 < Z0) := (WarpFolds_al20 Y0 Y1 e9 e6 e8 e12 c1 c3 c4 c5 c7 c13 c17)
            refine primS (.bool true) (cs_geq_t (fun z => c19 ((sg_lt Y0).1 z))) ?_
            refine itT rfl ?_
            refine primS (rl [(cr q8), (cr q9)]) rfl ?_
            refine call_step (n_rat_Sum_2 (k0 := q12) (m10.mono (by decide)) (m11.mono (by decide)) e12) rfl ?_
            simp only [fa_agg, fa_one, fa_nil, List.cons_append, List.nil_append, List.append_nil]
            have m22 : Num 2097157 (cr q12) q12 := Num.eqn e12 (Sm.add m10.sm m11.sm)
            refine call_step (n_rat_Cmp (m22.mono (by decide)) (m2.mono (by decide))) rfl ?_
            simp only [fa_agg, fa_one, fa_nil, List.cons_append, List.nil_append, List.append_nil]
            refine primS (.bool true) (cs_leq_t (fun z => c13 (cq_gt.1 z))) ?_
            refine itT rfl ?_
            refine call_step (n_penumbraref03_Is_t (m10.mono (by decide)) (m10.mono (by decide)) rfl) rfl ?_
            simp only [fa_agg, fa_one, fa_nil, List.cons_append, List.nil_append, List.append_nil]
            refine itT rfl ?_
            refine call_step (n_penumbraref03_Is_t (m11.mono (by decide)) (m11.mono (by decide)) rfl) rfl ?_
            simp only [fa_agg, fa_one, fa_nil, List.cons_append, List.nil_append, List.append_nil]
            refine itT rfl ?_
            refine itF rfl ?_
            refine call_step (n_penumbraref03_Is_t (m10.mono (by decide)) (m10.mono (by decide)) rfl) rfl ?_
            simp only [fa_agg, fa_one, fa_nil, List.cons_append, List.nil_append, List.append_nil]
            refine itT rfl ?_
            refine call_step (n_penumbraref03_Is_t (m11.mono (by decide)) (m11.mono (by decide)) rfl) rfl ?_
            simp only [fa_agg, fa_one, fa_nil, List.cons_append, List.nil_append, List.append_nil]
            exact ret_step rfl
          · skip
            refine call_step (n_warp_Fold_1 (k0 := q6) Y1 (h0.mono (by decide)) (h1.mono (by decide)) e6 c7) rfl ?_
            simp only [fa_agg, fa_one, fa_nil, List.cons_append, List.nil_append, List.append_nil]
            have m23 : Num 1048576 (cr x0) x0 := Num.of h0.sm
            have m24 : Num 1048576 (cr x1) x1 := Num.of h1.sm
            refine call_step (n_warp_Fold_1 (k0 := q6) Y1 (m23.mono (by decide)) (m24.mono (by decide)) e6 c7) rfl ?_
            simp only [fa_agg, fa_one, fa_nil, List.cons_append, List.nil_append, List.append_nil]
            obtain ⟨q25, e25⟩ := ex_eq (Z1 - x0)
            refine call_step (n_rat_Sub (k0 := q25) (m2.mono (by decide)) (h0.mono (by decide)) e25) rfl ?_
            simp only [fa_agg, fa_one, fa_nil, List.cons_append, List.nil_append, List.append_nil]
            obtain ⟨q26, e26⟩ := ex_eq (Z1 - x1)
            refine call_step (n_rat_Sub (k0 := q26) (m2.mono (by decide)) (h1.mono (by decide)) e26) rfl ?_
            simp only [fa_agg, fa_one, fa_nil, List.cons_append, List.nil_append, List.append_nil]
            have m27 : Num 1048578 (cr q25) q25 := Num.eqn e25 (Sm.sub m2.sm h0.sm)
            have m28 : Num 1048578 (cr q26) q26 := Num.eqn e26 (Sm.sub m2.sm h1.sm)
            obtain ⟨q29, e29⟩ := ex_eq (q25 + q26)
            by_cases c30 : Z1 < q29
            · skip
              have u31 : x0 = (Z1 - q25) := (WarpFolds_al32 Y1 e25)
              have u33 : x1 = (Z1 - q26) := (WarpFolds_al34 Y1 e26)
              refine call_step (n_warp_Fold_0 (k0 := q29) (k1 := x0) (k2 := x1) Y1 (m27.mono (by decide)) (m28.mono (by decide)) e29 u31 u33 c30) rfl ?_
              simp only [fa_agg, fa_one, fa_nil, List.cons_append, List.nil_append, List.append_nil]
              refine primS (rl [r0, r1]) rfl ?_
              refine call_step (n_rat_Sum_2 (k0 := q6) (h0.mono (by decide)) (h1.mono (by decide)) e6) rfl ?_
              simp only [fa_agg, fa_one, fa_nil, List.cons_append, List.nil_append, List.append_nil]
              have m36 : Num 2097153 (cr q6) q6 := Num.eqn e6 (Sm.add h0.sm h1.sm)
              have c37 : ¬(q6 = Z1) := (WarpFolds_al38 Y0 Y1 e6 e25 e26 e29 c1 c3 c4 c5 c7 c30)
              refine call_step (n_rat_Same_f (m36.mono (by decide)) (m2.mono (by decide)) c37) rfl ?_
              simp only [fa_agg, fa_one, fa_nil, List.cons_append, List.nil_append, List.append_nil]
              refine call_step (n_rat_Sign (m23.mono (by decide))) rfl ?_
              simp only [fa_agg, fa_one, fa_nil, List.cons_append, List.nil_append, List.append_nil]
              refine primS (.bool true) (cs_geq_t (fun z => c1 ((sg_lt Y0).1 z))) ?_
              refine itT rfl ?_
              refine call_step (n_rat_Sign (m24.mono (by decide))) rfl ?_
              simp only [fa_agg, fa_one, fa_nil, List.cons_append, List.nil_append, List.append_nil]
              refine primS (.bool true) (cs_geq_t (fun z => c4 ((sg_lt Y0).1 z))) ?_
              refine itT rfl ?_
              refine primS (rl [(cr x0), (cr x1)]) rfl ?_
              refine call_step (n_rat_Sum_2 (k0 := q6) (m23.mono (by decide)) (m24.mono (by decide)) e6) rfl ?_
              simp only [fa_agg, fa_one, fa_nil, List.cons_append, List.nil_append, List.append_nil]
              refine call_step (n_rat_Cmp (m36.mono (by decide)) (m2.mono (by decide))) rfl ?_
              simp only [fa_agg, fa_one, fa_nil, List.cons_append, List.nil_append, List.append_nil]
              refine primS (.bool true) (cs_leq_t (fun z => c7 (cq_gt.1 z))) ?_
              refine itT rfl ?_
              refine call_step (n_penumbraref03_Is_t (m23.mono (by decide)) (m23.mono (by decide)) rfl) rfl ?_
              simp only [fa_agg, fa_one, fa_nil, List.cons_append, List.nil_append, List.append_nil]
              refine itT rfl ?_
              refine call_step (n_penumbraref03_Is_t (m24.mono (by decide)) (m24.mono (by decide)) rfl) rfl ?_
              simp only [fa_agg, fa_one, fa_nil, List.cons_append, List.nil_append, List.append_nil]
              refine itT rfl ?_
              refine itF rfl ?_
              refine call_step (n_penumbraref03_Is_t (m23.mono (by decide)) (m23.mono (by decide)) rfl) rfl ?_
              simp only [fa_agg, fa_one, fa_nil, List.cons_append, List.nil_append, List.append_nil]
              refine itT rfl ?_
              refine call_step (n_penumbraref03_Is_t (m24.mono (by decide)) (m24.mono (by decide)) rfl) rfl ?_
              simp only [fa_agg, fa_one, fa_nil, List.cons_append, List.nil_append, List.append_nil]
              exact ret_step rfl
            · skip
              refine call_step (n_warp_Fold_1 (k0 := q29) Y1 (m27.mono (by decide)) (m28.mono (by decide)) e29 c30) rfl ?_
              simp only [fa_agg, fa_one, fa_nil, List.cons_append, List.nil_append, List.append_nil]
              refine primS (rl [r0, r1]) rfl ?_
              refine call_step (n_rat_Sum_2 (k0 := q6) (h0.mono (by decide)) (h1.mono (by decide)) e6) rfl ?_
              simp only [fa_agg, fa_one, fa_nil, List.cons_append, List.nil_append, List.append_nil]
              have m41 : Num 2097153 (cr q6) q6 := Num.eqn e6 (Sm.add h0.sm h1.sm)
              have c42 : (q6 = Z1) := (WarpFolds_al43 Y0 Y1 e6 e25 e26 e29 c1 c3 c4 c5 c7 c30)
              refine call_step (n_rat_Same_t (m41.mono (by decide)) (m2.mono (by decide)) c42) rfl ?_
              simp only [fa_agg, fa_one, fa_nil, List.cons_append, List.nil_append, List.append_nil]
              refine call_step (n_rat_Sign (m23.mono (by decide))) rfl ?_
              simp only [fa_agg, fa_one, fa_nil, List.cons_append, List.nil_append, List.append_nil]
              refine primS (.bool true) (cs_geq_t (fun z => c1 ((sg_lt Y0).1 z))) ?_
              refine itT rfl ?_
              refine call_step (n_rat_Sign (m24.mono (by decide))) rfl ?_
              simp only [fa_agg, fa_one, fa_nil, List.cons_append, List.nil_append, List.append_nil]
              refine primS (.bool true) (cs_geq_t (fun z => c4 ((sg_lt Y0).1 z))) ?_
              refine itT rfl ?_
              refine primS (rl [(cr x0), (cr x1)]) rfl ?_
              refine call_step (n_rat_Sum_2 (k0 := q6) (m23.mono (by decide)) (m24.mono (by decide)) e6) rfl ?_
              simp only [fa_agg, fa_one, fa_nil, List.cons_append, List.nil_append, List.append_nil]
              refine call_step (n_rat_Cmp (m41.mono (by decide)) (m2.mono (by decide))) rfl ?_
              simp only [fa_agg, fa_one, fa_nil, List.cons_append, List.nil_append, List.append_nil]
              refine primS (.bool true) (cs_leq_t (fun z => c7 (cq_gt.1 z))) ?_
              refine itT rfl ?_
              refine call_step (n_penumbraref03_Is_t (m23.mono (by decide)) (m23.mono (by decide)) rfl) rfl ?_
              simp only [fa_agg, fa_one, fa_nil, List.cons_append, List.nil_append, List.append_nil]
              refine itT rfl ?_
              refine call_step (n_penumbraref03_Is_t (m24.mono (by decide)) (m24.mono (by decide)) rfl) rfl ?_
              simp only [fa_agg, fa_one, fa_nil, List.cons_append, List.nil_append, List.append_nil]
              refine itT rfl ?_
              refine itT rfl ?_
              exact ret_step rfl

end Go.Px.Na

/- QWarpDense: whatever the numbers, the law tells true. -/
import Derived.Test.YtadaibgdeojlmaaXWarpDense
set_option maxRecDepth 20000
set_option maxHeartbeats 40000000
set_option linter.unusedVariables false
set_option linter.unusedSimpArgs false
namespace Go.Px.Na
open Go.RowKit
open Go.Proofs.Try (prog)

theorem wd_lt {A B u v : Rat} (hA : A * u = 1) (hB : B * v = 1) (hu : 0 < u) (hv : 0 < v) (h : B < A) : u < v := by
  have e : v - u = (A - B) * (u * v) := by grind
  have := Rat.mul_pos (a := A - B) (b := u * v) (by grind) (Rat.mul_pos hu hv)
  grind
theorem wd_nns {a b : Rat} (h : a < b) (k : b ≤ 0) : dns a < dns b := by
  obtain ⟨u, hu, pu, du, bu⟩ := wd_n (x := a) (by grind)
  obtain ⟨v, hv, pv, dv, bv⟩ := wd_n k
  have huv := wd_lt hu hv pu pv (by grind)
  have m1 := Rat.mul_pos (a := v - u) (b := v + u) (by grind) (by grind)
  rw [du, dv]
  grind
theorem wd_pps {a b : Rat} (h : a < b) (k : 0 ≤ a) : dns b < dns a := by
  obtain ⟨u, hu, pu, du, bu⟩ := wd_p k
  obtain ⟨v, hv, pv, dv, bv⟩ := wd_p (x := b) (by grind)
  have huv := wd_lt hv hu pv pu (by grind)
  have m1 := Rat.mul_pos (a := u - v) (b := v + u) (by grind) (by grind)
  rw [du, dv]
  grind
theorem WarpDense_al20 {Z0 : Rat} (Y0 : Z0 = (0 : Rat)) {q16 q8 x1 x0 q2 q13 q9 q10 q3 : Rat} (e8 : q8 = (x1 - x0)) (e2 : q2 = (dns x0)) (e16 : q16 = (q8 * q2)) (e9 : q9 = (bck x1)) (e10 : q10 = (bck x0)) (e13 : q13 = (q9 - q10)) (e3 : q3 = (dns x1)) (c1 : x0 < x1) (c6 : q3 < q2) (c7 : Z0 < x0) : ¬(q16 < q13) := by
  subst Y0 e8 e2 e16 e9 e10 e13 e3
  have z := dns_zero
  by_cases a0 : x0 < x1
  · by_cases a1 : x1 < 0
    · have w := wd_nn a0 (by grind)
      have ws := wd_nns a0 (by grind)
      grind
    · by_cases a2 : 0 < x0
      · have w := wd_pp a0 (by grind)
        have ws := wd_pps a0 (by grind)
        grind
      · have w := wd_np a0 (by grind) (by grind)
        grind
  · grind

theorem WarpDense_al25 {Z0 : Rat} (Y0 : Z0 = (0 : Rat)) {q13 q9 x1 q10 x0 q22 q8 q3 q2 q16 : Rat} (e9 : q9 = (bck x1)) (e10 : q10 = (bck x0)) (e13 : q13 = (q9 - q10)) (e8 : q8 = (x1 - x0)) (e3 : q3 = (dns x1)) (e22 : q22 = (q8 * q3)) (e2 : q2 = (dns x0)) (e16 : q16 = (q8 * q2)) (c1 : x0 < x1) (c6 : q3 < q2) (c7 : Z0 < x0) (c19 : ¬q16 < q13) : ¬(q13 < q22) := by
  subst Y0 e9 e10 e13 e8 e3 e22 e2 e16
  have z := dns_zero
  by_cases a0 : x0 < x1
  · by_cases a1 : x1 < 0
    · have w := wd_nn a0 (by grind)
      have ws := wd_nns a0 (by grind)
      grind
    · by_cases a2 : 0 < x0
      · have w := wd_pp a0 (by grind)
        have ws := wd_pps a0 (by grind)
        grind
      · have w := wd_np a0 (by grind) (by grind)
        grind
  · grind

theorem WarpDense_al27 {Z0 : Rat} (Y0 : Z0 = (0 : Rat)) {x1 x0 q3 q2 : Rat} (e3 : q3 = (dns x1)) (e2 : q2 = (dns x0)) (c1 : x0 < x1) (c6 : q3 < q2) (c7 : ¬Z0 < x0) : ¬(x1 < Z0) := by
  subst Y0 e3 e2
  have z := dns_zero
  by_cases a0 : x0 < x1
  · by_cases a1 : x1 < 0
    · have w := wd_nn a0 (by grind)
      have ws := wd_nns a0 (by grind)
      grind
    · by_cases a2 : 0 < x0
      · have w := wd_pp a0 (by grind)
        have ws := wd_pps a0 (by grind)
        grind
      · have w := wd_np a0 (by grind) (by grind)
        grind
  · grind

theorem WarpDense_al42 {Z0 Z1_2 : Rat} (Y0 : Z0 = (0 : Rat)) (Y1_2 : Z1_2 = (1/2 : Rat)) {q38 q29 x1 x0 q34 q30 q31 q3 q2 : Rat} (e29 : q29 = (x1 - x0)) (e38 : q38 = (q29 * Z1_2)) (e30 : q30 = (bck x1)) (e31 : q31 = (bck x0)) (e34 : q34 = (q30 - q31)) (e3 : q3 = (dns x1)) (e2 : q2 = (dns x0)) (c1 : x0 < x1) (c6 : q3 < q2) (c7 : ¬Z0 < x0) (c26 : ¬x1 < Z0) : ¬(q38 < q34) := by
  subst Y0 Y1_2 e29 e38 e30 e31 e34 e3 e2
  have z := dns_zero
  by_cases a0 : x0 < x1
  · by_cases a1 : x1 < 0
    · have w := wd_nn a0 (by grind)
      have ws := wd_nns a0 (by grind)
      grind
    · by_cases a2 : 0 < x0
      · have w := wd_pp a0 (by grind)
        have ws := wd_pps a0 (by grind)
        grind
      · have w := wd_np a0 (by grind) (by grind)
        grind
  · grind

theorem WarpDense_al47 {Z0 Z1_2 : Rat} (Y0 : Z0 = (0 : Rat)) (Y1_2 : Z1_2 = (1/2 : Rat)) {q34 q30 x1 q31 x0 q44 q29 q3 q2 q38 : Rat} (e30 : q30 = (bck x1)) (e31 : q31 = (bck x0)) (e34 : q34 = (q30 - q31)) (e29 : q29 = (x1 - x0)) (e3 : q3 = (dns x1)) (e44 : q44 = (q29 * q3)) (e2 : q2 = (dns x0)) (e38 : q38 = (q29 * Z1_2)) (c1 : x0 < x1) (c6 : q3 < q2) (c7 : ¬Z0 < x0) (c26 : ¬x1 < Z0) (c41 : ¬q38 < q34) : ¬(q34 < q44) := by
  subst Y0 Y1_2 e30 e31 e34 e29 e3 e44 e2 e38
  have z := dns_zero
  by_cases a0 : x0 < x1
  · by_cases a1 : x1 < 0
    · have w := wd_nn a0 (by grind)
      have ws := wd_nns a0 (by grind)
      grind
    · by_cases a2 : 0 < x0
      · have w := wd_pp a0 (by grind)
        have ws := wd_pps a0 (by grind)
        grind
      · have w := wd_np a0 (by grind) (by grind)
        grind
  · grind

theorem WarpDense_al49 {Z0 : Rat} (Y0 : Z0 = (0 : Rat)) {x0 x1 q3 q2 : Rat} (e3 : q3 = (dns x1)) (e2 : q2 = (dns x0)) (c1 : x0 < x1) (c6 : ¬q3 < q2) : ¬(Z0 < x0) := by
  subst Y0 e3 e2
  have z := dns_zero
  by_cases a0 : x0 < x1
  · by_cases a1 : x1 < 0
    · have w := wd_nn a0 (by grind)
      have ws := wd_nns a0 (by grind)
      grind
    · by_cases a2 : 0 < x0
      · have w := wd_pp a0 (by grind)
        have ws := wd_pps a0 (by grind)
        grind
      · have w := wd_np a0 (by grind) (by grind)
        grind
  · grind

theorem WarpDense_al63 {Z0 : Rat} (Y0 : Z0 = (0 : Rat)) {q59 q51 x1 x0 q3 q56 q52 q53 q2 : Rat} (e51 : q51 = (x1 - x0)) (e3 : q3 = (dns x1)) (e59 : q59 = (q51 * q3)) (e52 : q52 = (bck x1)) (e53 : q53 = (bck x0)) (e56 : q56 = (q52 - q53)) (e2 : q2 = (dns x0)) (c1 : x0 < x1) (c6 : ¬q3 < q2) (c48 : ¬Z0 < x0) (c50 : x1 < Z0) : ¬(q59 < q56) := by
  subst Y0 e51 e3 e59 e52 e53 e56 e2
  have z := dns_zero
  by_cases a0 : x0 < x1
  · by_cases a1 : x1 < 0
    · have w := wd_nn a0 (by grind)
      have ws := wd_nns a0 (by grind)
      grind
    · by_cases a2 : 0 < x0
      · have w := wd_pp a0 (by grind)
        have ws := wd_pps a0 (by grind)
        grind
      · have w := wd_np a0 (by grind) (by grind)
        grind
  · grind

theorem WarpDense_al68 {Z0 : Rat} (Y0 : Z0 = (0 : Rat)) {q56 q52 x1 q53 x0 q65 q51 q2 q3 q59 : Rat} (e52 : q52 = (bck x1)) (e53 : q53 = (bck x0)) (e56 : q56 = (q52 - q53)) (e51 : q51 = (x1 - x0)) (e2 : q2 = (dns x0)) (e65 : q65 = (q51 * q2)) (e3 : q3 = (dns x1)) (e59 : q59 = (q51 * q3)) (c1 : x0 < x1) (c6 : ¬q3 < q2) (c48 : ¬Z0 < x0) (c50 : x1 < Z0) (c62 : ¬q59 < q56) : ¬(q56 < q65) := by
  subst Y0 e52 e53 e56 e51 e2 e65 e3 e59
  have z := dns_zero
  by_cases a0 : x0 < x1
  · by_cases a1 : x1 < 0
    · have w := wd_nn a0 (by grind)
      have ws := wd_nns a0 (by grind)
      grind
    · by_cases a2 : 0 < x0
      · have w := wd_pp a0 (by grind)
        have ws := wd_pps a0 (by grind)
        grind
      · have w := wd_np a0 (by grind) (by grind)
        grind
  · grind

theorem WarpDense_al83 {Z0 Z1_2 : Rat} (Y0 : Z0 = (0 : Rat)) (Y1_2 : Z1_2 = (1/2 : Rat)) {q79 q70 x1 x0 q75 q71 q72 q3 q2 : Rat} (e70 : q70 = (x1 - x0)) (e79 : q79 = (q70 * Z1_2)) (e71 : q71 = (bck x1)) (e72 : q72 = (bck x0)) (e75 : q75 = (q71 - q72)) (e3 : q3 = (dns x1)) (e2 : q2 = (dns x0)) (c1 : x0 < x1) (c6 : ¬q3 < q2) (c48 : ¬Z0 < x0) (c50 : ¬x1 < Z0) : ¬(q79 < q75) := by
  subst Y0 Y1_2 e70 e79 e71 e72 e75 e3 e2
  have z := dns_zero
  by_cases a0 : x0 < x1
  · by_cases a1 : x1 < 0
    · have w := wd_nn a0 (by grind)
      have ws := wd_nns a0 (by grind)
      grind
    · by_cases a2 : 0 < x0
      · have w := wd_pp a0 (by grind)
        have ws := wd_pps a0 (by grind)
        grind
      · have w := wd_np a0 (by grind) (by grind)
        grind
  · grind

theorem WarpDense_al88 {Z0 Z1_2 : Rat} (Y0 : Z0 = (0 : Rat)) (Y1_2 : Z1_2 = (1/2 : Rat)) {q75 q71 x1 q72 x0 q85 q70 q2 q3 q79 : Rat} (e71 : q71 = (bck x1)) (e72 : q72 = (bck x0)) (e75 : q75 = (q71 - q72)) (e70 : q70 = (x1 - x0)) (e2 : q2 = (dns x0)) (e85 : q85 = (q70 * q2)) (e3 : q3 = (dns x1)) (e79 : q79 = (q70 * Z1_2)) (c1 : x0 < x1) (c6 : ¬q3 < q2) (c48 : ¬Z0 < x0) (c50 : ¬x1 < Z0) (c82 : ¬q79 < q75) : ¬(q75 < q85) := by
  subst Y0 Y1_2 e71 e72 e75 e70 e2 e85 e3 e79
  have z := dns_zero
  by_cases a0 : x0 < x1
  · by_cases a1 : x1 < 0
    · have w := wd_nn a0 (by grind)
      have ws := wd_nns a0 (by grind)
      grind
    · by_cases a2 : 0 < x0
      · have w := wd_pp a0 (by grind)
        have ws := wd_pps a0 (by grind)
        grind
      · have w := wd_np a0 (by grind) (by grind)
        grind
  · grind

theorem pure_WarpDense {r0 r1 : RR} (g0 : r0.ok 1048576) (g1 : r1.ok 1048576) : PureCalls prog F.penumbralaw14_WarpDense [.agg ([.bool r0.neg, nl r0.num, nl r0.den]), .agg ([.bool r1.neg, nl r1.num, nl r1.den])] [.one (.bool true)] := by
  obtain ⟨Z0, Y0⟩ := ex_eq (0 : Rat)
  obtain ⟨Z1_2, Y1_2⟩ := ex_eq (1/2 : Rat)
  obtain ⟨x0, h0⟩ := Num.raw g0 (by decide)
  obtain ⟨x1, h1⟩ := Num.raw g1 (by decide)
  refine symFunc_sound hmix tree_penumbralaw14_WarpDense (by kernel_rfl) rfl ?_
  unfold ir_penumbralaw14_WarpDense
  simp only [fa_agg, fa_one, fa_nil, List.cons_append, List.nil_append, List.append_nil]
  refine call_step n_penumbralaw14_fixed rfl ?_
  simp only [fa_agg, fa_one, fa_nil, List.cons_append, List.nil_append, List.append_nil]
  refine primS (.bool false) rfl ?_
  refine itF rfl ?_
  refine call_step (n_rat_Cmp (h0.mono (by decide)) (h1.mono (by decide))) rfl ?_
  simp only [fa_agg, fa_one, fa_nil, List.cons_append, List.nil_append, List.append_nil]
  by_cases c1 : x0 < x1
  · skip
    refine primS (.bool false) (cs_geq_f (cq_lt.2 c1)) ?_
    refine itF rfl ?_
    obtain ⟨q2, e2⟩ := ex_eq (dns x0)
    refine call_step (n_warp_Density (k0 := q2) (h0.mono (by decide)) e2) rfl ?_
    simp only [fa_agg, fa_one, fa_nil, List.cons_append, List.nil_append, List.append_nil]
    obtain ⟨q3, e3⟩ := ex_eq (dns x1)
    refine call_step (n_warp_Density (k0 := q3) (h1.mono (by decide)) e3) rfl ?_
    simp only [fa_agg, fa_one, fa_nil, List.cons_append, List.nil_append, List.append_nil]
    have m4 : Num 6291468 (cr q2) q2 := Num.eqn e2 (Sm.dns h0.sm)
    have m5 : Num 6291468 (cr q3) q3 := Num.eqn e3 (Sm.dns h1.sm)
    refine call_step (n_rat_Cmp (m4.mono (by decide)) (m5.mono (by decide))) rfl ?_
    simp only [fa_agg, fa_one, fa_nil, List.cons_append, List.nil_append, List.append_nil]
    by_cases c6 : q3 < q2
    · skip
      refine primS (.bool true) (cs_gtr_t (cq_gt.2 c6)) ?_
      refine itT rfl ?_
      refine call_step (n_rat_Sign (h0.mono (by decide))) rfl ?_
      simp only [fa_agg, fa_one, fa_nil, List.cons_append, List.nil_append, List.append_nil]
      by_cases c7 : Z0 < x0
      · skip
        refine primS (.bool false) (cs_leq_f ((sg_gt Y0).2 c7)) ?_
        refine itF rfl ?_
        obtain ⟨q8, e8⟩ := ex_eq (x1 - x0)
        refine call_step (n_rat_Sub (k0 := q8) (h1.mono (by decide)) (h0.mono (by decide)) e8) rfl ?_
        simp only [fa_agg, fa_one, fa_nil, List.cons_append, List.nil_append, List.append_nil]
        obtain ⟨q9, e9⟩ := ex_eq (bck x1)
        refine call_step (n_warp_Back (k0 := q9) (h1.mono (by decide)) e9) rfl ?_
        simp only [fa_agg, fa_one, fa_nil, List.cons_append, List.nil_append, List.append_nil]
        obtain ⟨q10, e10⟩ := ex_eq (bck x0)
        refine call_step (n_warp_Back (k0 := q10) (h0.mono (by decide)) e10) rfl ?_
        simp only [fa_agg, fa_one, fa_nil, List.cons_append, List.nil_append, List.append_nil]
        have m11 : Num 6291468 (cr q9) q9 := Num.eqn e9 (Sm.bck h1.sm)
        have m12 : Num 6291468 (cr q10) q10 := Num.eqn e10 (Sm.bck h0.sm)
        obtain ⟨q13, e13⟩ := ex_eq (q9 - q10)
        refine call_step (n_rat_Sub (k0 := q13) (m11.mono (by decide)) (m12.mono (by decide)) e13) rfl ?_
        simp only [fa_agg, fa_one, fa_nil, List.cons_append, List.nil_append, List.append_nil]
        refine primS (rl [(cr q8), (cr q2)]) rfl ?_
        have m15 : Num 2097153 (cr q8) q8 := Num.eqn e8 (Sm.sub h1.sm h0.sm)
        obtain ⟨q16, e16⟩ := ex_eq (q8 * q2)
        refine call_step (n_rat_Product_2 (k0 := q16) (m15.mono (by decide)) (m4.mono (by decide)) e16) rfl ?_
        simp only [fa_agg, fa_one, fa_nil, List.cons_append, List.nil_append, List.append_nil]
        have m17 : Num 12582937 (cr q13) q13 := Num.eqn e13 (Sm.sub m11.sm m12.sm)
        have m18 : Num 8388621 (cr q16) q16 := Num.eqn e16 (Sm.mul m15.sm m4.sm)
        refine call_step (n_rat_Cmp (m17.mono (by decide)) (m18.mono (by decide))) rfl ?_
        simp only [fa_agg, fa_one, fa_nil, List.cons_append, List.nil_append, List.append_nil]
        have c19 : ¬(q16 < q13) := (WarpDense_al20 Y0 e8 e2 e16 e9 e10 e13 e3 c1 c6 c7)
        refine primS (.bool true) (cs_leq_t (fun z => c19 (cq_gt.1 z))) ?_
        refine itT rfl ?_
        refine primS (rl [(cr q8), (cr q3)]) rfl ?_
        obtain ⟨q22, e22⟩ := ex_eq (q8 * q3)
        refine call_step (n_rat_Product_2 (k0 := q22) (m15.mono (by decide)) (m5.mono (by decide)) e22) rfl ?_
        simp only [fa_agg, fa_one, fa_nil, List.cons_append, List.nil_append, List.append_nil]
        have m23 : Num 8388621 (cr q22) q22 := Num.eqn e22 (Sm.mul m15.sm m5.sm)
        refine call_step (n_rat_Cmp (m17.mono (by decide)) (m23.mono (by decide))) rfl ?_
        simp only [fa_agg, fa_one, fa_nil, List.cons_append, List.nil_append, List.append_nil]
        have c24 : ¬(q13 < q22) := (WarpDense_al25 Y0 e9 e10 e13 e8 e3 e22 e2 e16 c1 c6 c7 c19)
        refine primS (.bool true) (cs_geq_t (fun z => c24 (cq_lt.1 z))) ?_
        refine itT rfl ?_
        refine call_step (n_rat_Sign (m5.mono (by decide))) rfl ?_
        simp only [fa_agg, fa_one, fa_nil, List.cons_append, List.nil_append, List.append_nil]
        refine primS (.bool true) (cs_gtr_t ((sg_gt Y0).2 (s_dns (b := Z0) Y0 e3))) ?_
        exact ret_step rfl
      · skip
        refine primS (.bool true) (cs_leq_t (fun z => c7 ((sg_gt Y0).1 z))) ?_
        refine itT rfl ?_
        refine call_step (n_rat_Sign (h1.mono (by decide))) rfl ?_
        simp only [fa_agg, fa_one, fa_nil, List.cons_append, List.nil_append, List.append_nil]
        have c26 : ¬(x1 < Z0) := (WarpDense_al27 Y0 e3 e2 c1 c6 c7)
        refine primS (.bool true) (cs_geq_t (fun z => c26 ((sg_lt Y0).1 z))) ?_
        refine itT rfl ?_
        refine call_step (n_rat_Of (0) (1) (by decide) (by decide) (by decide) (by decide) (Y0.trans (by decide +kernel))) rfl ?_
        simp only [fa_agg, fa_one, fa_nil, List.cons_append, List.nil_append, List.append_nil]
        have m28 : Num 1 (cr Z0) Z0 := Num.c Y0 (by decide +kernel) (by decide +kernel)
        refine call_step (n_warp_Density (k0 := Z1_2) (m28.mono (by decide)) (by rw [Y1_2, Y0] <;> decide +kernel)) rfl ?_
        simp only [fa_agg, fa_one, fa_nil, List.cons_append, List.nil_append, List.append_nil]
        obtain ⟨q29, e29⟩ := ex_eq (x1 - x0)
        refine call_step (n_rat_Sub (k0 := q29) (h1.mono (by decide)) (h0.mono (by decide)) e29) rfl ?_
        simp only [fa_agg, fa_one, fa_nil, List.cons_append, List.nil_append, List.append_nil]
        obtain ⟨q30, e30⟩ := ex_eq (bck x1)
        refine call_step (n_warp_Back (k0 := q30) (h1.mono (by decide)) e30) rfl ?_
        simp only [fa_agg, fa_one, fa_nil, List.cons_append, List.nil_append, List.append_nil]
        obtain ⟨q31, e31⟩ := ex_eq (bck x0)
        refine call_step (n_warp_Back (k0 := q31) (h0.mono (by decide)) e31) rfl ?_
        simp only [fa_agg, fa_one, fa_nil, List.cons_append, List.nil_append, List.append_nil]
        have m32 : Num 6291468 (cr q30) q30 := Num.eqn e30 (Sm.bck h1.sm)
        have m33 : Num 6291468 (cr q31) q31 := Num.eqn e31 (Sm.bck h0.sm)
        obtain ⟨q34, e34⟩ := ex_eq (q30 - q31)
        refine call_step (n_rat_Sub (k0 := q34) (m32.mono (by decide)) (m33.mono (by decide)) e34) rfl ?_
        simp only [fa_agg, fa_one, fa_nil, List.cons_append, List.nil_append, List.append_nil]
        refine primS (rl [(cr q29), (cr Z1_2)]) rfl ?_
        have m36 : Num 2097153 (cr q29) q29 := Num.eqn e29 (Sm.sub h1.sm h0.sm)
        have m37 : Num 1 (cr Z1_2) Z1_2 := Num.c Y1_2 (by decide +kernel) (by decide +kernel)
        obtain ⟨q38, e38⟩ := ex_eq (q29 * Z1_2)
        refine call_step (n_rat_Product_2 (k0 := q38) (m36.mono (by decide)) (m37.mono (by decide)) e38) rfl ?_
        simp only [fa_agg, fa_one, fa_nil, List.cons_append, List.nil_append, List.append_nil]
        have m39 : Num 12582937 (cr q34) q34 := Num.eqn e34 (Sm.sub m32.sm m33.sm)
        have m40 : Num 2097154 (cr q38) q38 := Num.eqn e38 (Sm.mul m36.sm m37.sm)
        refine call_step (n_rat_Cmp (m39.mono (by decide)) (m40.mono (by decide))) rfl ?_
        simp only [fa_agg, fa_one, fa_nil, List.cons_append, List.nil_append, List.append_nil]
        have c41 : ¬(q38 < q34) := (WarpDense_al42 Y0 Y1_2 e29 e38 e30 e31 e34 e3 e2 c1 c6 c7 c26)
        refine primS (.bool true) (cs_leq_t (fun z => c41 (cq_gt.1 z))) ?_
        refine itT rfl ?_
        refine primS (rl [(cr q29), (cr q3)]) rfl ?_
        obtain ⟨q44, e44⟩ := ex_eq (q29 * q3)
        refine call_step (n_rat_Product_2 (k0 := q44) (m36.mono (by decide)) (m5.mono (by decide)) e44) rfl ?_
        simp only [fa_agg, fa_one, fa_nil, List.cons_append, List.nil_append, List.append_nil]
        have m45 : Num 8388621 (cr q44) q44 := Num.eqn e44 (Sm.mul m36.sm m5.sm)
        refine call_step (n_rat_Cmp (m39.mono (by decide)) (m45.mono (by decide))) rfl ?_
        simp only [fa_agg, fa_one, fa_nil, List.cons_append, List.nil_append, List.append_nil]
        have c46 : ¬(q34 < q44) := (WarpDense_al47 Y0 Y1_2 e30 e31 e34 e29 e3 e44 e2 e38 c1 c6 c7 c26 c41)
        refine primS (.bool true) (cs_geq_t (fun z => c46 (cq_lt.1 z))) ?_
        refine itT rfl ?_
        refine call_step (n_rat_Sign (m5.mono (by decide))) rfl ?_
        simp only [fa_agg, fa_one, fa_nil, List.cons_append, List.nil_append, List.append_nil]
        refine primS (.bool true) (cs_gtr_t ((sg_gt Y0).2 (s_dns (b := Z0) Y0 e3))) ?_
        exact ret_step rfl
    · skip
      refine primS (.bool false) (cs_gtr_f (fun z => c6 (cq_gt.1 z))) ?_
      refine itF rfl ?_
      refine call_step (n_rat_Sign (h0.mono (by decide))) rfl ?_
      simp only [fa_agg, fa_one, fa_nil, List.cons_append, List.nil_append, List.append_nil]
      have c48 : ¬(Z0 < x0) := (WarpDense_al49 Y0 e3 e2 c1 c6)
      refine primS (.bool true) (cs_leq_t (fun z => c48 ((sg_gt Y0).1 z))) ?_
      refine itT rfl ?_
      refine call_step (n_rat_Sign (h1.mono (by decide))) rfl ?_
      simp only [fa_agg, fa_one, fa_nil, List.cons_append, List.nil_append, List.append_nil]
      by_cases c50 : x1 < Z0
      · skip
        refine primS (.bool false) (cs_geq_f ((sg_lt Y0).2 c50)) ?_
        refine itF rfl ?_
        obtain ⟨q51, e51⟩ := ex_eq (x1 - x0)
        refine call_step (n_rat_Sub (k0 := q51) (h1.mono (by decide)) (h0.mono (by decide)) e51) rfl ?_
        simp only [fa_agg, fa_one, fa_nil, List.cons_append, List.nil_append, List.append_nil]
        obtain ⟨q52, e52⟩ := ex_eq (bck x1)
        refine call_step (n_warp_Back (k0 := q52) (h1.mono (by decide)) e52) rfl ?_
        simp only [fa_agg, fa_one, fa_nil, List.cons_append, List.nil_append, List.append_nil]
        obtain ⟨q53, e53⟩ := ex_eq (bck x0)
        refine call_step (n_warp_Back (k0 := q53) (h0.mono (by decide)) e53) rfl ?_
        simp only [fa_agg, fa_one, fa_nil, List.cons_append, List.nil_append, List.append_nil]
        have m54 : Num 6291468 (cr q52) q52 := Num.eqn e52 (Sm.bck h1.sm)
        have m55 : Num 6291468 (cr q53) q53 := Num.eqn e53 (Sm.bck h0.sm)
        obtain ⟨q56, e56⟩ := ex_eq (q52 - q53)
        refine call_step (n_rat_Sub (k0 := q56) (m54.mono (by decide)) (m55.mono (by decide)) e56) rfl ?_
        simp only [fa_agg, fa_one, fa_nil, List.cons_append, List.nil_append, List.append_nil]
        refine primS (rl [(cr q51), (cr q3)]) rfl ?_
        have m58 : Num 2097153 (cr q51) q51 := Num.eqn e51 (Sm.sub h1.sm h0.sm)
        obtain ⟨q59, e59⟩ := ex_eq (q51 * q3)
        refine call_step (n_rat_Product_2 (k0 := q59) (m58.mono (by decide)) (m5.mono (by decide)) e59) rfl ?_
        simp only [fa_agg, fa_one, fa_nil, List.cons_append, List.nil_append, List.append_nil]
        have m60 : Num 12582937 (cr q56) q56 := Num.eqn e56 (Sm.sub m54.sm m55.sm)
        have m61 : Num 8388621 (cr q59) q59 := Num.eqn e59 (Sm.mul m58.sm m5.sm)
        refine call_step (n_rat_Cmp (m60.mono (by decide)) (m61.mono (by decide))) rfl ?_
        simp only [fa_agg, fa_one, fa_nil, List.cons_append, List.nil_append, List.append_nil]
        have c62 : ¬(q59 < q56) := (WarpDense_al63 Y0 e51 e3 e59 e52 e53 e56 e2 c1 c6 c48 c50)
        refine primS (.bool true) (cs_leq_t (fun z => c62 (cq_gt.1 z))) ?_
        refine itT rfl ?_
        refine primS (rl [(cr q51), (cr q2)]) rfl ?_
        obtain ⟨q65, e65⟩ := ex_eq (q51 * q2)
        refine call_step (n_rat_Product_2 (k0 := q65) (m58.mono (by decide)) (m4.mono (by decide)) e65) rfl ?_
        simp only [fa_agg, fa_one, fa_nil, List.cons_append, List.nil_append, List.append_nil]
        have m66 : Num 8388621 (cr q65) q65 := Num.eqn e65 (Sm.mul m58.sm m4.sm)
        refine call_step (n_rat_Cmp (m60.mono (by decide)) (m66.mono (by decide))) rfl ?_
        simp only [fa_agg, fa_one, fa_nil, List.cons_append, List.nil_append, List.append_nil]
        have c67 : ¬(q56 < q65) := (WarpDense_al68 Y0 e52 e53 e56 e51 e2 e65 e3 e59 c1 c6 c48 c50 c62)
        refine primS (.bool true) (cs_geq_t (fun z => c67 (cq_lt.1 z))) ?_
        refine itT rfl ?_
        refine call_step (n_rat_Sign (m4.mono (by decide))) rfl ?_
        simp only [fa_agg, fa_one, fa_nil, List.cons_append, List.nil_append, List.append_nil]
        refine primS (.bool true) (cs_gtr_t ((sg_gt Y0).2 (s_dns (b := Z0) Y0 e2))) ?_
        exact ret_step rfl
      · skip
        refine primS (.bool true) (cs_geq_t (fun z => c50 ((sg_lt Y0).1 z))) ?_
        refine itT rfl ?_
        refine call_step (n_rat_Of (0) (1) (by decide) (by decide) (by decide) (by decide) (Y0.trans (by decide +kernel))) rfl ?_
        simp only [fa_agg, fa_one, fa_nil, List.cons_append, List.nil_append, List.append_nil]
        have m69 : Num 1 (cr Z0) Z0 := Num.c Y0 (by decide +kernel) (by decide +kernel)
        refine call_step (n_warp_Density (k0 := Z1_2) (m69.mono (by decide)) (by rw [Y1_2, Y0] <;> decide +kernel)) rfl ?_
        simp only [fa_agg, fa_one, fa_nil, List.cons_append, List.nil_append, List.append_nil]
        obtain ⟨q70, e70⟩ := ex_eq (x1 - x0)
        refine call_step (n_rat_Sub (k0 := q70) (h1.mono (by decide)) (h0.mono (by decide)) e70) rfl ?_
        simp only [fa_agg, fa_one, fa_nil, List.cons_append, List.nil_append, List.append_nil]
        obtain ⟨q71, e71⟩ := ex_eq (bck x1)
        refine call_step (n_warp_Back (k0 := q71) (h1.mono (by decide)) e71) rfl ?_
        simp only [fa_agg, fa_one, fa_nil, List.cons_append, List.nil_append, List.append_nil]
        obtain ⟨q72, e72⟩ := ex_eq (bck x0)
        refine call_step (n_warp_Back (k0 := q72) (h0.mono (by decide)) e72) rfl ?_
        simp only [fa_agg, fa_one, fa_nil, List.cons_append, List.nil_append, List.append_nil]
        have m73 : Num 6291468 (cr q71) q71 := Num.eqn e71 (Sm.bck h1.sm)
        have m74 : Num 6291468 (cr q72) q72 := Num.eqn e72 (Sm.bck h0.sm)
        obtain ⟨q75, e75⟩ := ex_eq (q71 - q72)
        refine call_step (n_rat_Sub (k0 := q75) (m73.mono (by decide)) (m74.mono (by decide)) e75) rfl ?_
        simp only [fa_agg, fa_one, fa_nil, List.cons_append, List.nil_append, List.append_nil]
        refine primS (rl [(cr q70), (cr Z1_2)]) rfl ?_
        have m77 : Num 2097153 (cr q70) q70 := Num.eqn e70 (Sm.sub h1.sm h0.sm)
        have m78 : Num 1 (cr Z1_2) Z1_2 := Num.c Y1_2 (by decide +kernel) (by decide +kernel)
        obtain ⟨q79, e79⟩ := ex_eq (q70 * Z1_2)
        refine call_step (n_rat_Product_2 (k0 := q79) (m77.mono (by decide)) (m78.mono (by decide)) e79) rfl ?_
        simp only [fa_agg, fa_one, fa_nil, List.cons_append, List.nil_append, List.append_nil]
        have m80 : Num 12582937 (cr q75) q75 := Num.eqn e75 (Sm.sub m73.sm m74.sm)
        have m81 : Num 2097154 (cr q79) q79 := Num.eqn e79 (Sm.mul m77.sm m78.sm)
        refine call_step (n_rat_Cmp (m80.mono (by decide)) (m81.mono (by decide))) rfl ?_
        simp only [fa_agg, fa_one, fa_nil, List.cons_append, List.nil_append, List.append_nil]
        have c82 : ¬(q79 < q75) := (WarpDense_al83 Y0 Y1_2 e70 e79 e71 e72 e75 e3 e2 c1 c6 c48 c50)
        refine primS (.bool true) (cs_leq_t (fun z => c82 (cq_gt.1 z))) ?_
        refine itT rfl ?_
        refine primS (rl [(cr q70), (cr q2)]) rfl ?_
        obtain ⟨q85, e85⟩ := ex_eq (q70 * q2)
        refine call_step (n_rat_Product_2 (k0 := q85) (m77.mono (by decide)) (m4.mono (by decide)) e85) rfl ?_
        simp only [fa_agg, fa_one, fa_nil, List.cons_append, List.nil_append, List.append_nil]
        have m86 : Num 8388621 (cr q85) q85 := Num.eqn e85 (Sm.mul m77.sm m4.sm)
        refine call_step (n_rat_Cmp (m80.mono (by decide)) (m86.mono (by decide))) rfl ?_
        simp only [fa_agg, fa_one, fa_nil, List.cons_append, List.nil_append, List.append_nil]
        have c87 : ¬(q75 < q85) := (WarpDense_al88 Y0 Y1_2 e71 e72 e75 e70 e2 e85 e3 e79 c1 c6 c48 c50 c82)
        refine primS (.bool true) (cs_geq_t (fun z => c87 (cq_lt.1 z))) ?_
        refine itT rfl ?_
        refine call_step (n_rat_Sign (m4.mono (by decide))) rfl ?_
        simp only [fa_agg, fa_one, fa_nil, List.cons_append, List.nil_append, List.append_nil]
        refine primS (.bool true) (cs_gtr_t ((sg_gt Y0).2 (s_dns (b := Z0) Y0 e2))) ?_
        exact ret_step rfl
  · skip
    refine primS (.bool true) (cs_geq_t (fun z => c1 (cq_lt.1 z))) ?_
    refine itT rfl ?_
    refine call_step n_penumbralaw14_fixed rfl ?_
    simp only [fa_agg, fa_one, fa_nil, List.cons_append, List.nil_append, List.append_nil]
    exact ret_step rfl

end Go.Px.Na

/- QVecReckons: whatever the numbers, the law tells true. -/
import Derived.Test.YtbpadnlpkdmkmaaXVecReckons
set_option maxRecDepth 20000
set_option maxHeartbeats 4000000
set_option linter.unusedVariables false
set_option linter.unusedSimpArgs false
namespace Go.Px.Na
open Go.RowKit
open Go.Proofs.Try (prog)

theorem pure_VecReckons {r0 r1 r2 r3 r4 r5 r6 : RR} (g0 : r0.ok 1048576) (g1 : r1.ok 1048576) (g2 : r2.ok 1048576) (g3 : r3.ok 1048576) (g4 : r4.ok 1048576) (g5 : r5.ok 1048576) (g6 : r6.ok 1048576) : PureCalls prog F.penumbralaw05_VecReckons [.agg ([.bool r0.neg, nl r0.num, nl r0.den, .bool r1.neg, nl r1.num, nl r1.den, .bool r2.neg, nl r2.num, nl r2.den]), .agg ([.bool r3.neg, nl r3.num, nl r3.den, .bool r4.neg, nl r4.num, nl r4.den, .bool r5.neg, nl r5.num, nl r5.den]), .agg ([.bool r6.neg, nl r6.num, nl r6.den])] [.one (.bool true)] := by
  obtain ⟨x0, h0⟩ := Num.raw g0 (by decide)
  obtain ⟨x1, h1⟩ := Num.raw g1 (by decide)
  obtain ⟨x2, h2⟩ := Num.raw g2 (by decide)
  obtain ⟨x3, h3⟩ := Num.raw g3 (by decide)
  obtain ⟨x4, h4⟩ := Num.raw g4 (by decide)
  obtain ⟨x5, h5⟩ := Num.raw g5 (by decide)
  obtain ⟨x6, h6⟩ := Num.raw g6 (by decide)
  refine symFunc_sound hmix tree_penumbralaw05_VecReckons (by kernel_rfl) rfl ?_
  unfold ir_penumbralaw05_VecReckons
  simp only [fa_agg, fa_one, fa_nil, List.cons_append, List.nil_append, List.append_nil]
  refine call_step n_penumbralaw05_fixed rfl ?_
  simp only [fa_agg, fa_one, fa_nil, List.cons_append, List.nil_append, List.append_nil]
  refine itT rfl ?_
  refine primS (rl3 [(r0, r1, r2), (r3, r4, r5)]) rfl ?_
  obtain ⟨q2, e2⟩ := ex_eq (x0 + x3)
  obtain ⟨q3, e3⟩ := ex_eq (x1 + x4)
  obtain ⟨q4, e4⟩ := ex_eq (x2 + x5)
  refine call_step (n_vec_Sum_2 (o0 := q2) (o1 := q3) (o2 := q4) (h0.mono (by decide)) (h1.mono (by decide)) (h2.mono (by decide)) (h3.mono (by decide)) (h4.mono (by decide)) (h5.mono (by decide)) e2 e3 e4) rfl ?_
  simp only [fa_agg, fa_one, fa_nil, List.cons_append, List.nil_append, List.append_nil]
  refine call_step (n_penumbraref05_Add_0 (k0 := q2) (k1 := q3) (k2 := q4) (h0.mono (by decide)) (h1.mono (by decide)) (h2.mono (by decide)) (h3.mono (by decide)) (h4.mono (by decide)) (h5.mono (by decide)) e2 e3 e4) rfl ?_
  simp only [fa_agg, fa_one, fa_nil, List.cons_append, List.nil_append, List.append_nil]
  have m5 : Num 2097153 (cr q2) q2 := Num.eqn e2 (Sm.add h0.sm h3.sm)
  have m6 : Num 2097153 (cr q3) q3 := Num.eqn e3 (Sm.add h1.sm h4.sm)
  have m7 : Num 2097153 (cr q4) q4 := Num.eqn e4 (Sm.add h2.sm h5.sm)
  refine call_step (n_penumbraref05_Is_0 (m5.mono (by decide)) (m6.mono (by decide)) (m7.mono (by decide)) (m5.mono (by decide)) (m6.mono (by decide)) (m7.mono (by decide)) rfl rfl rfl) rfl ?_
  simp only [fa_agg, fa_one, fa_nil, List.cons_append, List.nil_append, List.append_nil]
  refine itT rfl ?_
  obtain ⟨q8, e8⟩ := ex_eq (x0 - x3)
  obtain ⟨q9, e9⟩ := ex_eq (x1 - x4)
  obtain ⟨q10, e10⟩ := ex_eq (x2 - x5)
  refine call_step (n_vec_Sub_0 (k0 := q8) (k1 := q9) (k2 := q10) (h0.mono (by decide)) (h1.mono (by decide)) (h2.mono (by decide)) (h3.mono (by decide)) (h4.mono (by decide)) (h5.mono (by decide)) e8 e9 e10) rfl ?_
  simp only [fa_agg, fa_one, fa_nil, List.cons_append, List.nil_append, List.append_nil]
  refine call_step (n_penumbraref05_Sub_0 (k0 := q8) (k1 := q9) (k2 := q10) (h0.mono (by decide)) (h1.mono (by decide)) (h2.mono (by decide)) (h3.mono (by decide)) (h4.mono (by decide)) (h5.mono (by decide)) e8 e9 e10) rfl ?_
  simp only [fa_agg, fa_one, fa_nil, List.cons_append, List.nil_append, List.append_nil]
  have m11 : Num 2097153 (cr q8) q8 := Num.eqn e8 (Sm.sub h0.sm h3.sm)
  have m12 : Num 2097153 (cr q9) q9 := Num.eqn e9 (Sm.sub h1.sm h4.sm)
  have m13 : Num 2097153 (cr q10) q10 := Num.eqn e10 (Sm.sub h2.sm h5.sm)
  refine call_step (n_penumbraref05_Is_0 (m11.mono (by decide)) (m12.mono (by decide)) (m13.mono (by decide)) (m11.mono (by decide)) (m12.mono (by decide)) (m13.mono (by decide)) rfl rfl rfl) rfl ?_
  simp only [fa_agg, fa_one, fa_nil, List.cons_append, List.nil_append, List.append_nil]
  refine itT rfl ?_
  obtain ⟨q14, e14⟩ := ex_eq (x6 * x0)
  obtain ⟨q15, e15⟩ := ex_eq (x6 * x1)
  obtain ⟨q16, e16⟩ := ex_eq (x6 * x2)
  refine call_step (n_vec_Scale_0 (k0 := q14) (k1 := q15) (k2 := q16) (h6.mono (by decide)) (h0.mono (by decide)) (h1.mono (by decide)) (h2.mono (by decide)) e14 e15 e16) rfl ?_
  simp only [fa_agg, fa_one, fa_nil, List.cons_append, List.nil_append, List.append_nil]
  refine call_step (n_penumbraref05_Scale_0 (k0 := q14) (k1 := q15) (k2 := q16) (h6.mono (by decide)) (h0.mono (by decide)) (h1.mono (by decide)) (h2.mono (by decide)) e14 e15 e16) rfl ?_
  simp only [fa_agg, fa_one, fa_nil, List.cons_append, List.nil_append, List.append_nil]
  have m17 : Num 2097152 (cr q14) q14 := Num.eqn e14 (Sm.mul h6.sm h0.sm)
  have m18 : Num 2097152 (cr q15) q15 := Num.eqn e15 (Sm.mul h6.sm h1.sm)
  have m19 : Num 2097152 (cr q16) q16 := Num.eqn e16 (Sm.mul h6.sm h2.sm)
  refine call_step (n_penumbraref05_Is_0 (m17.mono (by decide)) (m18.mono (by decide)) (m19.mono (by decide)) (m17.mono (by decide)) (m18.mono (by decide)) (m19.mono (by decide)) rfl rfl rfl) rfl ?_
  simp only [fa_agg, fa_one, fa_nil, List.cons_append, List.nil_append, List.append_nil]
  refine itT rfl ?_
  obtain ⟨q20, e20⟩ := ex_eq (((x0 * x3) + (x1 * x4)) + (x2 * x5))
  refine call_step (n_vec_Dot_0 (k0 := q20) (h0.mono (by decide)) (h1.mono (by decide)) (h2.mono (by decide)) (h3.mono (by decide)) (h4.mono (by decide)) (h5.mono (by decide)) e20) rfl ?_
  simp only [fa_agg, fa_one, fa_nil, List.cons_append, List.nil_append, List.append_nil]
  refine call_step (n_penumbraref05_Dot_0 (k0 := q20) (h0.mono (by decide)) (h1.mono (by decide)) (h2.mono (by decide)) (h3.mono (by decide)) (h4.mono (by decide)) (h5.mono (by decide)) e20) rfl ?_
  simp only [fa_agg, fa_one, fa_nil, List.cons_append, List.nil_append, List.append_nil]
  have m21 : Num 6291458 (cr q20) q20 := Num.eqn e20 (Sm.add (Sm.add (Sm.mul h0.sm h3.sm) (Sm.mul h1.sm h4.sm)) (Sm.mul h2.sm h5.sm))
  refine call_step (n_penumbraref03_Is_t (m21.mono (by decide)) (m21.mono (by decide)) rfl) rfl ?_
  simp only [fa_agg, fa_one, fa_nil, List.cons_append, List.nil_append, List.append_nil]
  refine itT rfl ?_
  obtain ⟨q22, e22⟩ := ex_eq ((x1 * x5) - (x2 * x4))
  obtain ⟨q23, e23⟩ := ex_eq ((x2 * x3) - (x0 * x5))
  obtain ⟨q24, e24⟩ := ex_eq ((x0 * x4) - (x1 * x3))
  refine call_step (n_vec_Cross_0 (k0 := q22) (k1 := q23) (k2 := q24) (h0.mono (by decide)) (h1.mono (by decide)) (h2.mono (by decide)) (h3.mono (by decide)) (h4.mono (by decide)) (h5.mono (by decide)) e22 e23 e24) rfl ?_
  simp only [fa_agg, fa_one, fa_nil, List.cons_append, List.nil_append, List.append_nil]
  refine call_step (n_penumbraref05_Cross_0 (k0 := q22) (k1 := q23) (k2 := q24) (h0.mono (by decide)) (h1.mono (by decide)) (h2.mono (by decide)) (h3.mono (by decide)) (h4.mono (by decide)) (h5.mono (by decide)) e22 e23 e24) rfl ?_
  simp only [fa_agg, fa_one, fa_nil, List.cons_append, List.nil_append, List.append_nil]
  have m25 : Num 4194305 (cr q22) q22 := Num.eqn e22 (Sm.sub (Sm.mul h1.sm h5.sm) (Sm.mul h2.sm h4.sm))
  have m26 : Num 4194305 (cr q23) q23 := Num.eqn e23 (Sm.sub (Sm.mul h2.sm h3.sm) (Sm.mul h0.sm h5.sm))
  have m27 : Num 4194305 (cr q24) q24 := Num.eqn e24 (Sm.sub (Sm.mul h0.sm h4.sm) (Sm.mul h1.sm h3.sm))
  refine call_step (n_penumbraref05_Is_0 (m25.mono (by decide)) (m26.mono (by decide)) (m27.mono (by decide)) (m25.mono (by decide)) (m26.mono (by decide)) (m27.mono (by decide)) rfl rfl rfl) rfl ?_
  simp only [fa_agg, fa_one, fa_nil, List.cons_append, List.nil_append, List.append_nil]
  refine itT rfl ?_
  refine call_step (n_vec_Read_0 (h0.mono (by decide)) (h1.mono (by decide)) (h2.mono (by decide))) rfl ?_
  simp only [fa_agg, fa_one, fa_nil, List.cons_append, List.nil_append, List.append_nil]
  refine call_step (n_penumbraref05_Read_0 (h0.mono (by decide)) (h1.mono (by decide)) (h2.mono (by decide))) rfl ?_
  simp only [fa_agg, fa_one, fa_nil, List.cons_append, List.nil_append, List.append_nil]
  have m28 : Num 1048576 (cr x0) x0 := Num.of h0.sm
  have m29 : Num 1048576 (cr x1) x1 := Num.of h1.sm
  have m30 : Num 1048576 (cr x2) x2 := Num.of h2.sm
  refine call_step (n_penumbraref05_Is_0 (m28.mono (by decide)) (m29.mono (by decide)) (m30.mono (by decide)) (m28.mono (by decide)) (m29.mono (by decide)) (m30.mono (by decide)) rfl rfl rfl) rfl ?_
  simp only [fa_agg, fa_one, fa_nil, List.cons_append, List.nil_append, List.append_nil]
  refine itT rfl ?_
  by_cases c31 : x0 = x3
  · skip
    by_cases c32 : x1 = x4
    · skip
      by_cases c33 : x2 = x5
      · skip
        refine call_step (n_vec_Same_0 (h0.mono (by decide)) (h1.mono (by decide)) (h2.mono (by decide)) (h3.mono (by decide)) (h4.mono (by decide)) (h5.mono (by decide)) c31 c32 c33) rfl ?_
        simp only [fa_agg, fa_one, fa_nil, List.cons_append, List.nil_append, List.append_nil]
        refine call_step (n_penumbraref05_Read_0 (h0.mono (by decide)) (h1.mono (by decide)) (h2.mono (by decide))) rfl ?_
        simp only [fa_agg, fa_one, fa_nil, List.cons_append, List.nil_append, List.append_nil]
        refine call_step (n_penumbraref05_Read_0 (h3.mono (by decide)) (h4.mono (by decide)) (h5.mono (by decide))) rfl ?_
        simp only [fa_agg, fa_one, fa_nil, List.cons_append, List.nil_append, List.append_nil]
        have m34 : Num 1048576 (cr x3) x3 := Num.of h3.sm
        have m35 : Num 1048576 (cr x4) x4 := Num.of h4.sm
        have m36 : Num 1048576 (cr x5) x5 := Num.of h5.sm
        refine call_step (n_penumbraref05_Is_0 (m28.mono (by decide)) (m29.mono (by decide)) (m30.mono (by decide)) (m34.mono (by decide)) (m35.mono (by decide)) (m36.mono (by decide)) c31 c32 c33) rfl ?_
        simp only [fa_agg, fa_one, fa_nil, List.cons_append, List.nil_append, List.append_nil]
        refine primS (.bool true) rfl ?_
        exact ret_step rfl
      · skip
        refine call_step (n_vec_Same_1 (h0.mono (by decide)) (h1.mono (by decide)) (h2.mono (by decide)) (h3.mono (by decide)) (h4.mono (by decide)) (h5.mono (by decide)) c31 c32 c33) rfl ?_
        simp only [fa_agg, fa_one, fa_nil, List.cons_append, List.nil_append, List.append_nil]
        refine call_step (n_penumbraref05_Read_0 (h0.mono (by decide)) (h1.mono (by decide)) (h2.mono (by decide))) rfl ?_
        simp only [fa_agg, fa_one, fa_nil, List.cons_append, List.nil_append, List.append_nil]
        refine call_step (n_penumbraref05_Read_0 (h3.mono (by decide)) (h4.mono (by decide)) (h5.mono (by decide))) rfl ?_
        simp only [fa_agg, fa_one, fa_nil, List.cons_append, List.nil_append, List.append_nil]
        have m37 : Num 1048576 (cr x3) x3 := Num.of h3.sm
        have m38 : Num 1048576 (cr x4) x4 := Num.of h4.sm
        have m39 : Num 1048576 (cr x5) x5 := Num.of h5.sm
        refine call_step (n_penumbraref05_Is_1 (m28.mono (by decide)) (m29.mono (by decide)) (m30.mono (by decide)) (m37.mono (by decide)) (m38.mono (by decide)) (m39.mono (by decide)) c31 c32 c33) rfl ?_
        simp only [fa_agg, fa_one, fa_nil, List.cons_append, List.nil_append, List.append_nil]
        refine primS (.bool true) rfl ?_
        exact ret_step rfl
    · skip
      refine call_step (n_vec_Same_2 (h0.mono (by decide)) (h1.mono (by decide)) (h2.mono (by decide)) (h3.mono (by decide)) (h4.mono (by decide)) (h5.mono (by decide)) c31 c32) rfl ?_
      simp only [fa_agg, fa_one, fa_nil, List.cons_append, List.nil_append, List.append_nil]
      refine call_step (n_penumbraref05_Read_0 (h0.mono (by decide)) (h1.mono (by decide)) (h2.mono (by decide))) rfl ?_
      simp only [fa_agg, fa_one, fa_nil, List.cons_append, List.nil_append, List.append_nil]
      refine call_step (n_penumbraref05_Read_0 (h3.mono (by decide)) (h4.mono (by decide)) (h5.mono (by decide))) rfl ?_
      simp only [fa_agg, fa_one, fa_nil, List.cons_append, List.nil_append, List.append_nil]
      have m40 : Num 1048576 (cr x3) x3 := Num.of h3.sm
      have m41 : Num 1048576 (cr x4) x4 := Num.of h4.sm
      have m42 : Num 1048576 (cr x5) x5 := Num.of h5.sm
      refine call_step (n_penumbraref05_Is_2 (m28.mono (by decide)) (m29.mono (by decide)) (m30.mono (by decide)) (m40.mono (by decide)) (m41.mono (by decide)) (m42.mono (by decide)) c31 c32) rfl ?_
      simp only [fa_agg, fa_one, fa_nil, List.cons_append, List.nil_append, List.append_nil]
      refine primS (.bool true) rfl ?_
      exact ret_step rfl
  · skip
    refine call_step (n_vec_Same_3 (h0.mono (by decide)) (h1.mono (by decide)) (h2.mono (by decide)) (h3.mono (by decide)) (h4.mono (by decide)) (h5.mono (by decide)) c31) rfl ?_
    simp only [fa_agg, fa_one, fa_nil, List.cons_append, List.nil_append, List.append_nil]
    refine call_step (n_penumbraref05_Read_0 (h0.mono (by decide)) (h1.mono (by decide)) (h2.mono (by decide))) rfl ?_
    simp only [fa_agg, fa_one, fa_nil, List.cons_append, List.nil_append, List.append_nil]
    refine call_step (n_penumbraref05_Read_0 (h3.mono (by decide)) (h4.mono (by decide)) (h5.mono (by decide))) rfl ?_
    simp only [fa_agg, fa_one, fa_nil, List.cons_append, List.nil_append, List.append_nil]
    have m43 : Num 1048576 (cr x3) x3 := Num.of h3.sm
    have m44 : Num 1048576 (cr x4) x4 := Num.of h4.sm
    have m45 : Num 1048576 (cr x5) x5 := Num.of h5.sm
    refine call_step (n_penumbraref05_Is_3 (m28.mono (by decide)) (m29.mono (by decide)) (m30.mono (by decide)) (m43.mono (by decide)) (m44.mono (by decide)) (m45.mono (by decide)) c31) rfl ?_
    simp only [fa_agg, fa_one, fa_nil, List.cons_append, List.nil_append, List.append_nil]
    refine primS (.bool true) rfl ?_
    exact ret_step rfl

end Go.Px.Na

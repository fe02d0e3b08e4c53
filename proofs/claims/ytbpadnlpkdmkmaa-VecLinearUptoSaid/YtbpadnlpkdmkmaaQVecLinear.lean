/- QVecLinear: whatever the numbers, the law tells true. -/
import Derived.Test.YtbpadnlpkdmkmaaXVecLinear
set_option maxRecDepth 20000
set_option maxHeartbeats 4000000
set_option linter.unusedVariables false
set_option linter.unusedSimpArgs false
namespace Go.Px.Na
open Go.RowKit
open Go.Proofs.Try (prog)

theorem VecLinear_al24  {q14 q8 x0 q1 x9 x3 x6 q9 x1 q2 x4 x7 q10 x2 q3 x5 x8 q15 q19 q16 : Rat} (e1 : q1 = (x9 * x3)) (e8 : q8 = (x0 + q1)) (e2 : q2 = (x9 * x4)) (e9 : q9 = (x1 + q2)) (e3 : q3 = (x9 * x5)) (e10 : q10 = (x2 + q3)) (e14 : q14 = (((q8 * x6) + (q9 * x7)) + (q10 * x8))) (e15 : q15 = (((x0 * x6) + (x1 * x7)) + (x2 * x8))) (e16 : q16 = (((x3 * x6) + (x4 * x7)) + (x5 * x8))) (e19 : q19 = (x9 * q16)) : q14 = (q15 + q19) := by
  subst e1 e8 e2 e9 e3 e10 e14 e15 e16 e19
  grind

theorem VecLinear_al27  {q15 x0 x6 x1 x7 x2 x8 : Rat} (e15 : q15 = (((x0 * x6) + (x1 * x7)) + (x2 * x8))) : q15 = (((x6 * x0) + (x7 * x1)) + (x8 * x2)) := by
  subst e15
  grind

theorem VecLinear_al51  {q28 q9 x1 q2 x9 x4 x8 q10 x2 q3 x5 x7 q31 q40 q34 : Rat} (e2 : q2 = (x9 * x4)) (e9 : q9 = (x1 + q2)) (e3 : q3 = (x9 * x5)) (e10 : q10 = (x2 + q3)) (e28 : q28 = ((q9 * x8) - (q10 * x7))) (e31 : q31 = ((x1 * x8) - (x2 * x7))) (e34 : q34 = ((x4 * x8) - (x5 * x7))) (e40 : q40 = (x9 * q34)) : q28 = (q31 + q40) := by
  subst e2 e9 e3 e10 e28 e31 e34 e40
  grind

theorem VecLinear_al53  {q29 q10 x2 q3 x9 x5 x6 q8 x0 q1 x3 x8 q32 q41 q35 : Rat} (e3 : q3 = (x9 * x5)) (e10 : q10 = (x2 + q3)) (e1 : q1 = (x9 * x3)) (e8 : q8 = (x0 + q1)) (e29 : q29 = ((q10 * x6) - (q8 * x8))) (e32 : q32 = ((x2 * x6) - (x0 * x8))) (e35 : q35 = ((x5 * x6) - (x3 * x8))) (e41 : q41 = (x9 * q35)) : q29 = (q32 + q41) := by
  subst e3 e10 e1 e8 e29 e32 e35 e41
  grind

theorem VecLinear_al55  {q30 q8 x0 q1 x9 x3 x7 q9 x1 q2 x4 x6 q33 q42 q36 : Rat} (e1 : q1 = (x9 * x3)) (e8 : q8 = (x0 + q1)) (e2 : q2 = (x9 * x4)) (e9 : q9 = (x1 + q2)) (e30 : q30 = ((q8 * x7) - (q9 * x6))) (e33 : q33 = ((x0 * x7) - (x1 * x6))) (e36 : q36 = ((x3 * x7) - (x4 * x6))) (e42 : q42 = (x9 * q36)) : q30 = (q33 + q42) := by
  subst e1 e8 e2 e9 e30 e33 e36 e42
  grind

theorem VecLinear_al64 {Zm1 : Rat} (Ym1 : Zm1 = (-1 : Rat)) {q59 x7 q10 x2 q3 x9 x5 x8 q9 x1 q2 x4 q28 : Rat} (e3 : q3 = (x9 * x5)) (e10 : q10 = (x2 + q3)) (e2 : q2 = (x9 * x4)) (e9 : q9 = (x1 + q2)) (e59 : q59 = ((x7 * q10) - (x8 * q9))) (e28 : q28 = ((q9 * x8) - (q10 * x7))) : q59 = (Zm1 * q28) := by
  subst Ym1 e3 e10 e2 e9 e59 e28
  grind

theorem VecLinear_al66 {Zm1 : Rat} (Ym1 : Zm1 = (-1 : Rat)) {q60 x8 q8 x0 q1 x9 x3 x6 q10 x2 q3 x5 q29 : Rat} (e1 : q1 = (x9 * x3)) (e8 : q8 = (x0 + q1)) (e3 : q3 = (x9 * x5)) (e10 : q10 = (x2 + q3)) (e60 : q60 = ((x8 * q8) - (x6 * q10))) (e29 : q29 = ((q10 * x6) - (q8 * x8))) : q60 = (Zm1 * q29) := by
  subst Ym1 e1 e8 e3 e10 e60 e29
  grind

theorem VecLinear_al68 {Zm1 : Rat} (Ym1 : Zm1 = (-1 : Rat)) {q61 x6 q9 x1 q2 x9 x4 x7 q8 x0 q1 x3 q30 : Rat} (e2 : q2 = (x9 * x4)) (e9 : q9 = (x1 + q2)) (e1 : q1 = (x9 * x3)) (e8 : q8 = (x0 + q1)) (e61 : q61 = ((x6 * q9) - (x7 * q8))) (e30 : q30 = ((q8 * x7) - (q9 * x6))) : q61 = (Zm1 * q30) := by
  subst Ym1 e2 e9 e1 e8 e61 e30
  grind

theorem VecLinear_al84  {q79 q73 x0 x3 x6 : Rat} (e73 : q73 = ((x0 + x3) + x6)) (e79 : q79 = (q73 - x6)) : q79 = (x3 + x0) := by
  subst e73 e79
  grind

theorem VecLinear_al86  {q80 q74 x1 x4 x7 : Rat} (e74 : q74 = ((x1 + x4) + x7)) (e80 : q80 = (q74 - x7)) : q80 = (x4 + x1) := by
  subst e74 e80
  grind

theorem VecLinear_al88  {q81 q75 x2 x5 x8 : Rat} (e75 : q75 = ((x2 + x5) + x8)) (e81 : q81 = (q75 - x8)) : q81 = (x5 + x2) := by
  subst e75 e81
  grind

theorem pure_VecLinear {r0 r1 r2 r3 r4 r5 r6 r7 r8 r9 : RR} (g0 : r0.ok 1048576) (g1 : r1.ok 1048576) (g2 : r2.ok 1048576) (g3 : r3.ok 1048576) (g4 : r4.ok 1048576) (g5 : r5.ok 1048576) (g6 : r6.ok 1048576) (g7 : r7.ok 1048576) (g8 : r8.ok 1048576) (g9 : r9.ok 1048576) : PureCalls prog F.penumbralaw05_VecLinear [.agg ([.bool r0.neg, nl r0.num, nl r0.den, .bool r1.neg, nl r1.num, nl r1.den, .bool r2.neg, nl r2.num, nl r2.den, .bool r3.neg, nl r3.num, nl r3.den, .bool r4.neg, nl r4.num, nl r4.den, .bool r5.neg, nl r5.num, nl r5.den, .bool r6.neg, nl r6.num, nl r6.den, .bool r7.neg, nl r7.num, nl r7.den, .bool r8.neg, nl r8.num, nl r8.den, .bool r9.neg, nl r9.num, nl r9.den])] [.one (.bool true)] := by
  obtain ⟨Zm1, Ym1⟩ := ex_eq (-1 : Rat)
  obtain ⟨x0, h0⟩ := Num.raw g0 (by decide)
  obtain ⟨x1, h1⟩ := Num.raw g1 (by decide)
  obtain ⟨x2, h2⟩ := Num.raw g2 (by decide)
  obtain ⟨x3, h3⟩ := Num.raw g3 (by decide)
  obtain ⟨x4, h4⟩ := Num.raw g4 (by decide)
  obtain ⟨x5, h5⟩ := Num.raw g5 (by decide)
  obtain ⟨x6, h6⟩ := Num.raw g6 (by decide)
  obtain ⟨x7, h7⟩ := Num.raw g7 (by decide)
  obtain ⟨x8, h8⟩ := Num.raw g8 (by decide)
  obtain ⟨x9, h9⟩ := Num.raw g9 (by decide)
  refine symFunc_sound hmix tree_penumbralaw05_VecLinear (by kernel_rfl) rfl ?_
  unfold ir_penumbralaw05_VecLinear
  simp only [fa_agg, fa_one, fa_nil, List.cons_append, List.nil_append, List.append_nil]
  obtain ⟨q1, e1⟩ := ex_eq (x9 * x3)
  obtain ⟨q2, e2⟩ := ex_eq (x9 * x4)
  obtain ⟨q3, e3⟩ := ex_eq (x9 * x5)
  refine call_step (n_vec_Scale_0 (k0 := q1) (k1 := q2) (k2 := q3) (h9.mono (by decide)) (h3.mono (by decide)) (h4.mono (by decide)) (h5.mono (by decide)) e1 e2 e3) rfl ?_
  simp only [fa_agg, fa_one, fa_nil, List.cons_append, List.nil_append, List.append_nil]
  refine primS (rl3 [(r0, r1, r2), ((cr q1), (cr q2), (cr q3))]) rfl ?_
  have m5 : Num 2097152 (cr q1) q1 := Num.eqn e1 (Sm.mul h9.sm h3.sm)
  have m6 : Num 2097152 (cr q2) q2 := Num.eqn e2 (Sm.mul h9.sm h4.sm)
  have m7 : Num 2097152 (cr q3) q3 := Num.eqn e3 (Sm.mul h9.sm h5.sm)
  obtain ⟨q8, e8⟩ := ex_eq (x0 + q1)
  obtain ⟨q9, e9⟩ := ex_eq (x1 + q2)
  obtain ⟨q10, e10⟩ := ex_eq (x2 + q3)
  refine call_step (n_vec_Sum_2 (o0 := q8) (o1 := q9) (o2 := q10) (h0.mono (by decide)) (h1.mono (by decide)) (h2.mono (by decide)) (m5.mono (by decide)) (m6.mono (by decide)) (m7.mono (by decide)) e8 e9 e10) rfl ?_
  simp only [fa_agg, fa_one, fa_nil, List.cons_append, List.nil_append, List.append_nil]
  have m11 : Num 3145729 (cr q8) q8 := Num.eqn e8 (Sm.add h0.sm m5.sm)
  have m12 : Num 3145729 (cr q9) q9 := Num.eqn e9 (Sm.add h1.sm m6.sm)
  have m13 : Num 3145729 (cr q10) q10 := Num.eqn e10 (Sm.add h2.sm m7.sm)
  obtain ⟨q14, e14⟩ := ex_eq (((q8 * x6) + (q9 * x7)) + (q10 * x8))
  refine call_step (n_vec_Dot_0 (k0 := q14) (m11.mono (by decide)) (m12.mono (by decide)) (m13.mono (by decide)) (h6.mono (by decide)) (h7.mono (by decide)) (h8.mono (by decide)) e14) rfl ?_
  simp only [fa_agg, fa_one, fa_nil, List.cons_append, List.nil_append, List.append_nil]
  obtain ⟨q15, e15⟩ := ex_eq (((x0 * x6) + (x1 * x7)) + (x2 * x8))
  refine call_step (n_vec_Dot_0 (k0 := q15) (h0.mono (by decide)) (h1.mono (by decide)) (h2.mono (by decide)) (h6.mono (by decide)) (h7.mono (by decide)) (h8.mono (by decide)) e15) rfl ?_
  simp only [fa_agg, fa_one, fa_nil, List.cons_append, List.nil_append, List.append_nil]
  obtain ⟨q16, e16⟩ := ex_eq (((x3 * x6) + (x4 * x7)) + (x5 * x8))
  refine call_step (n_vec_Dot_0 (k0 := q16) (h3.mono (by decide)) (h4.mono (by decide)) (h5.mono (by decide)) (h6.mono (by decide)) (h7.mono (by decide)) (h8.mono (by decide)) e16) rfl ?_
  simp only [fa_agg, fa_one, fa_nil, List.cons_append, List.nil_append, List.append_nil]
  refine primS (rl [r9, (cr q16)]) rfl ?_
  have m18 : Num 6291458 (cr q16) q16 := Num.eqn e16 (Sm.add (Sm.add (Sm.mul h3.sm h6.sm) (Sm.mul h4.sm h7.sm)) (Sm.mul h5.sm h8.sm))
  obtain ⟨q19, e19⟩ := ex_eq (x9 * q16)
  refine call_step (n_rat_Product_2 (k0 := q19) (h9.mono (by decide)) (m18.mono (by decide)) e19) rfl ?_
  simp only [fa_agg, fa_one, fa_nil, List.cons_append, List.nil_append, List.append_nil]
  refine primS (rl [(cr q15), (cr q19)]) rfl ?_
  have m21 : Num 6291458 (cr q15) q15 := Num.eqn e15 (Sm.add (Sm.add (Sm.mul h0.sm h6.sm) (Sm.mul h1.sm h7.sm)) (Sm.mul h2.sm h8.sm))
  have m22 : Num 7340034 (cr q19) q19 := Num.eqn e19 (Sm.mul h9.sm m18.sm)
  have u23 : q14 = (q15 + q19) := (VecLinear_al24 e1 e8 e2 e9 e3 e10 e14 e15 e16 e19)
  refine call_step (n_rat_Sum_2 (k0 := q14) (m21.mono (by decide)) (m22.mono (by decide)) u23) rfl ?_
  simp only [fa_agg, fa_one, fa_nil, List.cons_append, List.nil_append, List.append_nil]
  have m25 : Num 12582917 (cr q14) q14 := Num.eqn e14 (Sm.add (Sm.add (Sm.mul m11.sm h6.sm) (Sm.mul m12.sm h7.sm)) (Sm.mul m13.sm h8.sm))
  refine call_step (n_penumbraref03_Is_t (m25.mono (by decide)) (m25.mono (by decide)) rfl) rfl ?_
  simp only [fa_agg, fa_one, fa_nil, List.cons_append, List.nil_append, List.append_nil]
  refine itT rfl ?_
  refine call_step (n_vec_Dot_0 (k0 := q15) (h0.mono (by decide)) (h1.mono (by decide)) (h2.mono (by decide)) (h6.mono (by decide)) (h7.mono (by decide)) (h8.mono (by decide)) e15) rfl ?_
  simp only [fa_agg, fa_one, fa_nil, List.cons_append, List.nil_append, List.append_nil]
  have u26 : q15 = (((x6 * x0) + (x7 * x1)) + (x8 * x2)) := (VecLinear_al27 e15)
  refine call_step (n_vec_Dot_0 (k0 := q15) (h6.mono (by decide)) (h7.mono (by decide)) (h8.mono (by decide)) (h0.mono (by decide)) (h1.mono (by decide)) (h2.mono (by decide)) u26) rfl ?_
  simp only [fa_agg, fa_one, fa_nil, List.cons_append, List.nil_append, List.append_nil]
  refine call_step (n_penumbraref03_Is_t (m21.mono (by decide)) (m21.mono (by decide)) rfl) rfl ?_
  simp only [fa_agg, fa_one, fa_nil, List.cons_append, List.nil_append, List.append_nil]
  obtain ⟨q28, e28⟩ := ex_eq ((q9 * x8) - (q10 * x7))
  obtain ⟨q29, e29⟩ := ex_eq ((q10 * x6) - (q8 * x8))
  obtain ⟨q30, e30⟩ := ex_eq ((q8 * x7) - (q9 * x6))
  refine call_step (n_vec_Cross_0 (k0 := q28) (k1 := q29) (k2 := q30) (m11.mono (by decide)) (m12.mono (by decide)) (m13.mono (by decide)) (h6.mono (by decide)) (h7.mono (by decide)) (h8.mono (by decide)) e28 e29 e30) rfl ?_
  simp only [fa_agg, fa_one, fa_nil, List.cons_append, List.nil_append, List.append_nil]
  obtain ⟨q31, e31⟩ := ex_eq ((x1 * x8) - (x2 * x7))
  obtain ⟨q32, e32⟩ := ex_eq ((x2 * x6) - (x0 * x8))
  obtain ⟨q33, e33⟩ := ex_eq ((x0 * x7) - (x1 * x6))
  refine call_step (n_vec_Cross_0 (k0 := q31) (k1 := q32) (k2 := q33) (h0.mono (by decide)) (h1.mono (by decide)) (h2.mono (by decide)) (h6.mono (by decide)) (h7.mono (by decide)) (h8.mono (by decide)) e31 e32 e33) rfl ?_
  simp only [fa_agg, fa_one, fa_nil, List.cons_append, List.nil_append, List.append_nil]
  obtain ⟨q34, e34⟩ := ex_eq ((x4 * x8) - (x5 * x7))
  obtain ⟨q35, e35⟩ := ex_eq ((x5 * x6) - (x3 * x8))
  obtain ⟨q36, e36⟩ := ex_eq ((x3 * x7) - (x4 * x6))
  refine call_step (n_vec_Cross_0 (k0 := q34) (k1 := q35) (k2 := q36) (h3.mono (by decide)) (h4.mono (by decide)) (h5.mono (by decide)) (h6.mono (by decide)) (h7.mono (by decide)) (h8.mono (by decide)) e34 e35 e36) rfl ?_
  simp only [fa_agg, fa_one, fa_nil, List.cons_append, List.nil_append, List.append_nil]
  have m37 : Num 4194305 (cr q34) q34 := Num.eqn e34 (Sm.sub (Sm.mul h4.sm h8.sm) (Sm.mul h5.sm h7.sm))
  have m38 : Num 4194305 (cr q35) q35 := Num.eqn e35 (Sm.sub (Sm.mul h5.sm h6.sm) (Sm.mul h3.sm h8.sm))
  have m39 : Num 4194305 (cr q36) q36 := Num.eqn e36 (Sm.sub (Sm.mul h3.sm h7.sm) (Sm.mul h4.sm h6.sm))
  obtain ⟨q40, e40⟩ := ex_eq (x9 * q34)
  obtain ⟨q41, e41⟩ := ex_eq (x9 * q35)
  obtain ⟨q42, e42⟩ := ex_eq (x9 * q36)
  refine call_step (n_vec_Scale_0 (k0 := q40) (k1 := q41) (k2 := q42) (h9.mono (by decide)) (m37.mono (by decide)) (m38.mono (by decide)) (m39.mono (by decide)) e40 e41 e42) rfl ?_
  simp only [fa_agg, fa_one, fa_nil, List.cons_append, List.nil_append, List.append_nil]
  refine primS (rl3 [((cr q31), (cr q32), (cr q33)), ((cr q40), (cr q41), (cr q42))]) rfl ?_
  have m44 : Num 4194305 (cr q31) q31 := Num.eqn e31 (Sm.sub (Sm.mul h1.sm h8.sm) (Sm.mul h2.sm h7.sm))
  have m45 : Num 4194305 (cr q32) q32 := Num.eqn e32 (Sm.sub (Sm.mul h2.sm h6.sm) (Sm.mul h0.sm h8.sm))
  have m46 : Num 4194305 (cr q33) q33 := Num.eqn e33 (Sm.sub (Sm.mul h0.sm h7.sm) (Sm.mul h1.sm h6.sm))
  have m47 : Num 5242881 (cr q40) q40 := Num.eqn e40 (Sm.mul h9.sm m37.sm)
  have m48 : Num 5242881 (cr q41) q41 := Num.eqn e41 (Sm.mul h9.sm m38.sm)
  have m49 : Num 5242881 (cr q42) q42 := Num.eqn e42 (Sm.mul h9.sm m39.sm)
  have u50 : q28 = (q31 + q40) := (VecLinear_al51 e2 e9 e3 e10 e28 e31 e34 e40)
  have u52 : q29 = (q32 + q41) := (VecLinear_al53 e3 e10 e1 e8 e29 e32 e35 e41)
  have u54 : q30 = (q33 + q42) := (VecLinear_al55 e1 e8 e2 e9 e30 e33 e36 e42)
  refine call_step (n_vec_Sum_2 (o0 := q28) (o1 := q29) (o2 := q30) (m44.mono (by decide)) (m45.mono (by decide)) (m46.mono (by decide)) (m47.mono (by decide)) (m48.mono (by decide)) (m49.mono (by decide)) u50 u52 u54) rfl ?_
  simp only [fa_agg, fa_one, fa_nil, List.cons_append, List.nil_append, List.append_nil]
  have m56 : Num 8388611 (cr q28) q28 := Num.eqn e28 (Sm.sub (Sm.mul m12.sm h8.sm) (Sm.mul m13.sm h7.sm))
  have m57 : Num 8388611 (cr q29) q29 := Num.eqn e29 (Sm.sub (Sm.mul m13.sm h6.sm) (Sm.mul m11.sm h8.sm))
  have m58 : Num 8388611 (cr q30) q30 := Num.eqn e30 (Sm.sub (Sm.mul m11.sm h7.sm) (Sm.mul m12.sm h6.sm))
  refine call_step (n_penumbraref05_Is_0 (m56.mono (by decide)) (m57.mono (by decide)) (m58.mono (by decide)) (m56.mono (by decide)) (m57.mono (by decide)) (m58.mono (by decide)) rfl rfl rfl) rfl ?_
  simp only [fa_agg, fa_one, fa_nil, List.cons_append, List.nil_append, List.append_nil]
  refine itT rfl ?_
  obtain ⟨q59, e59⟩ := ex_eq ((x7 * q10) - (x8 * q9))
  obtain ⟨q60, e60⟩ := ex_eq ((x8 * q8) - (x6 * q10))
  obtain ⟨q61, e61⟩ := ex_eq ((x6 * q9) - (x7 * q8))
  refine call_step (n_vec_Cross_0 (k0 := q59) (k1 := q60) (k2 := q61) (h6.mono (by decide)) (h7.mono (by decide)) (h8.mono (by decide)) (m11.mono (by decide)) (m12.mono (by decide)) (m13.mono (by decide)) e59 e60 e61) rfl ?_
  simp only [fa_agg, fa_one, fa_nil, List.cons_append, List.nil_append, List.append_nil]
  refine call_step (n_rat_Of (-1) (1) (by decide) (by decide) (by decide) (by decide) (Ym1.trans (by decide +kernel))) rfl ?_
  simp only [fa_agg, fa_one, fa_nil, List.cons_append, List.nil_append, List.append_nil]
  refine call_step (n_vec_Cross_0 (k0 := q28) (k1 := q29) (k2 := q30) (m11.mono (by decide)) (m12.mono (by decide)) (m13.mono (by decide)) (h6.mono (by decide)) (h7.mono (by decide)) (h8.mono (by decide)) e28 e29 e30) rfl ?_
  simp only [fa_agg, fa_one, fa_nil, List.cons_append, List.nil_append, List.append_nil]
  have m62 : Num 1 (cr Zm1) Zm1 := Num.c Ym1 (by decide +kernel) (by decide +kernel)
  have u63 : q59 = (Zm1 * q28) := (VecLinear_al64 Ym1 e3 e10 e2 e9 e59 e28)
  have u65 : q60 = (Zm1 * q29) := (VecLinear_al66 Ym1 e1 e8 e3 e10 e60 e29)
  have u67 : q61 = (Zm1 * q30) := (VecLinear_al68 Ym1 e2 e9 e1 e8 e61 e30)
  refine call_step (n_vec_Scale_0 (k0 := q59) (k1 := q60) (k2 := q61) (m62.mono (by decide)) (m56.mono (by decide)) (m57.mono (by decide)) (m58.mono (by decide)) u63 u65 u67) rfl ?_
  simp only [fa_agg, fa_one, fa_nil, List.cons_append, List.nil_append, List.append_nil]
  have m69 : Num 8388611 (cr q59) q59 := Num.eqn e59 (Sm.sub (Sm.mul h7.sm m13.sm) (Sm.mul h8.sm m12.sm))
  have m70 : Num 8388611 (cr q60) q60 := Num.eqn e60 (Sm.sub (Sm.mul h8.sm m11.sm) (Sm.mul h6.sm m13.sm))
  have m71 : Num 8388611 (cr q61) q61 := Num.eqn e61 (Sm.sub (Sm.mul h6.sm m12.sm) (Sm.mul h7.sm m11.sm))
  refine call_step (n_penumbraref05_Is_0 (m69.mono (by decide)) (m70.mono (by decide)) (m71.mono (by decide)) (m69.mono (by decide)) (m70.mono (by decide)) (m71.mono (by decide)) rfl rfl rfl) rfl ?_
  simp only [fa_agg, fa_one, fa_nil, List.cons_append, List.nil_append, List.append_nil]
  refine call_step n_penumbralaw05_fixed rfl ?_
  simp only [fa_agg, fa_one, fa_nil, List.cons_append, List.nil_append, List.append_nil]
  refine itT rfl ?_
  refine itT rfl ?_
  refine itT rfl ?_
  refine primS (rl3 [(r0, r1, r2), (r3, r4, r5), (r6, r7, r8)]) rfl ?_
  obtain ⟨q73, e73⟩ := ex_eq ((x0 + x3) + x6)
  obtain ⟨q74, e74⟩ := ex_eq ((x1 + x4) + x7)
  obtain ⟨q75, e75⟩ := ex_eq ((x2 + x5) + x8)
  refine call_step (n_vec_Sum_3 (o0 := q73) (o1 := q74) (o2 := q75) (h0.mono (by decide)) (h1.mono (by decide)) (h2.mono (by decide)) (h3.mono (by decide)) (h4.mono (by decide)) (h5.mono (by decide)) (h6.mono (by decide)) (h7.mono (by decide)) (h8.mono (by decide)) e73 e74 e75) rfl ?_
  simp only [fa_agg, fa_one, fa_nil, List.cons_append, List.nil_append, List.append_nil]
  have m76 : Num 3145730 (cr q73) q73 := Num.eqn e73 (Sm.add (Sm.add h0.sm h3.sm) h6.sm)
  have m77 : Num 3145730 (cr q74) q74 := Num.eqn e74 (Sm.add (Sm.add h1.sm h4.sm) h7.sm)
  have m78 : Num 3145730 (cr q75) q75 := Num.eqn e75 (Sm.add (Sm.add h2.sm h5.sm) h8.sm)
  obtain ⟨q79, e79⟩ := ex_eq (q73 - x6)
  obtain ⟨q80, e80⟩ := ex_eq (q74 - x7)
  obtain ⟨q81, e81⟩ := ex_eq (q75 - x8)
  refine call_step (n_vec_Sub_0 (k0 := q79) (k1 := q80) (k2 := q81) (m76.mono (by decide)) (m77.mono (by decide)) (m78.mono (by decide)) (h6.mono (by decide)) (h7.mono (by decide)) (h8.mono (by decide)) e79 e80 e81) rfl ?_
  simp only [fa_agg, fa_one, fa_nil, List.cons_append, List.nil_append, List.append_nil]
  refine primS (rl3 [(r3, r4, r5), (r0, r1, r2)]) rfl ?_
  have u83 : q79 = (x3 + x0) := (VecLinear_al84 e73 e79)
  have u85 : q80 = (x4 + x1) := (VecLinear_al86 e74 e80)
  have u87 : q81 = (x5 + x2) := (VecLinear_al88 e75 e81)
  refine call_step (n_vec_Sum_2 (o0 := q79) (o1 := q80) (o2 := q81) (h3.mono (by decide)) (h4.mono (by decide)) (h5.mono (by decide)) (h0.mono (by decide)) (h1.mono (by decide)) (h2.mono (by decide)) u83 u85 u87) rfl ?_
  simp only [fa_agg, fa_one, fa_nil, List.cons_append, List.nil_append, List.append_nil]
  have m89 : Num 4194307 (cr q79) q79 := Num.eqn e79 (Sm.sub m76.sm h6.sm)
  have m90 : Num 4194307 (cr q80) q80 := Num.eqn e80 (Sm.sub m77.sm h7.sm)
  have m91 : Num 4194307 (cr q81) q81 := Num.eqn e81 (Sm.sub m78.sm h8.sm)
  refine call_step (n_penumbraref05_Is_0 (m89.mono (by decide)) (m90.mono (by decide)) (m91.mono (by decide)) (m89.mono (by decide)) (m90.mono (by decide)) (m91.mono (by decide)) rfl rfl rfl) rfl ?_
  simp only [fa_agg, fa_one, fa_nil, List.cons_append, List.nil_append, List.append_nil]
  exact ret_step rfl

end Go.Px.Na

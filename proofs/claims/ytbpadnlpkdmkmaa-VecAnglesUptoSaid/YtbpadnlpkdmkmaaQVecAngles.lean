/- QVecAngles: whatever the numbers, the law tells true. -/
import Derived.Test.YtbpadnlpkdmkmaaXVecAngles
set_option maxRecDepth 20000
set_option maxHeartbeats 4000000
set_option linter.unusedVariables false
set_option linter.unusedSimpArgs false
namespace Go.Px.Na
open Go.RowKit
open Go.Proofs.Try (prog)

theorem VecAngles_al9 {Z0 : Rat} (Y0 : Z0 = (0 : Rat)) {q1 x1 x5 x2 x4 x0 q2 x3 q3 : Rat} (e1 : q1 = ((x1 * x5) - (x2 * x4))) (e2 : q2 = ((x2 * x3) - (x0 * x5))) (e3 : q3 = ((x0 * x4) - (x1 * x3))) : Z0 = (((q1 * x0) + (q2 * x1)) + (q3 * x2)) := by
  subst Y0 e1 e2 e3
  grind

theorem VecAngles_al12 {Z0 : Rat} (Y0 : Z0 = (0 : Rat)) {q1 x1 x5 x2 x4 x3 q2 x0 q3 : Rat} (e1 : q1 = ((x1 * x5) - (x2 * x4))) (e2 : q2 = ((x2 * x3) - (x0 * x5))) (e3 : q3 = ((x0 * x4) - (x1 * x3))) : Z0 = (((q1 * x3) + (q2 * x4)) + (q3 * x5)) := by
  subst Y0 e1 e2 e3
  grind

theorem VecAngles_al21  {q13 q1 x1 x5 x2 x4 x6 q2 x3 x0 x7 q3 x8 q14 q15 q16 : Rat} (e1 : q1 = ((x1 * x5) - (x2 * x4))) (e2 : q2 = ((x2 * x3) - (x0 * x5))) (e3 : q3 = ((x0 * x4) - (x1 * x3))) (e13 : q13 = (((q1 * x6) + (q2 * x7)) + (q3 * x8))) (e14 : q14 = ((x4 * x8) - (x5 * x7))) (e15 : q15 = ((x5 * x6) - (x3 * x8))) (e16 : q16 = ((x3 * x7) - (x4 * x6))) : q13 = (((q14 * x0) + (q15 * x1)) + (q16 * x2)) := by
  subst e1 e2 e3 e13 e14 e15 e16
  grind

theorem VecAngles_al30  {q13 q1 x1 x5 x2 x4 x6 q2 x3 x0 x7 q3 x8 q23 q24 q25 : Rat} (e1 : q1 = ((x1 * x5) - (x2 * x4))) (e2 : q2 = ((x2 * x3) - (x0 * x5))) (e3 : q3 = ((x0 * x4) - (x1 * x3))) (e13 : q13 = (((q1 * x6) + (q2 * x7)) + (q3 * x8))) (e23 : q23 = ((x7 * x2) - (x8 * x1))) (e24 : q24 = ((x8 * x0) - (x6 * x2))) (e25 : q25 = ((x6 * x1) - (x7 * x0))) : q13 = (((q23 * x3) + (q24 * x4)) + (q25 * x5)) := by
  subst e1 e2 e3 e13 e23 e24 e25
  grind

theorem VecAngles_al40  {q13 q1 x1 x5 x2 x4 x6 q2 x3 x0 x7 q3 x8 q37 q31 q32 q33 : Rat} (e1 : q1 = ((x1 * x5) - (x2 * x4))) (e2 : q2 = ((x2 * x3) - (x0 * x5))) (e3 : q3 = ((x0 * x4) - (x1 * x3))) (e13 : q13 = (((q1 * x6) + (q2 * x7)) + (q3 * x8))) (e31 : q31 = ((x4 * x2) - (x5 * x1))) (e32 : q32 = ((x5 * x0) - (x3 * x2))) (e33 : q33 = ((x3 * x1) - (x4 * x0))) (e37 : q37 = (((q31 * x6) + (q32 * x7)) + (q33 * x8))) : q13 = (-q37) := by
  subst e1 e2 e3 e13 e31 e32 e33 e37
  grind

theorem VecAngles_al55  {q48 q43 q4 x0 x3 x1 x4 x2 x5 q44 q1 q2 q3 q49 q50 : Rat} (e4 : q4 = (((x0 * x3) + (x1 * x4)) + (x2 * x5))) (e43 : q43 = (q4 * q4)) (e1 : q1 = ((x1 * x5) - (x2 * x4))) (e2 : q2 = ((x2 * x3) - (x0 * x5))) (e3 : q3 = ((x0 * x4) - (x1 * x3))) (e44 : q44 = (((q1 * q1) + (q2 * q2)) + (q3 * q3))) (e48 : q48 = (q43 + q44)) (e49 : q49 = (((x0 * x0) + (x1 * x1)) + (x2 * x2))) (e50 : q50 = (((x3 * x3) + (x4 * x4)) + (x5 * x5))) : q48 = (q49 * q50) := by
  subst e4 e43 e1 e2 e3 e44 e48 e49 e50
  grind

theorem pure_VecAngles {r0 r1 r2 r3 r4 r5 r6 r7 r8 : RR} (g0 : r0.ok 1048576) (g1 : r1.ok 1048576) (g2 : r2.ok 1048576) (g3 : r3.ok 1048576) (g4 : r4.ok 1048576) (g5 : r5.ok 1048576) (g6 : r6.ok 1048576) (g7 : r7.ok 1048576) (g8 : r8.ok 1048576) : PureCalls prog F.penumbralaw05_VecAngles [.agg ([.bool r0.neg, nl r0.num, nl r0.den, .bool r1.neg, nl r1.num, nl r1.den, .bool r2.neg, nl r2.num, nl r2.den]), .agg ([.bool r3.neg, nl r3.num, nl r3.den, .bool r4.neg, nl r4.num, nl r4.den, .bool r5.neg, nl r5.num, nl r5.den]), .agg ([.bool r6.neg, nl r6.num, nl r6.den, .bool r7.neg, nl r7.num, nl r7.den, .bool r8.neg, nl r8.num, nl r8.den])] [.one (.bool true)] := by
  obtain ⟨Z0, Y0⟩ := ex_eq (0 : Rat)
  obtain ⟨x0, h0⟩ := Num.raw g0 (by decide)
  obtain ⟨x1, h1⟩ := Num.raw g1 (by decide)
  obtain ⟨x2, h2⟩ := Num.raw g2 (by decide)
  obtain ⟨x3, h3⟩ := Num.raw g3 (by decide)
  obtain ⟨x4, h4⟩ := Num.raw g4 (by decide)
  obtain ⟨x5, h5⟩ := Num.raw g5 (by decide)
  obtain ⟨x6, h6⟩ := Num.raw g6 (by decide)
  obtain ⟨x7, h7⟩ := Num.raw g7 (by decide)
  obtain ⟨x8, h8⟩ := Num.raw g8 (by decide)
  refine symFunc_sound hmix tree_penumbralaw05_VecAngles (by kernel_rfl) rfl ?_
  unfold ir_penumbralaw05_VecAngles
  simp only [fa_agg, fa_one, fa_nil, List.cons_append, List.nil_append, List.append_nil]
  obtain ⟨q1, e1⟩ := ex_eq ((x1 * x5) - (x2 * x4))
  obtain ⟨q2, e2⟩ := ex_eq ((x2 * x3) - (x0 * x5))
  obtain ⟨q3, e3⟩ := ex_eq ((x0 * x4) - (x1 * x3))
  refine call_step (n_vec_Cross_0 (k0 := q1) (k1 := q2) (k2 := q3) (h0.mono (by decide)) (h1.mono (by decide)) (h2.mono (by decide)) (h3.mono (by decide)) (h4.mono (by decide)) (h5.mono (by decide)) e1 e2 e3) rfl ?_
  simp only [fa_agg, fa_one, fa_nil, List.cons_append, List.nil_append, List.append_nil]
  obtain ⟨q4, e4⟩ := ex_eq (((x0 * x3) + (x1 * x4)) + (x2 * x5))
  refine call_step (n_vec_Dot_0 (k0 := q4) (h0.mono (by decide)) (h1.mono (by decide)) (h2.mono (by decide)) (h3.mono (by decide)) (h4.mono (by decide)) (h5.mono (by decide)) e4) rfl ?_
  simp only [fa_agg, fa_one, fa_nil, List.cons_append, List.nil_append, List.append_nil]
  refine call_step n_penumbralaw05_fixed rfl ?_
  simp only [fa_agg, fa_one, fa_nil, List.cons_append, List.nil_append, List.append_nil]
  refine primS (.bool false) rfl ?_
  refine itF rfl ?_
  have m5 : Num 4194305 (cr q1) q1 := Num.eqn e1 (Sm.sub (Sm.mul h1.sm h5.sm) (Sm.mul h2.sm h4.sm))
  have m6 : Num 4194305 (cr q2) q2 := Num.eqn e2 (Sm.sub (Sm.mul h2.sm h3.sm) (Sm.mul h0.sm h5.sm))
  have m7 : Num 4194305 (cr q3) q3 := Num.eqn e3 (Sm.sub (Sm.mul h0.sm h4.sm) (Sm.mul h1.sm h3.sm))
  have u8 : Z0 = (((q1 * x0) + (q2 * x1)) + (q3 * x2)) := (VecAngles_al9 Y0 e1 e2 e3)
  refine call_step (n_vec_Dot_0 (k0 := Z0) (m5.mono (by decide)) (m6.mono (by decide)) (m7.mono (by decide)) (h0.mono (by decide)) (h1.mono (by decide)) (h2.mono (by decide)) u8) rfl ?_
  simp only [fa_agg, fa_one, fa_nil, List.cons_append, List.nil_append, List.append_nil]
  have m10 : Num 1 (cr Z0) Z0 := Num.c Y0 (by decide +kernel) (by decide +kernel)
  refine call_step (n_rat_Sign (m10.mono (by decide))) rfl ?_
  simp only [fa_agg, fa_one, fa_nil, List.cons_append, List.nil_append, List.append_nil]
  refine primS (.bool false) (cs_neq_f ((sg_eq Y0).2 rfl)) ?_
  refine itF rfl ?_
  have u11 : Z0 = (((q1 * x3) + (q2 * x4)) + (q3 * x5)) := (VecAngles_al12 Y0 e1 e2 e3)
  refine call_step (n_vec_Dot_0 (k0 := Z0) (m5.mono (by decide)) (m6.mono (by decide)) (m7.mono (by decide)) (h3.mono (by decide)) (h4.mono (by decide)) (h5.mono (by decide)) u11) rfl ?_
  simp only [fa_agg, fa_one, fa_nil, List.cons_append, List.nil_append, List.append_nil]
  refine call_step (n_rat_Sign (m10.mono (by decide))) rfl ?_
  simp only [fa_agg, fa_one, fa_nil, List.cons_append, List.nil_append, List.append_nil]
  refine primS (.bool false) (cs_neq_f ((sg_eq Y0).2 rfl)) ?_
  refine itF rfl ?_
  obtain ⟨q13, e13⟩ := ex_eq (((q1 * x6) + (q2 * x7)) + (q3 * x8))
  refine call_step (n_vec_Dot_0 (k0 := q13) (m5.mono (by decide)) (m6.mono (by decide)) (m7.mono (by decide)) (h6.mono (by decide)) (h7.mono (by decide)) (h8.mono (by decide)) e13) rfl ?_
  simp only [fa_agg, fa_one, fa_nil, List.cons_append, List.nil_append, List.append_nil]
  obtain ⟨q14, e14⟩ := ex_eq ((x4 * x8) - (x5 * x7))
  obtain ⟨q15, e15⟩ := ex_eq ((x5 * x6) - (x3 * x8))
  obtain ⟨q16, e16⟩ := ex_eq ((x3 * x7) - (x4 * x6))
  refine call_step (n_vec_Cross_0 (k0 := q14) (k1 := q15) (k2 := q16) (h3.mono (by decide)) (h4.mono (by decide)) (h5.mono (by decide)) (h6.mono (by decide)) (h7.mono (by decide)) (h8.mono (by decide)) e14 e15 e16) rfl ?_
  simp only [fa_agg, fa_one, fa_nil, List.cons_append, List.nil_append, List.append_nil]
  have m17 : Num 4194305 (cr q14) q14 := Num.eqn e14 (Sm.sub (Sm.mul h4.sm h8.sm) (Sm.mul h5.sm h7.sm))
  have m18 : Num 4194305 (cr q15) q15 := Num.eqn e15 (Sm.sub (Sm.mul h5.sm h6.sm) (Sm.mul h3.sm h8.sm))
  have m19 : Num 4194305 (cr q16) q16 := Num.eqn e16 (Sm.sub (Sm.mul h3.sm h7.sm) (Sm.mul h4.sm h6.sm))
  have u20 : q13 = (((q14 * x0) + (q15 * x1)) + (q16 * x2)) := (VecAngles_al21 e1 e2 e3 e13 e14 e15 e16)
  refine call_step (n_vec_Dot_0 (k0 := q13) (m17.mono (by decide)) (m18.mono (by decide)) (m19.mono (by decide)) (h0.mono (by decide)) (h1.mono (by decide)) (h2.mono (by decide)) u20) rfl ?_
  simp only [fa_agg, fa_one, fa_nil, List.cons_append, List.nil_append, List.append_nil]
  have m22 : Num 15728645 (cr q13) q13 := Num.eqn e13 (Sm.add (Sm.add (Sm.mul m5.sm h6.sm) (Sm.mul m6.sm h7.sm)) (Sm.mul m7.sm h8.sm))
  refine call_step (n_penumbraref03_Is_t (m22.mono (by decide)) (m22.mono (by decide)) rfl) rfl ?_
  simp only [fa_agg, fa_one, fa_nil, List.cons_append, List.nil_append, List.append_nil]
  refine itT rfl ?_
  obtain ⟨q23, e23⟩ := ex_eq ((x7 * x2) - (x8 * x1))
  obtain ⟨q24, e24⟩ := ex_eq ((x8 * x0) - (x6 * x2))
  obtain ⟨q25, e25⟩ := ex_eq ((x6 * x1) - (x7 * x0))
  refine call_step (n_vec_Cross_0 (k0 := q23) (k1 := q24) (k2 := q25) (h6.mono (by decide)) (h7.mono (by decide)) (h8.mono (by decide)) (h0.mono (by decide)) (h1.mono (by decide)) (h2.mono (by decide)) e23 e24 e25) rfl ?_
  simp only [fa_agg, fa_one, fa_nil, List.cons_append, List.nil_append, List.append_nil]
  have m26 : Num 4194305 (cr q23) q23 := Num.eqn e23 (Sm.sub (Sm.mul h7.sm h2.sm) (Sm.mul h8.sm h1.sm))
  have m27 : Num 4194305 (cr q24) q24 := Num.eqn e24 (Sm.sub (Sm.mul h8.sm h0.sm) (Sm.mul h6.sm h2.sm))
  have m28 : Num 4194305 (cr q25) q25 := Num.eqn e25 (Sm.sub (Sm.mul h6.sm h1.sm) (Sm.mul h7.sm h0.sm))
  have u29 : q13 = (((q23 * x3) + (q24 * x4)) + (q25 * x5)) := (VecAngles_al30 e1 e2 e3 e13 e23 e24 e25)
  refine call_step (n_vec_Dot_0 (k0 := q13) (m26.mono (by decide)) (m27.mono (by decide)) (m28.mono (by decide)) (h3.mono (by decide)) (h4.mono (by decide)) (h5.mono (by decide)) u29) rfl ?_
  simp only [fa_agg, fa_one, fa_nil, List.cons_append, List.nil_append, List.append_nil]
  refine call_step (n_penumbraref03_Is_t (m22.mono (by decide)) (m22.mono (by decide)) rfl) rfl ?_
  simp only [fa_agg, fa_one, fa_nil, List.cons_append, List.nil_append, List.append_nil]
  refine itT rfl ?_
  obtain ⟨q31, e31⟩ := ex_eq ((x4 * x2) - (x5 * x1))
  obtain ⟨q32, e32⟩ := ex_eq ((x5 * x0) - (x3 * x2))
  obtain ⟨q33, e33⟩ := ex_eq ((x3 * x1) - (x4 * x0))
  refine call_step (n_vec_Cross_0 (k0 := q31) (k1 := q32) (k2 := q33) (h3.mono (by decide)) (h4.mono (by decide)) (h5.mono (by decide)) (h0.mono (by decide)) (h1.mono (by decide)) (h2.mono (by decide)) e31 e32 e33) rfl ?_
  simp only [fa_agg, fa_one, fa_nil, List.cons_append, List.nil_append, List.append_nil]
  have m34 : Num 4194305 (cr q31) q31 := Num.eqn e31 (Sm.sub (Sm.mul h4.sm h2.sm) (Sm.mul h5.sm h1.sm))
  have m35 : Num 4194305 (cr q32) q32 := Num.eqn e32 (Sm.sub (Sm.mul h5.sm h0.sm) (Sm.mul h3.sm h2.sm))
  have m36 : Num 4194305 (cr q33) q33 := Num.eqn e33 (Sm.sub (Sm.mul h3.sm h1.sm) (Sm.mul h4.sm h0.sm))
  obtain ⟨q37, e37⟩ := ex_eq (((q31 * x6) + (q32 * x7)) + (q33 * x8))
  refine call_step (n_vec_Dot_0 (k0 := q37) (m34.mono (by decide)) (m35.mono (by decide)) (m36.mono (by decide)) (h6.mono (by decide)) (h7.mono (by decide)) (h8.mono (by decide)) e37) rfl ?_
  simp only [fa_agg, fa_one, fa_nil, List.cons_append, List.nil_append, List.append_nil]
  have m38 : Num 15728645 (cr q37) q37 := Num.eqn e37 (Sm.add (Sm.add (Sm.mul m34.sm h6.sm) (Sm.mul m35.sm h7.sm)) (Sm.mul m36.sm h8.sm))
  have u39 : q13 = (-q37) := (VecAngles_al40 e1 e2 e3 e13 e31 e32 e33 e37)
  refine call_step (n_rat_Neg (k0 := q13) (m38.mono (by decide)) u39) rfl ?_
  simp only [fa_agg, fa_one, fa_nil, List.cons_append, List.nil_append, List.append_nil]
  refine call_step (n_penumbraref03_Is_t (m22.mono (by decide)) (m22.mono (by decide)) rfl) rfl ?_
  simp only [fa_agg, fa_one, fa_nil, List.cons_append, List.nil_append, List.append_nil]
  refine itT rfl ?_
  refine primS (rl [(cr q4), (cr q4)]) rfl ?_
  have m42 : Num 6291458 (cr q4) q4 := Num.eqn e4 (Sm.add (Sm.add (Sm.mul h0.sm h3.sm) (Sm.mul h1.sm h4.sm)) (Sm.mul h2.sm h5.sm))
  obtain ⟨q43, e43⟩ := ex_eq (q4 * q4)
  refine call_step (n_rat_Product_2 (k0 := q43) (m42.mono (by decide)) (m42.mono (by decide)) e43) rfl ?_
  simp only [fa_agg, fa_one, fa_nil, List.cons_append, List.nil_append, List.append_nil]
  obtain ⟨q44, e44⟩ := ex_eq (((q1 * q1) + (q2 * q2)) + (q3 * q3))
  refine call_step (n_vec_Dot_0 (k0 := q44) (m5.mono (by decide)) (m6.mono (by decide)) (m7.mono (by decide)) (m5.mono (by decide)) (m6.mono (by decide)) (m7.mono (by decide)) e44) rfl ?_
  simp only [fa_agg, fa_one, fa_nil, List.cons_append, List.nil_append, List.append_nil]
  refine primS (rl [(cr q43), (cr q44)]) rfl ?_
  have m46 : Num 12582916 (cr q43) q43 := Num.eqn e43 (Sm.mul m42.sm m42.sm)
  have m47 : Num 25165832 (cr q44) q44 := Num.eqn e44 (Sm.add (Sm.add (Sm.mul m5.sm m5.sm) (Sm.mul m6.sm m6.sm)) (Sm.mul m7.sm m7.sm))
  obtain ⟨q48, e48⟩ := ex_eq (q43 + q44)
  refine call_step (n_rat_Sum_2 (k0 := q48) (m46.mono (by decide)) (m47.mono (by decide)) e48) rfl ?_
  simp only [fa_agg, fa_one, fa_nil, List.cons_append, List.nil_append, List.append_nil]
  obtain ⟨q49, e49⟩ := ex_eq (((x0 * x0) + (x1 * x1)) + (x2 * x2))
  refine call_step (n_vec_Dot_0 (k0 := q49) (h0.mono (by decide)) (h1.mono (by decide)) (h2.mono (by decide)) (h0.mono (by decide)) (h1.mono (by decide)) (h2.mono (by decide)) e49) rfl ?_
  simp only [fa_agg, fa_one, fa_nil, List.cons_append, List.nil_append, List.append_nil]
  obtain ⟨q50, e50⟩ := ex_eq (((x3 * x3) + (x4 * x4)) + (x5 * x5))
  refine call_step (n_vec_Dot_0 (k0 := q50) (h3.mono (by decide)) (h4.mono (by decide)) (h5.mono (by decide)) (h3.mono (by decide)) (h4.mono (by decide)) (h5.mono (by decide)) e50) rfl ?_
  simp only [fa_agg, fa_one, fa_nil, List.cons_append, List.nil_append, List.append_nil]
  refine primS (rl [(cr q49), (cr q50)]) rfl ?_
  have m52 : Num 6291458 (cr q49) q49 := Num.eqn e49 (Sm.add (Sm.add (Sm.mul h0.sm h0.sm) (Sm.mul h1.sm h1.sm)) (Sm.mul h2.sm h2.sm))
  have m53 : Num 6291458 (cr q50) q50 := Num.eqn e50 (Sm.add (Sm.add (Sm.mul h3.sm h3.sm) (Sm.mul h4.sm h4.sm)) (Sm.mul h5.sm h5.sm))
  have u54 : q48 = (q49 * q50) := (VecAngles_al55 e4 e43 e1 e2 e3 e44 e48 e49 e50)
  refine call_step (n_rat_Product_2 (k0 := q48) (m52.mono (by decide)) (m53.mono (by decide)) u54) rfl ?_
  simp only [fa_agg, fa_one, fa_nil, List.cons_append, List.nil_append, List.append_nil]
  have m56 : Num 37748749 (cr q48) q48 := Num.eqn e48 (Sm.add m46.sm m47.sm)
  refine call_step (n_penumbraref03_Is_t (m56.mono (by decide)) (m56.mono (by decide)) rfl) rfl ?_
  simp only [fa_agg, fa_one, fa_nil, List.cons_append, List.nil_append, List.append_nil]
  exact ret_step rfl

end Go.Px.Na

/- QAffineAreas: whatever the numbers, the law tells true. -/
import Derived.Test.YtbpadnlpkdmkmaaXAffineAreas
set_option maxRecDepth 20000
set_option maxHeartbeats 40000000
set_option linter.unusedVariables false
set_option linter.unusedSimpArgs false
namespace Go.Px.Na
open Go.RowKit
open Go.Proofs.Try (prog)

theorem AffineAreas_al23  {q7 x4 x8 x5 x7 q1 x25 x29 x26 x28 x6 x3 q2 x27 x24 q3 q11 q15 q12 q14 : Rat} (e1 : q1 = ((x25 * x29) - (x26 * x28))) (e2 : q2 = ((x26 * x27) - (x24 * x29))) (e3 : q3 = ((x24 * x28) - (x25 * x27))) (e7 : q7 = (((((x4 * x8) - (x5 * x7)) * q1) + (((x5 * x6) - (x3 * x8)) * q2)) + (((x3 * x7) - (x4 * x6)) * q3))) (e11 : q11 = (((x3 * x24) + (x4 * x25)) + (x5 * x26))) (e15 : q15 = (((x6 * x27) + (x7 * x28)) + (x8 * x29))) (e12 : q12 = (((x6 * x24) + (x7 * x25)) + (x8 * x26))) (e14 : q14 = (((x3 * x27) + (x4 * x28)) + (x5 * x29))) : q7 = ((q11 * q15) - (q12 * q14)) := by
  subst e1 e2 e3 e7 e11 e15 e12 e14
  grind

theorem AffineAreas_al25  {q8 x7 x2 x8 x1 q1 x25 x29 x26 x28 x0 x6 q2 x27 x24 q3 q12 q13 q10 q15 : Rat} (e1 : q1 = ((x25 * x29) - (x26 * x28))) (e2 : q2 = ((x26 * x27) - (x24 * x29))) (e3 : q3 = ((x24 * x28) - (x25 * x27))) (e8 : q8 = (((((x7 * x2) - (x8 * x1)) * q1) + (((x8 * x0) - (x6 * x2)) * q2)) + (((x6 * x1) - (x7 * x0)) * q3))) (e12 : q12 = (((x6 * x24) + (x7 * x25)) + (x8 * x26))) (e13 : q13 = (((x0 * x27) + (x1 * x28)) + (x2 * x29))) (e10 : q10 = (((x0 * x24) + (x1 * x25)) + (x2 * x26))) (e15 : q15 = (((x6 * x27) + (x7 * x28)) + (x8 * x29))) : q8 = ((q12 * q13) - (q10 * q15)) := by
  subst e1 e2 e3 e8 e12 e13 e10 e15
  grind

theorem AffineAreas_al27  {q9 x1 x5 x2 x4 q1 x25 x29 x26 x28 x3 x0 q2 x27 x24 q3 q10 q14 q11 q13 : Rat} (e1 : q1 = ((x25 * x29) - (x26 * x28))) (e2 : q2 = ((x26 * x27) - (x24 * x29))) (e3 : q3 = ((x24 * x28) - (x25 * x27))) (e9 : q9 = (((((x1 * x5) - (x2 * x4)) * q1) + (((x2 * x3) - (x0 * x5)) * q2)) + (((x0 * x4) - (x1 * x3)) * q3))) (e10 : q10 = (((x0 * x24) + (x1 * x25)) + (x2 * x26))) (e14 : q14 = (((x3 * x27) + (x4 * x28)) + (x5 * x29))) (e11 : q11 = (((x3 * x24) + (x4 * x25)) + (x5 * x26))) (e13 : q13 = (((x0 * x27) + (x1 * x28)) + (x2 * x29))) : q9 = ((q10 * q14) - (q11 * q13)) := by
  subst e1 e2 e3 e9 e10 e14 e11 e13
  grind

theorem AffineAreas_al59  {q55 q35 x15 x1 x16 x4 x17 x7 q39 x18 x2 x19 x5 x20 x8 q36 q38 q1 x25 x29 x26 x28 q37 x0 x3 x6 q34 q2 x27 x24 q3 q7 q8 q9 : Rat} (e35 : q35 = (((x15 * x1) + (x16 * x4)) + (x17 * x7))) (e39 : q39 = (((x18 * x2) + (x19 * x5)) + (x20 * x8))) (e36 : q36 = (((x15 * x2) + (x16 * x5)) + (x17 * x8))) (e38 : q38 = (((x18 * x1) + (x19 * x4)) + (x20 * x7))) (e1 : q1 = ((x25 * x29) - (x26 * x28))) (e37 : q37 = (((x18 * x0) + (x19 * x3)) + (x20 * x6))) (e34 : q34 = (((x15 * x0) + (x16 * x3)) + (x17 * x6))) (e2 : q2 = ((x26 * x27) - (x24 * x29))) (e3 : q3 = ((x24 * x28) - (x25 * x27))) (e55 : q55 = (((((q35 * q39) - (q36 * q38)) * q1) + (((q36 * q37) - (q34 * q39)) * q2)) + (((q34 * q38) - (q35 * q37)) * q3))) (e7 : q7 = (((((x4 * x8) - (x5 * x7)) * q1) + (((x5 * x6) - (x3 * x8)) * q2)) + (((x3 * x7) - (x4 * x6)) * q3))) (e8 : q8 = (((((x7 * x2) - (x8 * x1)) * q1) + (((x8 * x0) - (x6 * x2)) * q2)) + (((x6 * x1) - (x7 * x0)) * q3))) (e9 : q9 = (((((x1 * x5) - (x2 * x4)) * q1) + (((x2 * x3) - (x0 * x5)) * q2)) + (((x0 * x4) - (x1 * x3)) * q3))) : q55 = (((((x16 * x20) - (x17 * x19)) * q7) + (((x17 * x18) - (x15 * x20)) * q8)) + (((x15 * x19) - (x16 * x18)) * q9)) := by
  subst e35 e39 e36 e38 e1 e37 e34 e2 e3 e55 e7 e8 e9
  grind

theorem AffineAreas_al61  {q56 q38 x18 x1 x19 x4 x20 x7 q33 x12 x2 x13 x5 x14 x8 q39 q32 q1 x25 x29 x26 x28 q31 x0 x3 x6 q37 q2 x27 x24 q3 q7 q8 q9 : Rat} (e38 : q38 = (((x18 * x1) + (x19 * x4)) + (x20 * x7))) (e33 : q33 = (((x12 * x2) + (x13 * x5)) + (x14 * x8))) (e39 : q39 = (((x18 * x2) + (x19 * x5)) + (x20 * x8))) (e32 : q32 = (((x12 * x1) + (x13 * x4)) + (x14 * x7))) (e1 : q1 = ((x25 * x29) - (x26 * x28))) (e31 : q31 = (((x12 * x0) + (x13 * x3)) + (x14 * x6))) (e37 : q37 = (((x18 * x0) + (x19 * x3)) + (x20 * x6))) (e2 : q2 = ((x26 * x27) - (x24 * x29))) (e3 : q3 = ((x24 * x28) - (x25 * x27))) (e56 : q56 = (((((q38 * q33) - (q39 * q32)) * q1) + (((q39 * q31) - (q37 * q33)) * q2)) + (((q37 * q32) - (q38 * q31)) * q3))) (e7 : q7 = (((((x4 * x8) - (x5 * x7)) * q1) + (((x5 * x6) - (x3 * x8)) * q2)) + (((x3 * x7) - (x4 * x6)) * q3))) (e8 : q8 = (((((x7 * x2) - (x8 * x1)) * q1) + (((x8 * x0) - (x6 * x2)) * q2)) + (((x6 * x1) - (x7 * x0)) * q3))) (e9 : q9 = (((((x1 * x5) - (x2 * x4)) * q1) + (((x2 * x3) - (x0 * x5)) * q2)) + (((x0 * x4) - (x1 * x3)) * q3))) : q56 = (((((x19 * x14) - (x20 * x13)) * q7) + (((x20 * x12) - (x18 * x14)) * q8)) + (((x18 * x13) - (x19 * x12)) * q9)) := by
  subst e38 e33 e39 e32 e1 e31 e37 e2 e3 e56 e7 e8 e9
  grind

theorem AffineAreas_al63  {q57 q32 x12 x1 x13 x4 x14 x7 q36 x15 x2 x16 x5 x17 x8 q33 q35 q1 x25 x29 x26 x28 q34 x0 x3 x6 q31 q2 x27 x24 q3 q7 q8 q9 : Rat} (e32 : q32 = (((x12 * x1) + (x13 * x4)) + (x14 * x7))) (e36 : q36 = (((x15 * x2) + (x16 * x5)) + (x17 * x8))) (e33 : q33 = (((x12 * x2) + (x13 * x5)) + (x14 * x8))) (e35 : q35 = (((x15 * x1) + (x16 * x4)) + (x17 * x7))) (e1 : q1 = ((x25 * x29) - (x26 * x28))) (e34 : q34 = (((x15 * x0) + (x16 * x3)) + (x17 * x6))) (e31 : q31 = (((x12 * x0) + (x13 * x3)) + (x14 * x6))) (e2 : q2 = ((x26 * x27) - (x24 * x29))) (e3 : q3 = ((x24 * x28) - (x25 * x27))) (e57 : q57 = (((((q32 * q36) - (q33 * q35)) * q1) + (((q33 * q34) - (q31 * q36)) * q2)) + (((q31 * q35) - (q32 * q34)) * q3))) (e7 : q7 = (((((x4 * x8) - (x5 * x7)) * q1) + (((x5 * x6) - (x3 * x8)) * q2)) + (((x3 * x7) - (x4 * x6)) * q3))) (e8 : q8 = (((((x7 * x2) - (x8 * x1)) * q1) + (((x8 * x0) - (x6 * x2)) * q2)) + (((x6 * x1) - (x7 * x0)) * q3))) (e9 : q9 = (((((x1 * x5) - (x2 * x4)) * q1) + (((x2 * x3) - (x0 * x5)) * q2)) + (((x0 * x4) - (x1 * x3)) * q3))) : q57 = (((((x13 * x17) - (x14 * x16)) * q7) + (((x14 * x15) - (x12 * x17)) * q8)) + (((x12 * x16) - (x13 * x15)) * q9)) := by
  subst e32 e36 e33 e35 e1 e34 e31 e2 e3 e57 e7 e8 e9
  grind

theorem AffineAreas_al68 {Z0 : Rat} (Y0 : Z0 = (0 : Rat)) {q7 x4 x8 x5 x7 q1 x25 x29 x26 x28 x6 x3 q2 x27 x24 q3 q10 x0 x1 x2 q8 q11 q9 q12 : Rat} (e1 : q1 = ((x25 * x29) - (x26 * x28))) (e2 : q2 = ((x26 * x27) - (x24 * x29))) (e3 : q3 = ((x24 * x28) - (x25 * x27))) (e7 : q7 = (((((x4 * x8) - (x5 * x7)) * q1) + (((x5 * x6) - (x3 * x8)) * q2)) + (((x3 * x7) - (x4 * x6)) * q3))) (e10 : q10 = (((x0 * x24) + (x1 * x25)) + (x2 * x26))) (e8 : q8 = (((((x7 * x2) - (x8 * x1)) * q1) + (((x8 * x0) - (x6 * x2)) * q2)) + (((x6 * x1) - (x7 * x0)) * q3))) (e11 : q11 = (((x3 * x24) + (x4 * x25)) + (x5 * x26))) (e9 : q9 = (((((x1 * x5) - (x2 * x4)) * q1) + (((x2 * x3) - (x0 * x5)) * q2)) + (((x0 * x4) - (x1 * x3)) * q3))) (e12 : q12 = (((x6 * x24) + (x7 * x25)) + (x8 * x26))) : Z0 = (((q7 * q10) + (q8 * q11)) + (q9 * q12)) := by
  subst Y0 e1 e2 e3 e7 e10 e8 e11 e9 e12
  grind

theorem pure_AffineAreas {r0 r1 r2 r3 r4 r5 r6 r7 r8 r9 r10 r11 r12 r13 r14 r15 r16 r17 r18 r19 r20 r21 r22 r23 r24 r25 r26 r27 r28 r29 : RR} (g0 : r0.ok 1048576) (g1 : r1.ok 1048576) (g2 : r2.ok 1048576) (g3 : r3.ok 1048576) (g4 : r4.ok 1048576) (g5 : r5.ok 1048576) (g6 : r6.ok 1048576) (g7 : r7.ok 1048576) (g8 : r8.ok 1048576) (g9 : r9.ok 1048576) (g10 : r10.ok 1048576) (g11 : r11.ok 1048576) (g12 : r12.ok 1048576) (g13 : r13.ok 1048576) (g14 : r14.ok 1048576) (g15 : r15.ok 1048576) (g16 : r16.ok 1048576) (g17 : r17.ok 1048576) (g18 : r18.ok 1048576) (g19 : r19.ok 1048576) (g20 : r20.ok 1048576) (g21 : r21.ok 1048576) (g22 : r22.ok 1048576) (g23 : r23.ok 1048576) (g24 : r24.ok 1048576) (g25 : r25.ok 1048576) (g26 : r26.ok 1048576) (g27 : r27.ok 1048576) (g28 : r28.ok 1048576) (g29 : r29.ok 1048576) : PureCalls prog F.penumbralaw07_AffineAreas [.agg ([.bool r0.neg, nl r0.num, nl r0.den, .bool r1.neg, nl r1.num, nl r1.den, .bool r2.neg, nl r2.num, nl r2.den, .bool r3.neg, nl r3.num, nl r3.den, .bool r4.neg, nl r4.num, nl r4.den, .bool r5.neg, nl r5.num, nl r5.den, .bool r6.neg, nl r6.num, nl r6.den, .bool r7.neg, nl r7.num, nl r7.den, .bool r8.neg, nl r8.num, nl r8.den, .bool r9.neg, nl r9.num, nl r9.den, .bool r10.neg, nl r10.num, nl r10.den, .bool r11.neg, nl r11.num, nl r11.den]), .agg ([.bool r12.neg, nl r12.num, nl r12.den, .bool r13.neg, nl r13.num, nl r13.den, .bool r14.neg, nl r14.num, nl r14.den, .bool r15.neg, nl r15.num, nl r15.den, .bool r16.neg, nl r16.num, nl r16.den, .bool r17.neg, nl r17.num, nl r17.den, .bool r18.neg, nl r18.num, nl r18.den, .bool r19.neg, nl r19.num, nl r19.den, .bool r20.neg, nl r20.num, nl r20.den, .bool r21.neg, nl r21.num, nl r21.den, .bool r22.neg, nl r22.num, nl r22.den, .bool r23.neg, nl r23.num, nl r23.den]), .agg ([.bool r24.neg, nl r24.num, nl r24.den, .bool r25.neg, nl r25.num, nl r25.den, .bool r26.neg, nl r26.num, nl r26.den, .bool r27.neg, nl r27.num, nl r27.den, .bool r28.neg, nl r28.num, nl r28.den, .bool r29.neg, nl r29.num, nl r29.den])] [.one (.bool true)] := by
  obtain ⟨Z0, Y0⟩ := ex_eq (0 : Rat)
  obtain ⟨x0, h0⟩ := Num.raw g0 (by decide)
  obtain ⟨x1, h1⟩ := Num.raw g1 (by decide)
  obtain ⟨x2, h2⟩ := Num.raw g2 (by decide)
  obtain ⟨x3, h3⟩ := Num.raw g3 (by decide)
  obtain ⟨x4, h4⟩ := Num.raw g4 (by decide)
  obtain ⟨x5, h5⟩ := Num.raw g5 (by decide)
  obtain ⟨x6, h6⟩ := Num.raw g6 (by decide)
  obtain ⟨x7, h7⟩ := Num.raw g7 (by decide)
  obtain ⟨x8, h8⟩ := Num.raw g8 (by decide)
  obtain ⟨x9, h9⟩ := Num.raw g9 (by decide)
  obtain ⟨x10, h10⟩ := Num.raw g10 (by decide)
  obtain ⟨x11, h11⟩ := Num.raw g11 (by decide)
  obtain ⟨x12, h12⟩ := Num.raw g12 (by decide)
  obtain ⟨x13, h13⟩ := Num.raw g13 (by decide)
  obtain ⟨x14, h14⟩ := Num.raw g14 (by decide)
  obtain ⟨x15, h15⟩ := Num.raw g15 (by decide)
  obtain ⟨x16, h16⟩ := Num.raw g16 (by decide)
  obtain ⟨x17, h17⟩ := Num.raw g17 (by decide)
  obtain ⟨x18, h18⟩ := Num.raw g18 (by decide)
  obtain ⟨x19, h19⟩ := Num.raw g19 (by decide)
  obtain ⟨x20, h20⟩ := Num.raw g20 (by decide)
  obtain ⟨x21, h21⟩ := Num.raw g21 (by decide)
  obtain ⟨x22, h22⟩ := Num.raw g22 (by decide)
  obtain ⟨x23, h23⟩ := Num.raw g23 (by decide)
  obtain ⟨x24, h24⟩ := Num.raw g24 (by decide)
  obtain ⟨x25, h25⟩ := Num.raw g25 (by decide)
  obtain ⟨x26, h26⟩ := Num.raw g26 (by decide)
  obtain ⟨x27, h27⟩ := Num.raw g27 (by decide)
  obtain ⟨x28, h28⟩ := Num.raw g28 (by decide)
  obtain ⟨x29, h29⟩ := Num.raw g29 (by decide)
  refine symFunc_sound hmix tree_penumbralaw07_AffineAreas (by kernel_rfl) rfl ?_
  unfold ir_penumbralaw07_AffineAreas
  simp only [fa_agg, fa_one, fa_nil, List.cons_append, List.nil_append, List.append_nil]
  obtain ⟨q1, e1⟩ := ex_eq ((x25 * x29) - (x26 * x28))
  obtain ⟨q2, e2⟩ := ex_eq ((x26 * x27) - (x24 * x29))
  obtain ⟨q3, e3⟩ := ex_eq ((x24 * x28) - (x25 * x27))
  refine call_step (n_vec_Cross_0 (k0 := q1) (k1 := q2) (k2 := q3) (h24.mono (by decide)) (h25.mono (by decide)) (h26.mono (by decide)) (h27.mono (by decide)) (h28.mono (by decide)) (h29.mono (by decide)) e1 e2 e3) rfl ?_
  simp only [fa_agg, fa_one, fa_nil, List.cons_append, List.nil_append, List.append_nil]
  refine call_step n_penumbralaw07_fixed rfl ?_
  simp only [fa_agg, fa_one, fa_nil, List.cons_append, List.nil_append, List.append_nil]
  refine primS (.bool false) rfl ?_
  refine itF rfl ?_
  have m4 : Num 4194305 (cr q1) q1 := Num.eqn e1 (Sm.sub (Sm.mul h25.sm h29.sm) (Sm.mul h26.sm h28.sm))
  have m5 : Num 4194305 (cr q2) q2 := Num.eqn e2 (Sm.sub (Sm.mul h26.sm h27.sm) (Sm.mul h24.sm h29.sm))
  have m6 : Num 4194305 (cr q3) q3 := Num.eqn e3 (Sm.sub (Sm.mul h24.sm h28.sm) (Sm.mul h25.sm h27.sm))
  obtain ⟨q7, e7⟩ := ex_eq (((((x4 * x8) - (x5 * x7)) * q1) + (((x5 * x6) - (x3 * x8)) * q2)) + (((x3 * x7) - (x4 * x6)) * q3))
  obtain ⟨q8, e8⟩ := ex_eq (((((x7 * x2) - (x8 * x1)) * q1) + (((x8 * x0) - (x6 * x2)) * q2)) + (((x6 * x1) - (x7 * x0)) * q3))
  obtain ⟨q9, e9⟩ := ex_eq (((((x1 * x5) - (x2 * x4)) * q1) + (((x2 * x3) - (x0 * x5)) * q2)) + (((x0 * x4) - (x1 * x3)) * q3))
  refine call_step (n_affine_Area_0 (k0 := q7) (k1 := q8) (k2 := q9) (h0.mono (by decide)) (h1.mono (by decide)) (h2.mono (by decide)) (h3.mono (by decide)) (h4.mono (by decide)) (h5.mono (by decide)) (h6.mono (by decide)) (h7.mono (by decide)) (h8.mono (by decide)) (h9.mono (by decide)) (h10.mono (by decide)) (h11.mono (by decide)) (m4.mono (by decide)) (m5.mono (by decide)) (m6.mono (by decide)) e7 e8 e9) rfl ?_
  simp only [fa_agg, fa_one, fa_nil, List.cons_append, List.nil_append, List.append_nil]
  obtain ⟨q10, e10⟩ := ex_eq (((x0 * x24) + (x1 * x25)) + (x2 * x26))
  obtain ⟨q11, e11⟩ := ex_eq (((x3 * x24) + (x4 * x25)) + (x5 * x26))
  obtain ⟨q12, e12⟩ := ex_eq (((x6 * x24) + (x7 * x25)) + (x8 * x26))
  refine call_step (n_affine_Turn_0 (k0 := q10) (k1 := q11) (k2 := q12) (h0.mono (by decide)) (h1.mono (by decide)) (h2.mono (by decide)) (h3.mono (by decide)) (h4.mono (by decide)) (h5.mono (by decide)) (h6.mono (by decide)) (h7.mono (by decide)) (h8.mono (by decide)) (h9.mono (by decide)) (h10.mono (by decide)) (h11.mono (by decide)) (h24.mono (by decide)) (h25.mono (by decide)) (h26.mono (by decide)) e10 e11 e12) rfl ?_
  simp only [fa_agg, fa_one, fa_nil, List.cons_append, List.nil_append, List.append_nil]
  obtain ⟨q13, e13⟩ := ex_eq (((x0 * x27) + (x1 * x28)) + (x2 * x29))
  obtain ⟨q14, e14⟩ := ex_eq (((x3 * x27) + (x4 * x28)) + (x5 * x29))
  obtain ⟨q15, e15⟩ := ex_eq (((x6 * x27) + (x7 * x28)) + (x8 * x29))
  refine call_step (n_affine_Turn_0 (k0 := q13) (k1 := q14) (k2 := q15) (h0.mono (by decide)) (h1.mono (by decide)) (h2.mono (by decide)) (h3.mono (by decide)) (h4.mono (by decide)) (h5.mono (by decide)) (h6.mono (by decide)) (h7.mono (by decide)) (h8.mono (by decide)) (h9.mono (by decide)) (h10.mono (by decide)) (h11.mono (by decide)) (h27.mono (by decide)) (h28.mono (by decide)) (h29.mono (by decide)) e13 e14 e15) rfl ?_
  simp only [fa_agg, fa_one, fa_nil, List.cons_append, List.nil_append, List.append_nil]
  have m16 : Num 6291458 (cr q10) q10 := Num.eqn e10 (Sm.add (Sm.add (Sm.mul h0.sm h24.sm) (Sm.mul h1.sm h25.sm)) (Sm.mul h2.sm h26.sm))
  have m17 : Num 6291458 (cr q11) q11 := Num.eqn e11 (Sm.add (Sm.add (Sm.mul h3.sm h24.sm) (Sm.mul h4.sm h25.sm)) (Sm.mul h5.sm h26.sm))
  have m18 : Num 6291458 (cr q12) q12 := Num.eqn e12 (Sm.add (Sm.add (Sm.mul h6.sm h24.sm) (Sm.mul h7.sm h25.sm)) (Sm.mul h8.sm h26.sm))
  have m19 : Num 6291458 (cr q13) q13 := Num.eqn e13 (Sm.add (Sm.add (Sm.mul h0.sm h27.sm) (Sm.mul h1.sm h28.sm)) (Sm.mul h2.sm h29.sm))
  have m20 : Num 6291458 (cr q14) q14 := Num.eqn e14 (Sm.add (Sm.add (Sm.mul h3.sm h27.sm) (Sm.mul h4.sm h28.sm)) (Sm.mul h5.sm h29.sm))
  have m21 : Num 6291458 (cr q15) q15 := Num.eqn e15 (Sm.add (Sm.add (Sm.mul h6.sm h27.sm) (Sm.mul h7.sm h28.sm)) (Sm.mul h8.sm h29.sm))
  have u22 : q7 = ((q11 * q15) - (q12 * q14)) := (AffineAreas_al23 e1 e2 e3 e7 e11 e15 e12 e14)
  have u24 : q8 = ((q12 * q13) - (q10 * q15)) := (AffineAreas_al25 e1 e2 e3 e8 e12 e13 e10 e15)
  have u26 : q9 = ((q10 * q14) - (q11 * q13)) := (AffineAreas_al27 e1 e2 e3 e9 e10 e14 e11 e13)
  refine call_step (n_vec_Cross_0 (k0 := q7) (k1 := q8) (k2 := q9) (m16.mono (by decide)) (m17.mono (by decide)) (m18.mono (by decide)) (m19.mono (by decide)) (m20.mono (by decide)) (m21.mono (by decide)) u22 u24 u26) rfl ?_
  simp only [fa_agg, fa_one, fa_nil, List.cons_append, List.nil_append, List.append_nil]
  have m28 : Num 25165832 (cr q7) q7 := Num.eqn e7 (Sm.add (Sm.add (Sm.mul (Sm.sub (Sm.mul h4.sm h8.sm) (Sm.mul h5.sm h7.sm)) m4.sm) (Sm.mul (Sm.sub (Sm.mul h5.sm h6.sm) (Sm.mul h3.sm h8.sm)) m5.sm)) (Sm.mul (Sm.sub (Sm.mul h3.sm h7.sm) (Sm.mul h4.sm h6.sm)) m6.sm))
  have m29 : Num 25165832 (cr q8) q8 := Num.eqn e8 (Sm.add (Sm.add (Sm.mul (Sm.sub (Sm.mul h7.sm h2.sm) (Sm.mul h8.sm h1.sm)) m4.sm) (Sm.mul (Sm.sub (Sm.mul h8.sm h0.sm) (Sm.mul h6.sm h2.sm)) m5.sm)) (Sm.mul (Sm.sub (Sm.mul h6.sm h1.sm) (Sm.mul h7.sm h0.sm)) m6.sm))
  have m30 : Num 25165832 (cr q9) q9 := Num.eqn e9 (Sm.add (Sm.add (Sm.mul (Sm.sub (Sm.mul h1.sm h5.sm) (Sm.mul h2.sm h4.sm)) m4.sm) (Sm.mul (Sm.sub (Sm.mul h2.sm h3.sm) (Sm.mul h0.sm h5.sm)) m5.sm)) (Sm.mul (Sm.sub (Sm.mul h0.sm h4.sm) (Sm.mul h1.sm h3.sm)) m6.sm))
  refine call_step (n_penumbraref05_Is_0 (m28.mono (by decide)) (m29.mono (by decide)) (m30.mono (by decide)) (m28.mono (by decide)) (m29.mono (by decide)) (m30.mono (by decide)) rfl rfl rfl) rfl ?_
  simp only [fa_agg, fa_one, fa_nil, List.cons_append, List.nil_append, List.append_nil]
  refine primS (.bool false) rfl ?_
  refine itF rfl ?_
  obtain ⟨q31, e31⟩ := ex_eq (((x12 * x0) + (x13 * x3)) + (x14 * x6))
  obtain ⟨q32, e32⟩ := ex_eq (((x12 * x1) + (x13 * x4)) + (x14 * x7))
  obtain ⟨q33, e33⟩ := ex_eq (((x12 * x2) + (x13 * x5)) + (x14 * x8))
  obtain ⟨q34, e34⟩ := ex_eq (((x15 * x0) + (x16 * x3)) + (x17 * x6))
  obtain ⟨q35, e35⟩ := ex_eq (((x15 * x1) + (x16 * x4)) + (x17 * x7))
  obtain ⟨q36, e36⟩ := ex_eq (((x15 * x2) + (x16 * x5)) + (x17 * x8))
  obtain ⟨q37, e37⟩ := ex_eq (((x18 * x0) + (x19 * x3)) + (x20 * x6))
  obtain ⟨q38, e38⟩ := ex_eq (((x18 * x1) + (x19 * x4)) + (x20 * x7))
  obtain ⟨q39, e39⟩ := ex_eq (((x18 * x2) + (x19 * x5)) + (x20 * x8))
  obtain ⟨q40, e40⟩ := ex_eq ((((x12 * x9) + (x13 * x10)) + (x14 * x11)) + x21)
  obtain ⟨q41, e41⟩ := ex_eq ((((x15 * x9) + (x16 * x10)) + (x17 * x11)) + x22)
  obtain ⟨q42, e42⟩ := ex_eq ((((x18 * x9) + (x19 * x10)) + (x20 * x11)) + x23)
  refine call_step (n_affine_Then_0 (k0 := q31) (k1 := q32) (k2 := q33) (k3 := q34) (k4 := q35) (k5 := q36) (k6 := q37) (k7 := q38) (k8 := q39) (k9 := q40) (k10 := q41) (k11 := q42) (h0.mono (by decide)) (h1.mono (by decide)) (h2.mono (by decide)) (h3.mono (by decide)) (h4.mono (by decide)) (h5.mono (by decide)) (h6.mono (by decide)) (h7.mono (by decide)) (h8.mono (by decide)) (h9.mono (by decide)) (h10.mono (by decide)) (h11.mono (by decide)) (h12.mono (by decide)) (h13.mono (by decide)) (h14.mono (by decide)) (h15.mono (by decide)) (h16.mono (by decide)) (h17.mono (by decide)) (h18.mono (by decide)) (h19.mono (by decide)) (h20.mono (by decide)) (h21.mono (by decide)) (h22.mono (by decide)) (h23.mono (by decide)) e31 e32 e33 e34 e35 e36 e37 e38 e39 e40 e41 e42) rfl ?_
  simp only [fa_agg, fa_one, fa_nil, List.cons_append, List.nil_append, List.append_nil]
  have m43 : Num 6291458 (cr q31) q31 := Num.eqn e31 (Sm.add (Sm.add (Sm.mul h12.sm h0.sm) (Sm.mul h13.sm h3.sm)) (Sm.mul h14.sm h6.sm))
  have m44 : Num 6291458 (cr q32) q32 := Num.eqn e32 (Sm.add (Sm.add (Sm.mul h12.sm h1.sm) (Sm.mul h13.sm h4.sm)) (Sm.mul h14.sm h7.sm))
  have m45 : Num 6291458 (cr q33) q33 := Num.eqn e33 (Sm.add (Sm.add (Sm.mul h12.sm h2.sm) (Sm.mul h13.sm h5.sm)) (Sm.mul h14.sm h8.sm))
  have m46 : Num 6291458 (cr q34) q34 := Num.eqn e34 (Sm.add (Sm.add (Sm.mul h15.sm h0.sm) (Sm.mul h16.sm h3.sm)) (Sm.mul h17.sm h6.sm))
  have m47 : Num 6291458 (cr q35) q35 := Num.eqn e35 (Sm.add (Sm.add (Sm.mul h15.sm h1.sm) (Sm.mul h16.sm h4.sm)) (Sm.mul h17.sm h7.sm))
  have m48 : Num 6291458 (cr q36) q36 := Num.eqn e36 (Sm.add (Sm.add (Sm.mul h15.sm h2.sm) (Sm.mul h16.sm h5.sm)) (Sm.mul h17.sm h8.sm))
  have m49 : Num 6291458 (cr q37) q37 := Num.eqn e37 (Sm.add (Sm.add (Sm.mul h18.sm h0.sm) (Sm.mul h19.sm h3.sm)) (Sm.mul h20.sm h6.sm))
  have m50 : Num 6291458 (cr q38) q38 := Num.eqn e38 (Sm.add (Sm.add (Sm.mul h18.sm h1.sm) (Sm.mul h19.sm h4.sm)) (Sm.mul h20.sm h7.sm))
  have m51 : Num 6291458 (cr q39) q39 := Num.eqn e39 (Sm.add (Sm.add (Sm.mul h18.sm h2.sm) (Sm.mul h19.sm h5.sm)) (Sm.mul h20.sm h8.sm))
  have m52 : Num 7340035 (cr q40) q40 := Num.eqn e40 (Sm.add (Sm.add (Sm.add (Sm.mul h12.sm h9.sm) (Sm.mul h13.sm h10.sm)) (Sm.mul h14.sm h11.sm)) h21.sm)
  have m53 : Num 7340035 (cr q41) q41 := Num.eqn e41 (Sm.add (Sm.add (Sm.add (Sm.mul h15.sm h9.sm) (Sm.mul h16.sm h10.sm)) (Sm.mul h17.sm h11.sm)) h22.sm)
  have m54 : Num 7340035 (cr q42) q42 := Num.eqn e42 (Sm.add (Sm.add (Sm.add (Sm.mul h18.sm h9.sm) (Sm.mul h19.sm h10.sm)) (Sm.mul h20.sm h11.sm)) h23.sm)
  obtain ⟨q55, e55⟩ := ex_eq (((((q35 * q39) - (q36 * q38)) * q1) + (((q36 * q37) - (q34 * q39)) * q2)) + (((q34 * q38) - (q35 * q37)) * q3))
  obtain ⟨q56, e56⟩ := ex_eq (((((q38 * q33) - (q39 * q32)) * q1) + (((q39 * q31) - (q37 * q33)) * q2)) + (((q37 * q32) - (q38 * q31)) * q3))
  obtain ⟨q57, e57⟩ := ex_eq (((((q32 * q36) - (q33 * q35)) * q1) + (((q33 * q34) - (q31 * q36)) * q2)) + (((q31 * q35) - (q32 * q34)) * q3))
  refine call_step (n_affine_Area_0 (k0 := q55) (k1 := q56) (k2 := q57) (m43.mono (by decide)) (m44.mono (by decide)) (m45.mono (by decide)) (m46.mono (by decide)) (m47.mono (by decide)) (m48.mono (by decide)) (m49.mono (by decide)) (m50.mono (by decide)) (m51.mono (by decide)) (m52.mono (by decide)) (m53.mono (by decide)) (m54.mono (by decide)) (m4.mono (by decide)) (m5.mono (by decide)) (m6.mono (by decide)) e55 e56 e57) rfl ?_
  simp only [fa_agg, fa_one, fa_nil, List.cons_append, List.nil_append, List.append_nil]
  refine call_step (n_affine_Area_0 (k0 := q7) (k1 := q8) (k2 := q9) (h0.mono (by decide)) (h1.mono (by decide)) (h2.mono (by decide)) (h3.mono (by decide)) (h4.mono (by decide)) (h5.mono (by decide)) (h6.mono (by decide)) (h7.mono (by decide)) (h8.mono (by decide)) (h9.mono (by decide)) (h10.mono (by decide)) (h11.mono (by decide)) (m4.mono (by decide)) (m5.mono (by decide)) (m6.mono (by decide)) e7 e8 e9) rfl ?_
  simp only [fa_agg, fa_one, fa_nil, List.cons_append, List.nil_append, List.append_nil]
  have u58 : q55 = (((((x16 * x20) - (x17 * x19)) * q7) + (((x17 * x18) - (x15 * x20)) * q8)) + (((x15 * x19) - (x16 * x18)) * q9)) := (AffineAreas_al59 e35 e39 e36 e38 e1 e37 e34 e2 e3 e55 e7 e8 e9)
  have u60 : q56 = (((((x19 * x14) - (x20 * x13)) * q7) + (((x20 * x12) - (x18 * x14)) * q8)) + (((x18 * x13) - (x19 * x12)) * q9)) := (AffineAreas_al61 e38 e33 e39 e32 e1 e31 e37 e2 e3 e56 e7 e8 e9)
  have u62 : q57 = (((((x13 * x17) - (x14 * x16)) * q7) + (((x14 * x15) - (x12 * x17)) * q8)) + (((x12 * x16) - (x13 * x15)) * q9)) := (AffineAreas_al63 e32 e36 e33 e35 e1 e34 e31 e2 e3 e57 e7 e8 e9)
  refine call_step (n_affine_Area_0 (k0 := q55) (k1 := q56) (k2 := q57) (h12.mono (by decide)) (h13.mono (by decide)) (h14.mono (by decide)) (h15.mono (by decide)) (h16.mono (by decide)) (h17.mono (by decide)) (h18.mono (by decide)) (h19.mono (by decide)) (h20.mono (by decide)) (h21.mono (by decide)) (h22.mono (by decide)) (h23.mono (by decide)) (m28.mono (by decide)) (m29.mono (by decide)) (m30.mono (by decide)) u58 u60 u62) rfl ?_
  simp only [fa_agg, fa_one, fa_nil, List.cons_append, List.nil_append, List.append_nil]
  have m64 : Num 88080416 (cr q55) q55 := Num.eqn e55 (Sm.add (Sm.add (Sm.mul (Sm.sub (Sm.mul m47.sm m51.sm) (Sm.mul m48.sm m50.sm)) m4.sm) (Sm.mul (Sm.sub (Sm.mul m48.sm m49.sm) (Sm.mul m46.sm m51.sm)) m5.sm)) (Sm.mul (Sm.sub (Sm.mul m46.sm m50.sm) (Sm.mul m47.sm m49.sm)) m6.sm))
  have m65 : Num 88080416 (cr q56) q56 := Num.eqn e56 (Sm.add (Sm.add (Sm.mul (Sm.sub (Sm.mul m50.sm m45.sm) (Sm.mul m51.sm m44.sm)) m4.sm) (Sm.mul (Sm.sub (Sm.mul m51.sm m43.sm) (Sm.mul m49.sm m45.sm)) m5.sm)) (Sm.mul (Sm.sub (Sm.mul m49.sm m44.sm) (Sm.mul m50.sm m43.sm)) m6.sm))
  have m66 : Num 88080416 (cr q57) q57 := Num.eqn e57 (Sm.add (Sm.add (Sm.mul (Sm.sub (Sm.mul m44.sm m48.sm) (Sm.mul m45.sm m47.sm)) m4.sm) (Sm.mul (Sm.sub (Sm.mul m45.sm m46.sm) (Sm.mul m43.sm m48.sm)) m5.sm)) (Sm.mul (Sm.sub (Sm.mul m43.sm m47.sm) (Sm.mul m44.sm m46.sm)) m6.sm))
  refine call_step (n_penumbraref05_Is_0 (m64.mono (by decide)) (m65.mono (by decide)) (m66.mono (by decide)) (m64.mono (by decide)) (m65.mono (by decide)) (m66.mono (by decide)) rfl rfl rfl) rfl ?_
  simp only [fa_agg, fa_one, fa_nil, List.cons_append, List.nil_append, List.append_nil]
  refine itT rfl ?_
  refine call_step (n_affine_Area_0 (k0 := q7) (k1 := q8) (k2 := q9) (h0.mono (by decide)) (h1.mono (by decide)) (h2.mono (by decide)) (h3.mono (by decide)) (h4.mono (by decide)) (h5.mono (by decide)) (h6.mono (by decide)) (h7.mono (by decide)) (h8.mono (by decide)) (h9.mono (by decide)) (h10.mono (by decide)) (h11.mono (by decide)) (m4.mono (by decide)) (m5.mono (by decide)) (m6.mono (by decide)) e7 e8 e9) rfl ?_
  simp only [fa_agg, fa_one, fa_nil, List.cons_append, List.nil_append, List.append_nil]
  refine call_step (n_affine_Turn_0 (k0 := q10) (k1 := q11) (k2 := q12) (h0.mono (by decide)) (h1.mono (by decide)) (h2.mono (by decide)) (h3.mono (by decide)) (h4.mono (by decide)) (h5.mono (by decide)) (h6.mono (by decide)) (h7.mono (by decide)) (h8.mono (by decide)) (h9.mono (by decide)) (h10.mono (by decide)) (h11.mono (by decide)) (h24.mono (by decide)) (h25.mono (by decide)) (h26.mono (by decide)) e10 e11 e12) rfl ?_
  simp only [fa_agg, fa_one, fa_nil, List.cons_append, List.nil_append, List.append_nil]
  have u67 : Z0 = (((q7 * q10) + (q8 * q11)) + (q9 * q12)) := (AffineAreas_al68 Y0 e1 e2 e3 e7 e10 e8 e11 e9 e12)
  refine call_step (n_vec_Dot_0 (k0 := Z0) (m28.mono (by decide)) (m29.mono (by decide)) (m30.mono (by decide)) (m16.mono (by decide)) (m17.mono (by decide)) (m18.mono (by decide)) u67) rfl ?_
  simp only [fa_agg, fa_one, fa_nil, List.cons_append, List.nil_append, List.append_nil]
  refine call_step (n_penumbraref03_Zero Y0) rfl ?_
  simp only [fa_agg, fa_one, fa_nil, List.cons_append, List.nil_append, List.append_nil]
  have m69 : Num 1 (cr Z0) Z0 := Num.c Y0 (by decide +kernel) (by decide +kernel)
  refine call_step (n_penumbraref03_Is_t (m69.mono (by decide)) (m69.mono (by decide)) rfl) rfl ?_
  simp only [fa_agg, fa_one, fa_nil, List.cons_append, List.nil_append, List.append_nil]
  exact ret_step rfl

end Go.Px.Na

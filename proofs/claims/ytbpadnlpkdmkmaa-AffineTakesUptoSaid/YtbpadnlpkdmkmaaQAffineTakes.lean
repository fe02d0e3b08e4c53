/- QAffineTakes: whatever the numbers, the law tells true. -/
import Derived.Test.YtbpadnlpkdmkmaaXAffineTakes
set_option maxRecDepth 20000
set_option maxHeartbeats 40000000
set_option linter.unusedVariables false
set_option linter.unusedSimpArgs false
namespace Go.Px.Na
open Go.RowKit
open Go.Proofs.Try (prog)

theorem AffineTakes_al34 {Z0 : Rat} (Y0 : Z0 = (0 : Rat)) {q30 x12 x9 x13 x10 x14 x11 x21 x0 x1 x2 x3 x4 x5 x6 x7 x8 : Rat} (e30 : q30 = ((((x12 * x9) + (x13 * x10)) + (x14 * x11)) + x21)) : q30 = ((((x12 * ((((x0 * Z0) + (x1 * Z0)) + (x2 * Z0)) + x9)) + (x13 * ((((x3 * Z0) + (x4 * Z0)) + (x5 * Z0)) + x10))) + (x14 * ((((x6 * Z0) + (x7 * Z0)) + (x8 * Z0)) + x11))) + x21) := by
  subst Y0 e30
  grind

theorem AffineTakes_al36 {Z0 Z1 : Rat} (Y0 : Z0 = (0 : Rat)) (Y1 : Z1 = (1 : Rat)) {q21 x12 x0 x13 x3 x14 x6 x1 x2 x9 x4 x5 x10 x7 x8 x11 x21 q30 : Rat} (e21 : q21 = (((x12 * x0) + (x13 * x3)) + (x14 * x6))) (e30 : q30 = ((((x12 * x9) + (x13 * x10)) + (x14 * x11)) + x21)) : q21 = (((((x12 * ((((x0 * Z1) + (x1 * Z0)) + (x2 * Z0)) + x9)) + (x13 * ((((x3 * Z1) + (x4 * Z0)) + (x5 * Z0)) + x10))) + (x14 * ((((x6 * Z1) + (x7 * Z0)) + (x8 * Z0)) + x11))) + x21) - q30) := by
  subst Y0 Y1 e21 e30
  grind

theorem AffineTakes_al38 {Z0 Z1 : Rat} (Y0 : Z0 = (0 : Rat)) (Y1 : Z1 = (1 : Rat)) {q22 x12 x1 x13 x4 x14 x7 x0 x2 x9 x3 x5 x10 x6 x8 x11 x21 q30 : Rat} (e22 : q22 = (((x12 * x1) + (x13 * x4)) + (x14 * x7))) (e30 : q30 = ((((x12 * x9) + (x13 * x10)) + (x14 * x11)) + x21)) : q22 = (((((x12 * ((((x0 * Z0) + (x1 * Z1)) + (x2 * Z0)) + x9)) + (x13 * ((((x3 * Z0) + (x4 * Z1)) + (x5 * Z0)) + x10))) + (x14 * ((((x6 * Z0) + (x7 * Z1)) + (x8 * Z0)) + x11))) + x21) - q30) := by
  subst Y0 Y1 e22 e30
  grind

theorem AffineTakes_al40 {Z0 Z1 : Rat} (Y0 : Z0 = (0 : Rat)) (Y1 : Z1 = (1 : Rat)) {q23 x12 x2 x13 x5 x14 x8 x0 x1 x9 x3 x4 x10 x6 x7 x11 x21 q30 : Rat} (e23 : q23 = (((x12 * x2) + (x13 * x5)) + (x14 * x8))) (e30 : q30 = ((((x12 * x9) + (x13 * x10)) + (x14 * x11)) + x21)) : q23 = (((((x12 * ((((x0 * Z0) + (x1 * Z0)) + (x2 * Z1)) + x9)) + (x13 * ((((x3 * Z0) + (x4 * Z0)) + (x5 * Z1)) + x10))) + (x14 * ((((x6 * Z0) + (x7 * Z0)) + (x8 * Z1)) + x11))) + x21) - q30) := by
  subst Y0 Y1 e23 e30
  grind

theorem AffineTakes_al42 {Z0 : Rat} (Y0 : Z0 = (0 : Rat)) {q31 x15 x9 x16 x10 x17 x11 x22 x0 x1 x2 x3 x4 x5 x6 x7 x8 : Rat} (e31 : q31 = ((((x15 * x9) + (x16 * x10)) + (x17 * x11)) + x22)) : q31 = ((((x15 * ((((x0 * Z0) + (x1 * Z0)) + (x2 * Z0)) + x9)) + (x16 * ((((x3 * Z0) + (x4 * Z0)) + (x5 * Z0)) + x10))) + (x17 * ((((x6 * Z0) + (x7 * Z0)) + (x8 * Z0)) + x11))) + x22) := by
  subst Y0 e31
  grind

theorem AffineTakes_al44 {Z0 Z1 : Rat} (Y0 : Z0 = (0 : Rat)) (Y1 : Z1 = (1 : Rat)) {q24 x15 x0 x16 x3 x17 x6 x1 x2 x9 x4 x5 x10 x7 x8 x11 x22 q31 : Rat} (e24 : q24 = (((x15 * x0) + (x16 * x3)) + (x17 * x6))) (e31 : q31 = ((((x15 * x9) + (x16 * x10)) + (x17 * x11)) + x22)) : q24 = (((((x15 * ((((x0 * Z1) + (x1 * Z0)) + (x2 * Z0)) + x9)) + (x16 * ((((x3 * Z1) + (x4 * Z0)) + (x5 * Z0)) + x10))) + (x17 * ((((x6 * Z1) + (x7 * Z0)) + (x8 * Z0)) + x11))) + x22) - q31) := by
  subst Y0 Y1 e24 e31
  grind

theorem AffineTakes_al46 {Z0 Z1 : Rat} (Y0 : Z0 = (0 : Rat)) (Y1 : Z1 = (1 : Rat)) {q25 x15 x1 x16 x4 x17 x7 x0 x2 x9 x3 x5 x10 x6 x8 x11 x22 q31 : Rat} (e25 : q25 = (((x15 * x1) + (x16 * x4)) + (x17 * x7))) (e31 : q31 = ((((x15 * x9) + (x16 * x10)) + (x17 * x11)) + x22)) : q25 = (((((x15 * ((((x0 * Z0) + (x1 * Z1)) + (x2 * Z0)) + x9)) + (x16 * ((((x3 * Z0) + (x4 * Z1)) + (x5 * Z0)) + x10))) + (x17 * ((((x6 * Z0) + (x7 * Z1)) + (x8 * Z0)) + x11))) + x22) - q31) := by
  subst Y0 Y1 e25 e31
  grind

theorem AffineTakes_al48 {Z0 Z1 : Rat} (Y0 : Z0 = (0 : Rat)) (Y1 : Z1 = (1 : Rat)) {q26 x15 x2 x16 x5 x17 x8 x0 x1 x9 x3 x4 x10 x6 x7 x11 x22 q31 : Rat} (e26 : q26 = (((x15 * x2) + (x16 * x5)) + (x17 * x8))) (e31 : q31 = ((((x15 * x9) + (x16 * x10)) + (x17 * x11)) + x22)) : q26 = (((((x15 * ((((x0 * Z0) + (x1 * Z0)) + (x2 * Z1)) + x9)) + (x16 * ((((x3 * Z0) + (x4 * Z0)) + (x5 * Z1)) + x10))) + (x17 * ((((x6 * Z0) + (x7 * Z0)) + (x8 * Z1)) + x11))) + x22) - q31) := by
  subst Y0 Y1 e26 e31
  grind

theorem AffineTakes_al50 {Z0 : Rat} (Y0 : Z0 = (0 : Rat)) {q32 x18 x9 x19 x10 x20 x11 x23 x0 x1 x2 x3 x4 x5 x6 x7 x8 : Rat} (e32 : q32 = ((((x18 * x9) + (x19 * x10)) + (x20 * x11)) + x23)) : q32 = ((((x18 * ((((x0 * Z0) + (x1 * Z0)) + (x2 * Z0)) + x9)) + (x19 * ((((x3 * Z0) + (x4 * Z0)) + (x5 * Z0)) + x10))) + (x20 * ((((x6 * Z0) + (x7 * Z0)) + (x8 * Z0)) + x11))) + x23) := by
  subst Y0 e32
  grind

theorem AffineTakes_al52 {Z0 Z1 : Rat} (Y0 : Z0 = (0 : Rat)) (Y1 : Z1 = (1 : Rat)) {q27 x18 x0 x19 x3 x20 x6 x1 x2 x9 x4 x5 x10 x7 x8 x11 x23 q32 : Rat} (e27 : q27 = (((x18 * x0) + (x19 * x3)) + (x20 * x6))) (e32 : q32 = ((((x18 * x9) + (x19 * x10)) + (x20 * x11)) + x23)) : q27 = (((((x18 * ((((x0 * Z1) + (x1 * Z0)) + (x2 * Z0)) + x9)) + (x19 * ((((x3 * Z1) + (x4 * Z0)) + (x5 * Z0)) + x10))) + (x20 * ((((x6 * Z1) + (x7 * Z0)) + (x8 * Z0)) + x11))) + x23) - q32) := by
  subst Y0 Y1 e27 e32
  grind

theorem AffineTakes_al54 {Z0 Z1 : Rat} (Y0 : Z0 = (0 : Rat)) (Y1 : Z1 = (1 : Rat)) {q28 x18 x1 x19 x4 x20 x7 x0 x2 x9 x3 x5 x10 x6 x8 x11 x23 q32 : Rat} (e28 : q28 = (((x18 * x1) + (x19 * x4)) + (x20 * x7))) (e32 : q32 = ((((x18 * x9) + (x19 * x10)) + (x20 * x11)) + x23)) : q28 = (((((x18 * ((((x0 * Z0) + (x1 * Z1)) + (x2 * Z0)) + x9)) + (x19 * ((((x3 * Z0) + (x4 * Z1)) + (x5 * Z0)) + x10))) + (x20 * ((((x6 * Z0) + (x7 * Z1)) + (x8 * Z0)) + x11))) + x23) - q32) := by
  subst Y0 Y1 e28 e32
  grind

theorem AffineTakes_al56 {Z0 Z1 : Rat} (Y0 : Z0 = (0 : Rat)) (Y1 : Z1 = (1 : Rat)) {q29 x18 x2 x19 x5 x20 x8 x0 x1 x9 x3 x4 x10 x6 x7 x11 x23 q32 : Rat} (e29 : q29 = (((x18 * x2) + (x19 * x5)) + (x20 * x8))) (e32 : q32 = ((((x18 * x9) + (x19 * x10)) + (x20 * x11)) + x23)) : q29 = (((((x18 * ((((x0 * Z0) + (x1 * Z0)) + (x2 * Z1)) + x9)) + (x19 * ((((x3 * Z0) + (x4 * Z0)) + (x5 * Z1)) + x10))) + (x20 * ((((x6 * Z0) + (x7 * Z0)) + (x8 * Z1)) + x11))) + x23) - q32) := by
  subst Y0 Y1 e29 e32
  grind

theorem pure_AffineTakes {r0 r1 r2 r3 r4 r5 r6 r7 r8 r9 r10 r11 r12 r13 r14 r15 r16 r17 r18 r19 r20 r21 r22 r23 r24 r25 r26 : RR} (g0 : r0.ok 1048576) (g1 : r1.ok 1048576) (g2 : r2.ok 1048576) (g3 : r3.ok 1048576) (g4 : r4.ok 1048576) (g5 : r5.ok 1048576) (g6 : r6.ok 1048576) (g7 : r7.ok 1048576) (g8 : r8.ok 1048576) (g9 : r9.ok 1048576) (g10 : r10.ok 1048576) (g11 : r11.ok 1048576) (g12 : r12.ok 1048576) (g13 : r13.ok 1048576) (g14 : r14.ok 1048576) (g15 : r15.ok 1048576) (g16 : r16.ok 1048576) (g17 : r17.ok 1048576) (g18 : r18.ok 1048576) (g19 : r19.ok 1048576) (g20 : r20.ok 1048576) (g21 : r21.ok 1048576) (g22 : r22.ok 1048576) (g23 : r23.ok 1048576) (g24 : r24.ok 1048576) (g25 : r25.ok 1048576) (g26 : r26.ok 1048576) : PureCalls prog F.penumbralaw07_AffineTakes [.agg ([.bool r0.neg, nl r0.num, nl r0.den, .bool r1.neg, nl r1.num, nl r1.den, .bool r2.neg, nl r2.num, nl r2.den, .bool r3.neg, nl r3.num, nl r3.den, .bool r4.neg, nl r4.num, nl r4.den, .bool r5.neg, nl r5.num, nl r5.den, .bool r6.neg, nl r6.num, nl r6.den, .bool r7.neg, nl r7.num, nl r7.den, .bool r8.neg, nl r8.num, nl r8.den, .bool r9.neg, nl r9.num, nl r9.den, .bool r10.neg, nl r10.num, nl r10.den, .bool r11.neg, nl r11.num, nl r11.den]), .agg ([.bool r12.neg, nl r12.num, nl r12.den, .bool r13.neg, nl r13.num, nl r13.den, .bool r14.neg, nl r14.num, nl r14.den, .bool r15.neg, nl r15.num, nl r15.den, .bool r16.neg, nl r16.num, nl r16.den, .bool r17.neg, nl r17.num, nl r17.den, .bool r18.neg, nl r18.num, nl r18.den, .bool r19.neg, nl r19.num, nl r19.den, .bool r20.neg, nl r20.num, nl r20.den, .bool r21.neg, nl r21.num, nl r21.den, .bool r22.neg, nl r22.num, nl r22.den, .bool r23.neg, nl r23.num, nl r23.den]), .agg ([.bool r24.neg, nl r24.num, nl r24.den, .bool r25.neg, nl r25.num, nl r25.den, .bool r26.neg, nl r26.num, nl r26.den])] [.one (.bool true)] := by
  obtain ⟨Z0, Y0⟩ := ex_eq (0 : Rat)
  obtain ⟨Z1, Y1⟩ := ex_eq (1 : Rat)
  obtain ⟨x0, h0⟩ := Num.raw g0 (by decide)
  obtain ⟨x1, h1⟩ := Num.raw g1 (by decide)
  obtain ⟨x2, h2⟩ := Num.raw g2 (by decide)
  obtain ⟨x3, h3⟩ := Num.raw g3 (by decide)
  obtain ⟨x4, h4⟩ := Num.raw g4 (by decide)
  obtain ⟨x5, h5⟩ := Num.raw g5 (by decide)
  obtain ⟨x6, h6⟩ := Num.raw g6 (by decide)
  obtain ⟨x7, h7⟩ := Num.raw g7 (by decide)
  obtain ⟨x8, h8⟩ := Num.raw g8 (by decide)
  obtain ⟨x9, h9⟩ := Num.raw g9 (by decide)
  obtain ⟨x10, h10⟩ := Num.raw g10 (by decide)
  obtain ⟨x11, h11⟩ := Num.raw g11 (by decide)
  obtain ⟨x12, h12⟩ := Num.raw g12 (by decide)
  obtain ⟨x13, h13⟩ := Num.raw g13 (by decide)
  obtain ⟨x14, h14⟩ := Num.raw g14 (by decide)
  obtain ⟨x15, h15⟩ := Num.raw g15 (by decide)
  obtain ⟨x16, h16⟩ := Num.raw g16 (by decide)
  obtain ⟨x17, h17⟩ := Num.raw g17 (by decide)
  obtain ⟨x18, h18⟩ := Num.raw g18 (by decide)
  obtain ⟨x19, h19⟩ := Num.raw g19 (by decide)
  obtain ⟨x20, h20⟩ := Num.raw g20 (by decide)
  obtain ⟨x21, h21⟩ := Num.raw g21 (by decide)
  obtain ⟨x22, h22⟩ := Num.raw g22 (by decide)
  obtain ⟨x23, h23⟩ := Num.raw g23 (by decide)
  obtain ⟨x24, h24⟩ := Num.raw g24 (by decide)
  obtain ⟨x25, h25⟩ := Num.raw g25 (by decide)
  obtain ⟨x26, h26⟩ := Num.raw g26 (by decide)
  refine symFunc_sound hmix tree_penumbralaw07_AffineTakes (by kernel_rfl) rfl ?_
  unfold ir_penumbralaw07_AffineTakes
  simp only [fa_agg, fa_one, fa_nil, List.cons_append, List.nil_append, List.append_nil]
  refine call_step n_penumbralaw07_fixed rfl ?_
  simp only [fa_agg, fa_one, fa_nil, List.cons_append, List.nil_append, List.append_nil]
  refine itT rfl ?_
  obtain ⟨q1, e1⟩ := ex_eq ((((x0 * x24) + (x1 * x25)) + (x2 * x26)) + x9)
  obtain ⟨q2, e2⟩ := ex_eq ((((x3 * x24) + (x4 * x25)) + (x5 * x26)) + x10)
  obtain ⟨q3, e3⟩ := ex_eq ((((x6 * x24) + (x7 * x25)) + (x8 * x26)) + x11)
  refine call_step (n_affine_Apply_0 (k0 := q1) (k1 := q2) (k2 := q3) (h0.mono (by decide)) (h1.mono (by decide)) (h2.mono (by decide)) (h3.mono (by decide)) (h4.mono (by decide)) (h5.mono (by decide)) (h6.mono (by decide)) (h7.mono (by decide)) (h8.mono (by decide)) (h9.mono (by decide)) (h10.mono (by decide)) (h11.mono (by decide)) (h24.mono (by decide)) (h25.mono (by decide)) (h26.mono (by decide)) e1 e2 e3) rfl ?_
  simp only [fa_agg, fa_one, fa_nil, List.cons_append, List.nil_append, List.append_nil]
  refine call_step (n_penumbraref07_Apply_0 (k0 := q1) (k1 := q2) (k2 := q3) (h0.mono (by decide)) (h1.mono (by decide)) (h2.mono (by decide)) (h3.mono (by decide)) (h4.mono (by decide)) (h5.mono (by decide)) (h6.mono (by decide)) (h7.mono (by decide)) (h8.mono (by decide)) (h9.mono (by decide)) (h10.mono (by decide)) (h11.mono (by decide)) (h24.mono (by decide)) (h25.mono (by decide)) (h26.mono (by decide)) e1 e2 e3) rfl ?_
  simp only [fa_agg, fa_one, fa_nil, List.cons_append, List.nil_append, List.append_nil]
  have m4 : Num 7340035 (cr q1) q1 := Num.eqn e1 (Sm.add (Sm.add (Sm.add (Sm.mul h0.sm h24.sm) (Sm.mul h1.sm h25.sm)) (Sm.mul h2.sm h26.sm)) h9.sm)
  have m5 : Num 7340035 (cr q2) q2 := Num.eqn e2 (Sm.add (Sm.add (Sm.add (Sm.mul h3.sm h24.sm) (Sm.mul h4.sm h25.sm)) (Sm.mul h5.sm h26.sm)) h10.sm)
  have m6 : Num 7340035 (cr q3) q3 := Num.eqn e3 (Sm.add (Sm.add (Sm.add (Sm.mul h6.sm h24.sm) (Sm.mul h7.sm h25.sm)) (Sm.mul h8.sm h26.sm)) h11.sm)
  refine call_step (n_penumbraref05_Is_0 (m4.mono (by decide)) (m5.mono (by decide)) (m6.mono (by decide)) (m4.mono (by decide)) (m5.mono (by decide)) (m6.mono (by decide)) rfl rfl rfl) rfl ?_
  simp only [fa_agg, fa_one, fa_nil, List.cons_append, List.nil_append, List.append_nil]
  refine itT rfl ?_
  obtain ⟨q7, e7⟩ := ex_eq (((x0 * x24) + (x1 * x25)) + (x2 * x26))
  obtain ⟨q8, e8⟩ := ex_eq (((x3 * x24) + (x4 * x25)) + (x5 * x26))
  obtain ⟨q9, e9⟩ := ex_eq (((x6 * x24) + (x7 * x25)) + (x8 * x26))
  refine call_step (n_affine_Turn_0 (k0 := q7) (k1 := q8) (k2 := q9) (h0.mono (by decide)) (h1.mono (by decide)) (h2.mono (by decide)) (h3.mono (by decide)) (h4.mono (by decide)) (h5.mono (by decide)) (h6.mono (by decide)) (h7.mono (by decide)) (h8.mono (by decide)) (h9.mono (by decide)) (h10.mono (by decide)) (h11.mono (by decide)) (h24.mono (by decide)) (h25.mono (by decide)) (h26.mono (by decide)) e7 e8 e9) rfl ?_
  simp only [fa_agg, fa_one, fa_nil, List.cons_append, List.nil_append, List.append_nil]
  refine call_step (n_penumbraref07_Turn_0 (k0 := q7) (k1 := q8) (k2 := q9) (h0.mono (by decide)) (h1.mono (by decide)) (h2.mono (by decide)) (h3.mono (by decide)) (h4.mono (by decide)) (h5.mono (by decide)) (h6.mono (by decide)) (h7.mono (by decide)) (h8.mono (by decide)) (h9.mono (by decide)) (h10.mono (by decide)) (h11.mono (by decide)) (h24.mono (by decide)) (h25.mono (by decide)) (h26.mono (by decide)) e7 e8 e9) rfl ?_
  simp only [fa_agg, fa_one, fa_nil, List.cons_append, List.nil_append, List.append_nil]
  have m10 : Num 6291458 (cr q7) q7 := Num.eqn e7 (Sm.add (Sm.add (Sm.mul h0.sm h24.sm) (Sm.mul h1.sm h25.sm)) (Sm.mul h2.sm h26.sm))
  have m11 : Num 6291458 (cr q8) q8 := Num.eqn e8 (Sm.add (Sm.add (Sm.mul h3.sm h24.sm) (Sm.mul h4.sm h25.sm)) (Sm.mul h5.sm h26.sm))
  have m12 : Num 6291458 (cr q9) q9 := Num.eqn e9 (Sm.add (Sm.add (Sm.mul h6.sm h24.sm) (Sm.mul h7.sm h25.sm)) (Sm.mul h8.sm h26.sm))
  refine call_step (n_penumbraref05_Is_0 (m10.mono (by decide)) (m11.mono (by decide)) (m12.mono (by decide)) (m10.mono (by decide)) (m11.mono (by decide)) (m12.mono (by decide)) rfl rfl rfl) rfl ?_
  simp only [fa_agg, fa_one, fa_nil, List.cons_append, List.nil_append, List.append_nil]
  refine itT rfl ?_
  obtain ⟨q13, e13⟩ := ex_eq (((((x4 * x8) - (x5 * x7)) * x24) + (((x5 * x6) - (x3 * x8)) * x25)) + (((x3 * x7) - (x4 * x6)) * x26))
  obtain ⟨q14, e14⟩ := ex_eq (((((x7 * x2) - (x8 * x1)) * x24) + (((x8 * x0) - (x6 * x2)) * x25)) + (((x6 * x1) - (x7 * x0)) * x26))
  obtain ⟨q15, e15⟩ := ex_eq (((((x1 * x5) - (x2 * x4)) * x24) + (((x2 * x3) - (x0 * x5)) * x25)) + (((x0 * x4) - (x1 * x3)) * x26))
  refine call_step (n_affine_Area_0 (k0 := q13) (k1 := q14) (k2 := q15) (h0.mono (by decide)) (h1.mono (by decide)) (h2.mono (by decide)) (h3.mono (by decide)) (h4.mono (by decide)) (h5.mono (by decide)) (h6.mono (by decide)) (h7.mono (by decide)) (h8.mono (by decide)) (h9.mono (by decide)) (h10.mono (by decide)) (h11.mono (by decide)) (h24.mono (by decide)) (h25.mono (by decide)) (h26.mono (by decide)) e13 e14 e15) rfl ?_
  simp only [fa_agg, fa_one, fa_nil, List.cons_append, List.nil_append, List.append_nil]
  refine call_step (n_penumbraref07_Area_0 (k0 := q13) (k1 := q14) (k2 := q15) (h0.mono (by decide)) (h1.mono (by decide)) (h2.mono (by decide)) (h3.mono (by decide)) (h4.mono (by decide)) (h5.mono (by decide)) (h6.mono (by decide)) (h7.mono (by decide)) (h8.mono (by decide)) (h9.mono (by decide)) (h10.mono (by decide)) (h11.mono (by decide)) (h24.mono (by decide)) (h25.mono (by decide)) (h26.mono (by decide)) e13 e14 e15) rfl ?_
  simp only [fa_agg, fa_one, fa_nil, List.cons_append, List.nil_append, List.append_nil]
  have m16 : Num 15728645 (cr q13) q13 := Num.eqn e13 (Sm.add (Sm.add (Sm.mul (Sm.sub (Sm.mul h4.sm h8.sm) (Sm.mul h5.sm h7.sm)) h24.sm) (Sm.mul (Sm.sub (Sm.mul h5.sm h6.sm) (Sm.mul h3.sm h8.sm)) h25.sm)) (Sm.mul (Sm.sub (Sm.mul h3.sm h7.sm) (Sm.mul h4.sm h6.sm)) h26.sm))
  have m17 : Num 15728645 (cr q14) q14 := Num.eqn e14 (Sm.add (Sm.add (Sm.mul (Sm.sub (Sm.mul h7.sm h2.sm) (Sm.mul h8.sm h1.sm)) h24.sm) (Sm.mul (Sm.sub (Sm.mul h8.sm h0.sm) (Sm.mul h6.sm h2.sm)) h25.sm)) (Sm.mul (Sm.sub (Sm.mul h6.sm h1.sm) (Sm.mul h7.sm h0.sm)) h26.sm))
  have m18 : Num 15728645 (cr q15) q15 := Num.eqn e15 (Sm.add (Sm.add (Sm.mul (Sm.sub (Sm.mul h1.sm h5.sm) (Sm.mul h2.sm h4.sm)) h24.sm) (Sm.mul (Sm.sub (Sm.mul h2.sm h3.sm) (Sm.mul h0.sm h5.sm)) h25.sm)) (Sm.mul (Sm.sub (Sm.mul h0.sm h4.sm) (Sm.mul h1.sm h3.sm)) h26.sm))
  refine call_step (n_penumbraref05_Is_0 (m16.mono (by decide)) (m17.mono (by decide)) (m18.mono (by decide)) (m16.mono (by decide)) (m17.mono (by decide)) (m18.mono (by decide)) rfl rfl rfl) rfl ?_
  simp only [fa_agg, fa_one, fa_nil, List.cons_append, List.nil_append, List.append_nil]
  refine itT rfl ?_
  obtain ⟨q19, e19⟩ := ex_eq (((x0 * ((x4 * x8) - (x5 * x7))) + (x1 * ((x5 * x6) - (x3 * x8)))) + (x2 * ((x3 * x7) - (x4 * x6))))
  refine call_step (n_affine_Det_0 (k0 := q19) (h0.mono (by decide)) (h1.mono (by decide)) (h2.mono (by decide)) (h3.mono (by decide)) (h4.mono (by decide)) (h5.mono (by decide)) (h6.mono (by decide)) (h7.mono (by decide)) (h8.mono (by decide)) (h9.mono (by decide)) (h10.mono (by decide)) (h11.mono (by decide)) e19) rfl ?_
  simp only [fa_agg, fa_one, fa_nil, List.cons_append, List.nil_append, List.append_nil]
  refine call_step (n_penumbraref07_Det_0 (k0 := q19) (h0.mono (by decide)) (h1.mono (by decide)) (h2.mono (by decide)) (h3.mono (by decide)) (h4.mono (by decide)) (h5.mono (by decide)) (h6.mono (by decide)) (h7.mono (by decide)) (h8.mono (by decide)) (h9.mono (by decide)) (h10.mono (by decide)) (h11.mono (by decide)) e19) rfl ?_
  simp only [fa_agg, fa_one, fa_nil, List.cons_append, List.nil_append, List.append_nil]
  have m20 : Num 15728645 (cr q19) q19 := Num.eqn e19 (Sm.add (Sm.add (Sm.mul h0.sm (Sm.sub (Sm.mul h4.sm h8.sm) (Sm.mul h5.sm h7.sm))) (Sm.mul h1.sm (Sm.sub (Sm.mul h5.sm h6.sm) (Sm.mul h3.sm h8.sm)))) (Sm.mul h2.sm (Sm.sub (Sm.mul h3.sm h7.sm) (Sm.mul h4.sm h6.sm))))
  refine call_step (n_penumbraref03_Is_t (m20.mono (by decide)) (m20.mono (by decide)) rfl) rfl ?_
  simp only [fa_agg, fa_one, fa_nil, List.cons_append, List.nil_append, List.append_nil]
  refine itT rfl ?_
  obtain ⟨q21, e21⟩ := ex_eq (((x12 * x0) + (x13 * x3)) + (x14 * x6))
  obtain ⟨q22, e22⟩ := ex_eq (((x12 * x1) + (x13 * x4)) + (x14 * x7))
  obtain ⟨q23, e23⟩ := ex_eq (((x12 * x2) + (x13 * x5)) + (x14 * x8))
  obtain ⟨q24, e24⟩ := ex_eq (((x15 * x0) + (x16 * x3)) + (x17 * x6))
  obtain ⟨q25, e25⟩ := ex_eq (((x15 * x1) + (x16 * x4)) + (x17 * x7))
  obtain ⟨q26, e26⟩ := ex_eq (((x15 * x2) + (x16 * x5)) + (x17 * x8))
  obtain ⟨q27, e27⟩ := ex_eq (((x18 * x0) + (x19 * x3)) + (x20 * x6))
  obtain ⟨q28, e28⟩ := ex_eq (((x18 * x1) + (x19 * x4)) + (x20 * x7))
  obtain ⟨q29, e29⟩ := ex_eq (((x18 * x2) + (x19 * x5)) + (x20 * x8))
  obtain ⟨q30, e30⟩ := ex_eq ((((x12 * x9) + (x13 * x10)) + (x14 * x11)) + x21)
  obtain ⟨q31, e31⟩ := ex_eq ((((x15 * x9) + (x16 * x10)) + (x17 * x11)) + x22)
  obtain ⟨q32, e32⟩ := ex_eq ((((x18 * x9) + (x19 * x10)) + (x20 * x11)) + x23)
  refine call_step (n_affine_Then_0 (k0 := q21) (k1 := q22) (k2 := q23) (k3 := q24) (k4 := q25) (k5 := q26) (k6 := q27) (k7 := q28) (k8 := q29) (k9 := q30) (k10 := q31) (k11 := q32) (h0.mono (by decide)) (h1.mono (by decide)) (h2.mono (by decide)) (h3.mono (by decide)) (h4.mono (by decide)) (h5.mono (by decide)) (h6.mono (by decide)) (h7.mono (by decide)) (h8.mono (by decide)) (h9.mono (by decide)) (h10.mono (by decide)) (h11.mono (by decide)) (h12.mono (by decide)) (h13.mono (by decide)) (h14.mono (by decide)) (h15.mono (by decide)) (h16.mono (by decide)) (h17.mono (by decide)) (h18.mono (by decide)) (h19.mono (by decide)) (h20.mono (by decide)) (h21.mono (by decide)) (h22.mono (by decide)) (h23.mono (by decide)) e21 e22 e23 e24 e25 e26 e27 e28 e29 e30 e31 e32) rfl ?_
  simp only [fa_agg, fa_one, fa_nil, List.cons_append, List.nil_append, List.append_nil]
  have u33 : q30 = ((((x12 * ((((x0 * Z0) + (x1 * Z0)) + (x2 * Z0)) + x9)) + (x13 * ((((x3 * Z0) + (x4 * Z0)) + (x5 * Z0)) + x10))) + (x14 * ((((x6 * Z0) + (x7 * Z0)) + (x8 * Z0)) + x11))) + x21) := (AffineTakes_al34 Y0 e30)
  have u35 : q21 = (((((x12 * ((((x0 * Z1) + (x1 * Z0)) + (x2 * Z0)) + x9)) + (x13 * ((((x3 * Z1) + (x4 * Z0)) + (x5 * Z0)) + x10))) + (x14 * ((((x6 * Z1) + (x7 * Z0)) + (x8 * Z0)) + x11))) + x21) - q30) := (AffineTakes_al36 Y0 Y1 e21 e30)
  have u37 : q22 = (((((x12 * ((((x0 * Z0) + (x1 * Z1)) + (x2 * Z0)) + x9)) + (x13 * ((((x3 * Z0) + (x4 * Z1)) + (x5 * Z0)) + x10))) + (x14 * ((((x6 * Z0) + (x7 * Z1)) + (x8 * Z0)) + x11))) + x21) - q30) := (AffineTakes_al38 Y0 Y1 e22 e30)
  have u39 : q23 = (((((x12 * ((((x0 * Z0) + (x1 * Z0)) + (x2 * Z1)) + x9)) + (x13 * ((((x3 * Z0) + (x4 * Z0)) + (x5 * Z1)) + x10))) + (x14 * ((((x6 * Z0) + (x7 * Z0)) + (x8 * Z1)) + x11))) + x21) - q30) := (AffineTakes_al40 Y0 Y1 e23 e30)
  have u41 : q31 = ((((x15 * ((((x0 * Z0) + (x1 * Z0)) + (x2 * Z0)) + x9)) + (x16 * ((((x3 * Z0) + (x4 * Z0)) + (x5 * Z0)) + x10))) + (x17 * ((((x6 * Z0) + (x7 * Z0)) + (x8 * Z0)) + x11))) + x22) := (AffineTakes_al42 Y0 e31)
  have u43 : q24 = (((((x15 * ((((x0 * Z1) + (x1 * Z0)) + (x2 * Z0)) + x9)) + (x16 * ((((x3 * Z1) + (x4 * Z0)) + (x5 * Z0)) + x10))) + (x17 * ((((x6 * Z1) + (x7 * Z0)) + (x8 * Z0)) + x11))) + x22) - q31) := (AffineTakes_al44 Y0 Y1 e24 e31)
  have u45 : q25 = (((((x15 * ((((x0 * Z0) + (x1 * Z1)) + (x2 * Z0)) + x9)) + (x16 * ((((x3 * Z0) + (x4 * Z1)) + (x5 * Z0)) + x10))) + (x17 * ((((x6 * Z0) + (x7 * Z1)) + (x8 * Z0)) + x11))) + x22) - q31) := (AffineTakes_al46 Y0 Y1 e25 e31)
  have u47 : q26 = (((((x15 * ((((x0 * Z0) + (x1 * Z0)) + (x2 * Z1)) + x9)) + (x16 * ((((x3 * Z0) + (x4 * Z0)) + (x5 * Z1)) + x10))) + (x17 * ((((x6 * Z0) + (x7 * Z0)) + (x8 * Z1)) + x11))) + x22) - q31) := (AffineTakes_al48 Y0 Y1 e26 e31)
  have u49 : q32 = ((((x18 * ((((x0 * Z0) + (x1 * Z0)) + (x2 * Z0)) + x9)) + (x19 * ((((x3 * Z0) + (x4 * Z0)) + (x5 * Z0)) + x10))) + (x20 * ((((x6 * Z0) + (x7 * Z0)) + (x8 * Z0)) + x11))) + x23) := (AffineTakes_al50 Y0 e32)
  have u51 : q27 = (((((x18 * ((((x0 * Z1) + (x1 * Z0)) + (x2 * Z0)) + x9)) + (x19 * ((((x3 * Z1) + (x4 * Z0)) + (x5 * Z0)) + x10))) + (x20 * ((((x6 * Z1) + (x7 * Z0)) + (x8 * Z0)) + x11))) + x23) - q32) := (AffineTakes_al52 Y0 Y1 e27 e32)
  have u53 : q28 = (((((x18 * ((((x0 * Z0) + (x1 * Z1)) + (x2 * Z0)) + x9)) + (x19 * ((((x3 * Z0) + (x4 * Z1)) + (x5 * Z0)) + x10))) + (x20 * ((((x6 * Z0) + (x7 * Z1)) + (x8 * Z0)) + x11))) + x23) - q32) := (AffineTakes_al54 Y0 Y1 e28 e32)
  have u55 : q29 = (((((x18 * ((((x0 * Z0) + (x1 * Z0)) + (x2 * Z1)) + x9)) + (x19 * ((((x3 * Z0) + (x4 * Z0)) + (x5 * Z1)) + x10))) + (x20 * ((((x6 * Z0) + (x7 * Z0)) + (x8 * Z1)) + x11))) + x23) - q32) := (AffineTakes_al56 Y0 Y1 e29 e32)
  refine call_step (n_penumbraref07_Then_0 (k0 := q30) (k1 := q21) (k2 := q22) (k3 := q23) (k4 := q31) (k5 := q24) (k6 := q25) (k7 := q26) (k8 := q32) (k9 := q27) (k10 := q28) (k11 := q29) Y0 Y1 (h0.mono (by decide)) (h1.mono (by decide)) (h2.mono (by decide)) (h3.mono (by decide)) (h4.mono (by decide)) (h5.mono (by decide)) (h6.mono (by decide)) (h7.mono (by decide)) (h8.mono (by decide)) (h9.mono (by decide)) (h10.mono (by decide)) (h11.mono (by decide)) (h12.mono (by decide)) (h13.mono (by decide)) (h14.mono (by decide)) (h15.mono (by decide)) (h16.mono (by decide)) (h17.mono (by decide)) (h18.mono (by decide)) (h19.mono (by decide)) (h20.mono (by decide)) (h21.mono (by decide)) (h22.mono (by decide)) (h23.mono (by decide)) u33 u35 u37 u39 u41 u43 u45 u47 u49 u51 u53 u55) rfl ?_
  simp only [fa_agg, fa_one, fa_nil, List.cons_append, List.nil_append, List.append_nil]
  have m57 : Num 6291458 (cr q21) q21 := Num.eqn e21 (Sm.add (Sm.add (Sm.mul h12.sm h0.sm) (Sm.mul h13.sm h3.sm)) (Sm.mul h14.sm h6.sm))
  have m58 : Num 6291458 (cr q22) q22 := Num.eqn e22 (Sm.add (Sm.add (Sm.mul h12.sm h1.sm) (Sm.mul h13.sm h4.sm)) (Sm.mul h14.sm h7.sm))
  have m59 : Num 6291458 (cr q23) q23 := Num.eqn e23 (Sm.add (Sm.add (Sm.mul h12.sm h2.sm) (Sm.mul h13.sm h5.sm)) (Sm.mul h14.sm h8.sm))
  have m60 : Num 6291458 (cr q24) q24 := Num.eqn e24 (Sm.add (Sm.add (Sm.mul h15.sm h0.sm) (Sm.mul h16.sm h3.sm)) (Sm.mul h17.sm h6.sm))
  have m61 : Num 6291458 (cr q25) q25 := Num.eqn e25 (Sm.add (Sm.add (Sm.mul h15.sm h1.sm) (Sm.mul h16.sm h4.sm)) (Sm.mul h17.sm h7.sm))
  have m62 : Num 6291458 (cr q26) q26 := Num.eqn e26 (Sm.add (Sm.add (Sm.mul h15.sm h2.sm) (Sm.mul h16.sm h5.sm)) (Sm.mul h17.sm h8.sm))
  have m63 : Num 6291458 (cr q27) q27 := Num.eqn e27 (Sm.add (Sm.add (Sm.mul h18.sm h0.sm) (Sm.mul h19.sm h3.sm)) (Sm.mul h20.sm h6.sm))
  have m64 : Num 6291458 (cr q28) q28 := Num.eqn e28 (Sm.add (Sm.add (Sm.mul h18.sm h1.sm) (Sm.mul h19.sm h4.sm)) (Sm.mul h20.sm h7.sm))
  have m65 : Num 6291458 (cr q29) q29 := Num.eqn e29 (Sm.add (Sm.add (Sm.mul h18.sm h2.sm) (Sm.mul h19.sm h5.sm)) (Sm.mul h20.sm h8.sm))
  have m66 : Num 7340035 (cr q30) q30 := Num.eqn e30 (Sm.add (Sm.add (Sm.add (Sm.mul h12.sm h9.sm) (Sm.mul h13.sm h10.sm)) (Sm.mul h14.sm h11.sm)) h21.sm)
  have m67 : Num 7340035 (cr q31) q31 := Num.eqn e31 (Sm.add (Sm.add (Sm.add (Sm.mul h15.sm h9.sm) (Sm.mul h16.sm h10.sm)) (Sm.mul h17.sm h11.sm)) h22.sm)
  have m68 : Num 7340035 (cr q32) q32 := Num.eqn e32 (Sm.add (Sm.add (Sm.add (Sm.mul h18.sm h9.sm) (Sm.mul h19.sm h10.sm)) (Sm.mul h20.sm h11.sm)) h23.sm)
  refine call_step (n_penumbraref07_Is_0 (m57.mono (by decide)) (m58.mono (by decide)) (m59.mono (by decide)) (m60.mono (by decide)) (m61.mono (by decide)) (m62.mono (by decide)) (m63.mono (by decide)) (m64.mono (by decide)) (m65.mono (by decide)) (m66.mono (by decide)) (m67.mono (by decide)) (m68.mono (by decide)) (m57.mono (by decide)) (m58.mono (by decide)) (m59.mono (by decide)) (m60.mono (by decide)) (m61.mono (by decide)) (m62.mono (by decide)) (m63.mono (by decide)) (m64.mono (by decide)) (m65.mono (by decide)) (m66.mono (by decide)) (m67.mono (by decide)) (m68.mono (by decide)) rfl rfl rfl rfl rfl rfl rfl rfl rfl rfl rfl rfl) rfl ?_
  simp only [fa_agg, fa_one, fa_nil, List.cons_append, List.nil_append, List.append_nil]
  exact ret_step rfl

end Go.Px.Na

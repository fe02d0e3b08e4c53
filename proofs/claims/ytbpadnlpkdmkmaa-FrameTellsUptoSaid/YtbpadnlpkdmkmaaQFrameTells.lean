/- QFrameTells: whatever the numbers, the law tells true. -/
import Derived.Test.YtbpadnlpkdmkmaaXFrameTells
set_option maxRecDepth 20000
set_option maxHeartbeats 4000000
set_option linter.unusedVariables false
set_option linter.unusedSimpArgs false
namespace Go.Px.Na
open Go.RowKit
open Go.Proofs.Try (prog)

theorem pure_FrameTells {r0 r1 r2 r3 r4 r5 r6 r7 r8 r9 r10 r11 : RR} (g0 : r0.ok 1048576) (g1 : r1.ok 1048576) (g2 : r2.ok 1048576) (g3 : r3.ok 1048576) (g4 : r4.ok 1048576) (g5 : r5.ok 1048576) (g6 : r6.ok 1048576) (g7 : r7.ok 1048576) (g8 : r8.ok 1048576) (g9 : r9.ok 1048576) (g10 : r10.ok 1048576) (g11 : r11.ok 1048576) : PureCalls prog F.penumbralaw06_FrameTells [.agg ([.bool r0.neg, nl r0.num, nl r0.den, .bool r1.neg, nl r1.num, nl r1.den, .bool r2.neg, nl r2.num, nl r2.den, .bool r3.neg, nl r3.num, nl r3.den, .bool r4.neg, nl r4.num, nl r4.den, .bool r5.neg, nl r5.num, nl r5.den, .bool r6.neg, nl r6.num, nl r6.den, .bool r7.neg, nl r7.num, nl r7.den, .bool r8.neg, nl r8.num, nl r8.den]), .agg ([.bool r9.neg, nl r9.num, nl r9.den, .bool r10.neg, nl r10.num, nl r10.den, .bool r11.neg, nl r11.num, nl r11.den])] [.one (.bool true)] := by
  obtain ⟨Z0, Y0⟩ := ex_eq (0 : Rat)
  obtain ⟨Z1, Y1⟩ := ex_eq (1 : Rat)
  obtain ⟨x0, h0⟩ := Num.raw g0 (by decide)
  obtain ⟨x1, h1⟩ := Num.raw g1 (by decide)
  obtain ⟨x2, h2⟩ := Num.raw g2 (by decide)
  obtain ⟨x3, h3⟩ := Num.raw g3 (by decide)
  obtain ⟨x4, h4⟩ := Num.raw g4 (by decide)
  obtain ⟨x5, h5⟩ := Num.raw g5 (by decide)
  obtain ⟨x6, h6⟩ := Num.raw g6 (by decide)
  obtain ⟨x7, h7⟩ := Num.raw g7 (by decide)
  obtain ⟨x8, h8⟩ := Num.raw g8 (by decide)
  obtain ⟨x9, h9⟩ := Num.raw g9 (by decide)
  obtain ⟨x10, h10⟩ := Num.raw g10 (by decide)
  obtain ⟨x11, h11⟩ := Num.raw g11 (by decide)
  refine symFunc_sound hmix tree_penumbralaw06_FrameTells (by kernel_rfl) rfl ?_
  unfold ir_penumbralaw06_FrameTells
  simp only [fa_agg, fa_one, fa_nil, List.cons_append, List.nil_append, List.append_nil]
  obtain ⟨q1, e1⟩ := ex_eq (((x9 * x6) + (x10 * x7)) + (x11 * x8))
  by_cases c2 : q1 = Z0
  · skip
    refine call_step (n_frame_Slopes_0 (k0 := q1) Y0 (h0.mono (by decide)) (h1.mono (by decide)) (h2.mono (by decide)) (h3.mono (by decide)) (h4.mono (by decide)) (h5.mono (by decide)) (h6.mono (by decide)) (h7.mono (by decide)) (h8.mono (by decide)) (h9.mono (by decide)) (h10.mono (by decide)) (h11.mono (by decide)) e1 c2) rfl ?_
    simp only [fa_agg, fa_one, fa_nil, List.cons_append, List.nil_append, List.append_nil]
    refine call_step (n_penumbraref06_Slopes_0 (k0 := q1) Y0 (h0.mono (by decide)) (h1.mono (by decide)) (h2.mono (by decide)) (h3.mono (by decide)) (h4.mono (by decide)) (h5.mono (by decide)) (h6.mono (by decide)) (h7.mono (by decide)) (h8.mono (by decide)) (h9.mono (by decide)) (h10.mono (by decide)) (h11.mono (by decide)) e1 c2) rfl ?_
    simp only [fa_agg, fa_one, fa_nil, List.cons_append, List.nil_append, List.append_nil]
    refine call_step n_penumbralaw06_fixed rfl ?_
    simp only [fa_agg, fa_one, fa_nil, List.cons_append, List.nil_append, List.append_nil]
    refine itT rfl ?_
    obtain ⟨q3, e3⟩ := ex_eq (((x9 * x0) + (x10 * x1)) + (x11 * x2))
    obtain ⟨q4, e4⟩ := ex_eq (((x9 * x3) + (x10 * x4)) + (x11 * x5))
    refine call_step (n_frame_In_0 (k0 := q3) (k1 := q4) (k2 := q1) (h0.mono (by decide)) (h1.mono (by decide)) (h2.mono (by decide)) (h3.mono (by decide)) (h4.mono (by decide)) (h5.mono (by decide)) (h6.mono (by decide)) (h7.mono (by decide)) (h8.mono (by decide)) (h9.mono (by decide)) (h10.mono (by decide)) (h11.mono (by decide)) e3 e4 e1) rfl ?_
    simp only [fa_agg, fa_one, fa_nil, List.cons_append, List.nil_append, List.append_nil]
    refine call_step (n_penumbraref06_In_0 (k0 := q3) (k1 := q4) (k2 := q1) (h0.mono (by decide)) (h1.mono (by decide)) (h2.mono (by decide)) (h3.mono (by decide)) (h4.mono (by decide)) (h5.mono (by decide)) (h6.mono (by decide)) (h7.mono (by decide)) (h8.mono (by decide)) (h9.mono (by decide)) (h10.mono (by decide)) (h11.mono (by decide)) e3 e4 e1) rfl ?_
    simp only [fa_agg, fa_one, fa_nil, List.cons_append, List.nil_append, List.append_nil]
    have m5 : Num 6291458 (cr q3) q3 := Num.eqn e3 (Sm.add (Sm.add (Sm.mul h9.sm h0.sm) (Sm.mul h10.sm h1.sm)) (Sm.mul h11.sm h2.sm))
    have m6 : Num 6291458 (cr q4) q4 := Num.eqn e4 (Sm.add (Sm.add (Sm.mul h9.sm h3.sm) (Sm.mul h10.sm h4.sm)) (Sm.mul h11.sm h5.sm))
    have m7 : Num 6291458 (cr q1) q1 := Num.eqn e1 (Sm.add (Sm.add (Sm.mul h9.sm h6.sm) (Sm.mul h10.sm h7.sm)) (Sm.mul h11.sm h8.sm))
    refine call_step (n_penumbraref05_Is_0 (m5.mono (by decide)) (m6.mono (by decide)) (m7.mono (by decide)) (m5.mono (by decide)) (m6.mono (by decide)) (m7.mono (by decide)) rfl rfl rfl) rfl ?_
    simp only [fa_agg, fa_one, fa_nil, List.cons_append, List.nil_append, List.append_nil]
    refine itT rfl ?_
    obtain ⟨q8, e8⟩ := ex_eq (((x9 * x0) + (x10 * x3)) + (x11 * x6))
    obtain ⟨q9, e9⟩ := ex_eq (((x9 * x1) + (x10 * x4)) + (x11 * x7))
    obtain ⟨q10, e10⟩ := ex_eq (((x9 * x2) + (x10 * x5)) + (x11 * x8))
    refine call_step (n_frame_Out_0 (k0 := q8) (k1 := q9) (k2 := q10) (h0.mono (by decide)) (h1.mono (by decide)) (h2.mono (by decide)) (h3.mono (by decide)) (h4.mono (by decide)) (h5.mono (by decide)) (h6.mono (by decide)) (h7.mono (by decide)) (h8.mono (by decide)) (h9.mono (by decide)) (h10.mono (by decide)) (h11.mono (by decide)) e8 e9 e10) rfl ?_
    simp only [fa_agg, fa_one, fa_nil, List.cons_append, List.nil_append, List.append_nil]
    refine call_step (n_penumbraref06_Out_0 (k0 := q8) (k1 := q9) (k2 := q10) (h0.mono (by decide)) (h1.mono (by decide)) (h2.mono (by decide)) (h3.mono (by decide)) (h4.mono (by decide)) (h5.mono (by decide)) (h6.mono (by decide)) (h7.mono (by decide)) (h8.mono (by decide)) (h9.mono (by decide)) (h10.mono (by decide)) (h11.mono (by decide)) e8 e9 e10) rfl ?_
    simp only [fa_agg, fa_one, fa_nil, List.cons_append, List.nil_append, List.append_nil]
    have m11 : Num 6291458 (cr q8) q8 := Num.eqn e8 (Sm.add (Sm.add (Sm.mul h9.sm h0.sm) (Sm.mul h10.sm h3.sm)) (Sm.mul h11.sm h6.sm))
    have m12 : Num 6291458 (cr q9) q9 := Num.eqn e9 (Sm.add (Sm.add (Sm.mul h9.sm h1.sm) (Sm.mul h10.sm h4.sm)) (Sm.mul h11.sm h7.sm))
    have m13 : Num 6291458 (cr q10) q10 := Num.eqn e10 (Sm.add (Sm.add (Sm.mul h9.sm h2.sm) (Sm.mul h10.sm h5.sm)) (Sm.mul h11.sm h8.sm))
    refine call_step (n_penumbraref05_Is_0 (m11.mono (by decide)) (m12.mono (by decide)) (m13.mono (by decide)) (m11.mono (by decide)) (m12.mono (by decide)) (m13.mono (by decide)) rfl rfl rfl) rfl ?_
    simp only [fa_agg, fa_one, fa_nil, List.cons_append, List.nil_append, List.append_nil]
    refine itT rfl ?_
    have m14 : Num 1 (cr Z0) Z0 := Num.c Y0 (by decide +kernel) (by decide +kernel)
    refine call_step (n_penumbraref03_Is_t (m14.mono (by decide)) (m14.mono (by decide)) rfl) rfl ?_
    simp only [fa_agg, fa_one, fa_nil, List.cons_append, List.nil_append, List.append_nil]
    refine itT rfl ?_
    refine call_step (n_penumbraref03_Is_t (m14.mono (by decide)) (m14.mono (by decide)) rfl) rfl ?_
    simp only [fa_agg, fa_one, fa_nil, List.cons_append, List.nil_append, List.append_nil]
    refine itT rfl ?_
    refine call_step (n_penumbraref03_Is_t (m7.mono (by decide)) (m14.mono (by decide)) c2) rfl ?_
    simp only [fa_agg, fa_one, fa_nil, List.cons_append, List.nil_append, List.append_nil]
    refine itT rfl ?_
    refine primS (.bool true) rfl ?_
    refine itT rfl ?_
    obtain ⟨q15, e15⟩ := ex_eq (((x9 * x0) + (x10 * x3)) + (Z1 * x6))
    obtain ⟨q16, e16⟩ := ex_eq (((x9 * x1) + (x10 * x4)) + (Z1 * x7))
    obtain ⟨q17, e17⟩ := ex_eq (((x9 * x2) + (x10 * x5)) + (Z1 * x8))
    refine call_step (n_frame_Along_0 (k0 := q15) (k1 := q16) (k2 := q17) Y1 (h0.mono (by decide)) (h1.mono (by decide)) (h2.mono (by decide)) (h3.mono (by decide)) (h4.mono (by decide)) (h5.mono (by decide)) (h6.mono (by decide)) (h7.mono (by decide)) (h8.mono (by decide)) (h9.mono (by decide)) (h10.mono (by decide)) e15 e16 e17) rfl ?_
    simp only [fa_agg, fa_one, fa_nil, List.cons_append, List.nil_append, List.append_nil]
    refine call_step (n_penumbraref06_Along_0 (k0 := q15) (k1 := q16) (k2 := q17) Y1 (h0.mono (by decide)) (h1.mono (by decide)) (h2.mono (by decide)) (h3.mono (by decide)) (h4.mono (by decide)) (h5.mono (by decide)) (h6.mono (by decide)) (h7.mono (by decide)) (h8.mono (by decide)) (h9.mono (by decide)) (h10.mono (by decide)) e15 e16 e17) rfl ?_
    simp only [fa_agg, fa_one, fa_nil, List.cons_append, List.nil_append, List.append_nil]
    have m19 : Num 1 (cr Z1) Z1 := Num.c Y1 (by decide +kernel) (by decide +kernel)
    have m18 : Num 5242883 (cr q15) q15 := Num.eqn e15 (Sm.add (Sm.add (Sm.mul h9.sm h0.sm) (Sm.mul h10.sm h3.sm)) (Sm.mul m19.sm h6.sm))
    have m20 : Num 5242883 (cr q16) q16 := Num.eqn e16 (Sm.add (Sm.add (Sm.mul h9.sm h1.sm) (Sm.mul h10.sm h4.sm)) (Sm.mul m19.sm h7.sm))
    have m21 : Num 5242883 (cr q17) q17 := Num.eqn e17 (Sm.add (Sm.add (Sm.mul h9.sm h2.sm) (Sm.mul h10.sm h5.sm)) (Sm.mul m19.sm h8.sm))
    refine call_step (n_penumbraref05_Is_0 (m18.mono (by decide)) (m20.mono (by decide)) (m21.mono (by decide)) (m18.mono (by decide)) (m20.mono (by decide)) (m21.mono (by decide)) rfl rfl rfl) rfl ?_
    simp only [fa_agg, fa_one, fa_nil, List.cons_append, List.nil_append, List.append_nil]
    exact ret_step rfl
  · skip
    obtain ⟨q22, e22⟩ := ex_eq ((((x9 * x0) + (x10 * x1)) + (x11 * x2)) / q1)
    have d22 := div_mul Y0 e22 c2
    obtain ⟨q23, e23⟩ := ex_eq ((((x9 * x3) + (x10 * x4)) + (x11 * x5)) / q1)
    have d23 := div_mul Y0 e23 c2
    refine call_step (n_frame_Slopes_1 (k0 := q1) (k1 := q22) (k2 := q23) Y0 (h0.mono (by decide)) (h1.mono (by decide)) (h2.mono (by decide)) (h3.mono (by decide)) (h4.mono (by decide)) (h5.mono (by decide)) (h6.mono (by decide)) (h7.mono (by decide)) (h8.mono (by decide)) (h9.mono (by decide)) (h10.mono (by decide)) (h11.mono (by decide)) e1 e22 e23 c2) rfl ?_
    simp only [fa_agg, fa_one, fa_nil, List.cons_append, List.nil_append, List.append_nil]
    refine call_step (n_penumbraref06_Slopes_1 (k0 := q1) (k1 := q22) (k2 := q23) Y0 (h0.mono (by decide)) (h1.mono (by decide)) (h2.mono (by decide)) (h3.mono (by decide)) (h4.mono (by decide)) (h5.mono (by decide)) (h6.mono (by decide)) (h7.mono (by decide)) (h8.mono (by decide)) (h9.mono (by decide)) (h10.mono (by decide)) (h11.mono (by decide)) e1 e22 e23 c2) rfl ?_
    simp only [fa_agg, fa_one, fa_nil, List.cons_append, List.nil_append, List.append_nil]
    refine call_step n_penumbralaw06_fixed rfl ?_
    simp only [fa_agg, fa_one, fa_nil, List.cons_append, List.nil_append, List.append_nil]
    refine itT rfl ?_
    obtain ⟨q24, e24⟩ := ex_eq (((x9 * x0) + (x10 * x1)) + (x11 * x2))
    obtain ⟨q25, e25⟩ := ex_eq (((x9 * x3) + (x10 * x4)) + (x11 * x5))
    refine call_step (n_frame_In_0 (k0 := q24) (k1 := q25) (k2 := q1) (h0.mono (by decide)) (h1.mono (by decide)) (h2.mono (by decide)) (h3.mono (by decide)) (h4.mono (by decide)) (h5.mono (by decide)) (h6.mono (by decide)) (h7.mono (by decide)) (h8.mono (by decide)) (h9.mono (by decide)) (h10.mono (by decide)) (h11.mono (by decide)) e24 e25 e1) rfl ?_
    simp only [fa_agg, fa_one, fa_nil, List.cons_append, List.nil_append, List.append_nil]
    refine call_step (n_penumbraref06_In_0 (k0 := q24) (k1 := q25) (k2 := q1) (h0.mono (by decide)) (h1.mono (by decide)) (h2.mono (by decide)) (h3.mono (by decide)) (h4.mono (by decide)) (h5.mono (by decide)) (h6.mono (by decide)) (h7.mono (by decide)) (h8.mono (by decide)) (h9.mono (by decide)) (h10.mono (by decide)) (h11.mono (by decide)) e24 e25 e1) rfl ?_
    simp only [fa_agg, fa_one, fa_nil, List.cons_append, List.nil_append, List.append_nil]
    have m26 : Num 6291458 (cr q24) q24 := Num.eqn e24 (Sm.add (Sm.add (Sm.mul h9.sm h0.sm) (Sm.mul h10.sm h1.sm)) (Sm.mul h11.sm h2.sm))
    have m27 : Num 6291458 (cr q25) q25 := Num.eqn e25 (Sm.add (Sm.add (Sm.mul h9.sm h3.sm) (Sm.mul h10.sm h4.sm)) (Sm.mul h11.sm h5.sm))
    have m28 : Num 6291458 (cr q1) q1 := Num.eqn e1 (Sm.add (Sm.add (Sm.mul h9.sm h6.sm) (Sm.mul h10.sm h7.sm)) (Sm.mul h11.sm h8.sm))
    refine call_step (n_penumbraref05_Is_0 (m26.mono (by decide)) (m27.mono (by decide)) (m28.mono (by decide)) (m26.mono (by decide)) (m27.mono (by decide)) (m28.mono (by decide)) rfl rfl rfl) rfl ?_
    simp only [fa_agg, fa_one, fa_nil, List.cons_append, List.nil_append, List.append_nil]
    refine itT rfl ?_
    obtain ⟨q29, e29⟩ := ex_eq (((x9 * x0) + (x10 * x3)) + (x11 * x6))
    obtain ⟨q30, e30⟩ := ex_eq (((x9 * x1) + (x10 * x4)) + (x11 * x7))
    obtain ⟨q31, e31⟩ := ex_eq (((x9 * x2) + (x10 * x5)) + (x11 * x8))
    refine call_step (n_frame_Out_0 (k0 := q29) (k1 := q30) (k2 := q31) (h0.mono (by decide)) (h1.mono (by decide)) (h2.mono (by decide)) (h3.mono (by decide)) (h4.mono (by decide)) (h5.mono (by decide)) (h6.mono (by decide)) (h7.mono (by decide)) (h8.mono (by decide)) (h9.mono (by decide)) (h10.mono (by decide)) (h11.mono (by decide)) e29 e30 e31) rfl ?_
    simp only [fa_agg, fa_one, fa_nil, List.cons_append, List.nil_append, List.append_nil]
    refine call_step (n_penumbraref06_Out_0 (k0 := q29) (k1 := q30) (k2 := q31) (h0.mono (by decide)) (h1.mono (by decide)) (h2.mono (by decide)) (h3.mono (by decide)) (h4.mono (by decide)) (h5.mono (by decide)) (h6.mono (by decide)) (h7.mono (by decide)) (h8.mono (by decide)) (h9.mono (by decide)) (h10.mono (by decide)) (h11.mono (by decide)) e29 e30 e31) rfl ?_
    simp only [fa_agg, fa_one, fa_nil, List.cons_append, List.nil_append, List.append_nil]
    have m32 : Num 6291458 (cr q29) q29 := Num.eqn e29 (Sm.add (Sm.add (Sm.mul h9.sm h0.sm) (Sm.mul h10.sm h3.sm)) (Sm.mul h11.sm h6.sm))
    have m33 : Num 6291458 (cr q30) q30 := Num.eqn e30 (Sm.add (Sm.add (Sm.mul h9.sm h1.sm) (Sm.mul h10.sm h4.sm)) (Sm.mul h11.sm h7.sm))
    have m34 : Num 6291458 (cr q31) q31 := Num.eqn e31 (Sm.add (Sm.add (Sm.mul h9.sm h2.sm) (Sm.mul h10.sm h5.sm)) (Sm.mul h11.sm h8.sm))
    refine call_step (n_penumbraref05_Is_0 (m32.mono (by decide)) (m33.mono (by decide)) (m34.mono (by decide)) (m32.mono (by decide)) (m33.mono (by decide)) (m34.mono (by decide)) rfl rfl rfl) rfl ?_
    simp only [fa_agg, fa_one, fa_nil, List.cons_append, List.nil_append, List.append_nil]
    refine itT rfl ?_
    have m35 : Num 12582916 (cr q22) q22 := Num.eqn e22 (Sm.div (Sm.add (Sm.add (Sm.mul h9.sm h0.sm) (Sm.mul h10.sm h1.sm)) (Sm.mul h11.sm h2.sm)) m28.sm)
    refine call_step (n_penumbraref03_Is_t (m35.mono (by decide)) (m35.mono (by decide)) rfl) rfl ?_
    simp only [fa_agg, fa_one, fa_nil, List.cons_append, List.nil_append, List.append_nil]
    refine itT rfl ?_
    have m36 : Num 12582916 (cr q23) q23 := Num.eqn e23 (Sm.div (Sm.add (Sm.add (Sm.mul h9.sm h3.sm) (Sm.mul h10.sm h4.sm)) (Sm.mul h11.sm h5.sm)) m28.sm)
    refine call_step (n_penumbraref03_Is_t (m36.mono (by decide)) (m36.mono (by decide)) rfl) rfl ?_
    simp only [fa_agg, fa_one, fa_nil, List.cons_append, List.nil_append, List.append_nil]
    refine itT rfl ?_
    refine call_step (n_penumbraref03_Is_t (m28.mono (by decide)) (m28.mono (by decide)) rfl) rfl ?_
    simp only [fa_agg, fa_one, fa_nil, List.cons_append, List.nil_append, List.append_nil]
    refine itT rfl ?_
    refine primS (.bool true) rfl ?_
    refine itT rfl ?_
    obtain ⟨q37, e37⟩ := ex_eq (((x9 * x0) + (x10 * x3)) + (Z1 * x6))
    obtain ⟨q38, e38⟩ := ex_eq (((x9 * x1) + (x10 * x4)) + (Z1 * x7))
    obtain ⟨q39, e39⟩ := ex_eq (((x9 * x2) + (x10 * x5)) + (Z1 * x8))
    refine call_step (n_frame_Along_0 (k0 := q37) (k1 := q38) (k2 := q39) Y1 (h0.mono (by decide)) (h1.mono (by decide)) (h2.mono (by decide)) (h3.mono (by decide)) (h4.mono (by decide)) (h5.mono (by decide)) (h6.mono (by decide)) (h7.mono (by decide)) (h8.mono (by decide)) (h9.mono (by decide)) (h10.mono (by decide)) e37 e38 e39) rfl ?_
    simp only [fa_agg, fa_one, fa_nil, List.cons_append, List.nil_append, List.append_nil]
    refine call_step (n_penumbraref06_Along_0 (k0 := q37) (k1 := q38) (k2 := q39) Y1 (h0.mono (by decide)) (h1.mono (by decide)) (h2.mono (by decide)) (h3.mono (by decide)) (h4.mono (by decide)) (h5.mono (by decide)) (h6.mono (by decide)) (h7.mono (by decide)) (h8.mono (by decide)) (h9.mono (by decide)) (h10.mono (by decide)) e37 e38 e39) rfl ?_
    simp only [fa_agg, fa_one, fa_nil, List.cons_append, List.nil_append, List.append_nil]
    have m41 : Num 1 (cr Z1) Z1 := Num.c Y1 (by decide +kernel) (by decide +kernel)
    have m40 : Num 5242883 (cr q37) q37 := Num.eqn e37 (Sm.add (Sm.add (Sm.mul h9.sm h0.sm) (Sm.mul h10.sm h3.sm)) (Sm.mul m41.sm h6.sm))
    have m42 : Num 5242883 (cr q38) q38 := Num.eqn e38 (Sm.add (Sm.add (Sm.mul h9.sm h1.sm) (Sm.mul h10.sm h4.sm)) (Sm.mul m41.sm h7.sm))
    have m43 : Num 5242883 (cr q39) q39 := Num.eqn e39 (Sm.add (Sm.add (Sm.mul h9.sm h2.sm) (Sm.mul h10.sm h5.sm)) (Sm.mul m41.sm h8.sm))
    refine call_step (n_penumbraref05_Is_0 (m40.mono (by decide)) (m42.mono (by decide)) (m43.mono (by decide)) (m40.mono (by decide)) (m42.mono (by decide)) (m43.mono (by decide)) rfl rfl rfl) rfl ?_
    simp only [fa_agg, fa_one, fa_nil, List.cons_append, List.nil_append, List.append_nil]
    exact ret_step rfl

end Go.Px.Na

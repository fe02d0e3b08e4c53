/- Mi: what maps of mirrors are. -/
import Derived.Test.YtgnhhdgepnfnmaaXDensTurned
set_option maxRecDepth 20000
set_option maxHeartbeats 40000000
set_option linter.unusedVariables false
set_option linter.unusedSimpArgs false
namespace Go.Px.Na
open Go.RowKit
open Go.Proofs.Try (prog)

def Ort (d a0 a1 a2 a3 a4 a5 a6 a7 a8 : Rat) : Prop :=
  a4 * a8 - a5 * a7 = d * a0 ∧
  a5 * a6 - a3 * a8 = d * a1 ∧
  a3 * a7 - a4 * a6 = d * a2 ∧
  a7 * a2 - a8 * a1 = d * a3 ∧
  a8 * a0 - a6 * a2 = d * a4 ∧
  a6 * a1 - a7 * a0 = d * a5 ∧
  a1 * a5 - a2 * a4 = d * a6 ∧
  a2 * a3 - a0 * a5 = d * a7 ∧
  a0 * a4 - a1 * a3 = d * a8 ∧
  d * d = 1 ∧
  a0 * (a4 * a8 - a5 * a7) + a1 * (a5 * a6 - a3 * a8) + a2 * (a3 * a7 - a4 * a6) = d ∧
  a0 * a0 + a3 * a3 + a6 * a6 = 1 ∧
  a0 * a1 + a3 * a4 + a6 * a7 = 0 ∧
  a0 * a2 + a3 * a5 + a6 * a8 = 0 ∧
  a1 * a1 + a4 * a4 + a7 * a7 = 1 ∧
  a1 * a2 + a4 * a5 + a7 * a8 = 0 ∧
  a2 * a2 + a5 * a5 + a8 * a8 = 1 ∧
  a0 * a0 + a1 * a1 + a2 * a2 = 1 ∧
  a0 * a3 + a1 * a4 + a2 * a5 = 0 ∧
  a0 * a6 + a1 * a7 + a2 * a8 = 0 ∧
  a3 * a3 + a4 * a4 + a5 * a5 = 1 ∧
  a3 * a6 + a4 * a7 + a5 * a8 = 0 ∧
  a6 * a6 + a7 * a7 + a8 * a8 = 1
theorem ort_one : Ort 1 1 0 0 0 1 0 0 0 1 := by
  unfold Ort
  refine ⟨by decide +kernel, by decide +kernel, by decide +kernel, by decide +kernel, by decide +kernel, by decide +kernel, by decide +kernel, by decide +kernel, by decide +kernel, by decide +kernel, by decide +kernel, by decide +kernel, by decide +kernel, by decide +kernel, by decide +kernel, by decide +kernel, by decide +kernel, by decide +kernel, by decide +kernel, by decide +kernel, by decide +kernel, by decide +kernel, by decide +kernel⟩
theorem ort_ref {n0 n1 n2 s0 s1 s2 s3 s4 s5 s6 s7 s8 : Rat} (h : n0 * n0 + n1 * n1 + n2 * n2 = 1) (e0 : s0 = 1 + -2 * n0 * n0) (e1 : s1 = 0 + -2 * n0 * n1) (e2 : s2 = 0 + -2 * n0 * n2) (e3 : s3 = 0 + -2 * n1 * n0) (e4 : s4 = 1 + -2 * n1 * n1) (e5 : s5 = 0 + -2 * n1 * n2) (e6 : s6 = 0 + -2 * n2 * n0) (e7 : s7 = 0 + -2 * n2 * n1) (e8 : s8 = 1 + -2 * n2 * n2) : Ort (-1) s0 s1 s2 s3 s4 s5 s6 s7 s8 := by
  subst e0 e1 e2 e3 e4 e5 e6 e7 e8
  unfold Ort
  refine ⟨by grind, by grind, by grind, by grind, by grind, by grind, by grind, by grind, by grind, by grind, by grind, by grind, by grind, by grind, by grind, by grind, by grind, by grind, by grind, by grind, by grind, by grind, by grind⟩
theorem ort_mul {d e a0 a1 a2 a3 a4 a5 a6 a7 a8 b0 b1 b2 b3 b4 b5 b6 b7 b8 c0 c1 c2 c3 c4 c5 c6 c7 c8 : Rat} (hA : Ort d a0 a1 a2 a3 a4 a5 a6 a7 a8) (hB : Ort e b0 b1 b2 b3 b4 b5 b6 b7 b8) (e0 : c0 = a0 * b0 + a1 * b3 + a2 * b6) (e1 : c1 = a0 * b1 + a1 * b4 + a2 * b7) (e2 : c2 = a0 * b2 + a1 * b5 + a2 * b8) (e3 : c3 = a3 * b0 + a4 * b3 + a5 * b6) (e4 : c4 = a3 * b1 + a4 * b4 + a5 * b7) (e5 : c5 = a3 * b2 + a4 * b5 + a5 * b8) (e6 : c6 = a6 * b0 + a7 * b3 + a8 * b6) (e7 : c7 = a6 * b1 + a7 * b4 + a8 * b7) (e8 : c8 = a6 * b2 + a7 * b5 + a8 * b8) : Ort (d * e) c0 c1 c2 c3 c4 c5 c6 c7 c8 := by
  unfold Ort at hA hB
  obtain ⟨p0, p1, p2, p3, p4, p5, p6, p7, p8, p9, p10, p11, p12, p13, p14, p15, p16, p17, p18, p19, p20, p21, p22⟩ := hA
  obtain ⟨q0, q1, q2, q3, q4, q5, q6, q7, q8, q9, q10, q11, q12, q13, q14, q15, q16, q17, q18, q19, q20, q21, q22⟩ := hB
  subst e0 e1 e2 e3 e4 e5 e6 e7 e8
  have i00 : (a3 * b1 + a4 * b4 + a5 * b7) * (a6 * b2 + a7 * b5 + a8 * b8) - (a3 * b2 + a4 * b5 + a5 * b8) * (a6 * b1 + a7 * b4 + a8 * b7) = (a4 * a8 - a5 * a7) * (b4 * b8 - b5 * b7) + (a5 * a6 - a3 * a8) * (b7 * b2 - b8 * b1) + (a3 * a7 - a4 * a6) * (b1 * b5 - b2 * b4) := by grind
  rw [p0, p1, p2, q0, q3, q6] at i00
  have i01 : (a3 * b2 + a4 * b5 + a5 * b8) * (a6 * b0 + a7 * b3 + a8 * b6) - (a3 * b0 + a4 * b3 + a5 * b6) * (a6 * b2 + a7 * b5 + a8 * b8) = (a4 * a8 - a5 * a7) * (b5 * b6 - b3 * b8) + (a5 * a6 - a3 * a8) * (b8 * b0 - b6 * b2) + (a3 * a7 - a4 * a6) * (b2 * b3 - b0 * b5) := by grind
  rw [p0, p1, p2, q1, q4, q7] at i01
  have i02 : (a3 * b0 + a4 * b3 + a5 * b6) * (a6 * b1 + a7 * b4 + a8 * b7) - (a3 * b1 + a4 * b4 + a5 * b7) * (a6 * b0 + a7 * b3 + a8 * b6) = (a4 * a8 - a5 * a7) * (b3 * b7 - b4 * b6) + (a5 * a6 - a3 * a8) * (b6 * b1 - b7 * b0) + (a3 * a7 - a4 * a6) * (b0 * b4 - b1 * b3) := by grind
  rw [p0, p1, p2, q2, q5, q8] at i02
  have i10 : (a6 * b1 + a7 * b4 + a8 * b7) * (a0 * b2 + a1 * b5 + a2 * b8) - (a6 * b2 + a7 * b5 + a8 * b8) * (a0 * b1 + a1 * b4 + a2 * b7) = (a7 * a2 - a8 * a1) * (b4 * b8 - b5 * b7) + (a8 * a0 - a6 * a2) * (b7 * b2 - b8 * b1) + (a6 * a1 - a7 * a0) * (b1 * b5 - b2 * b4) := by grind
  rw [p3, p4, p5, q0, q3, q6] at i10
  have i11 : (a6 * b2 + a7 * b5 + a8 * b8) * (a0 * b0 + a1 * b3 + a2 * b6) - (a6 * b0 + a7 * b3 + a8 * b6) * (a0 * b2 + a1 * b5 + a2 * b8) = (a7 * a2 - a8 * a1) * (b5 * b6 - b3 * b8) + (a8 * a0 - a6 * a2) * (b8 * b0 - b6 * b2) + (a6 * a1 - a7 * a0) * (b2 * b3 - b0 * b5) := by grind
  rw [p3, p4, p5, q1, q4, q7] at i11
  have i12 : (a6 * b0 + a7 * b3 + a8 * b6) * (a0 * b1 + a1 * b4 + a2 * b7) - (a6 * b1 + a7 * b4 + a8 * b7) * (a0 * b0 + a1 * b3 + a2 * b6) = (a7 * a2 - a8 * a1) * (b3 * b7 - b4 * b6) + (a8 * a0 - a6 * a2) * (b6 * b1 - b7 * b0) + (a6 * a1 - a7 * a0) * (b0 * b4 - b1 * b3) := by grind
  rw [p3, p4, p5, q2, q5, q8] at i12
  have i20 : (a0 * b1 + a1 * b4 + a2 * b7) * (a3 * b2 + a4 * b5 + a5 * b8) - (a0 * b2 + a1 * b5 + a2 * b8) * (a3 * b1 + a4 * b4 + a5 * b7) = (a1 * a5 - a2 * a4) * (b4 * b8 - b5 * b7) + (a2 * a3 - a0 * a5) * (b7 * b2 - b8 * b1) + (a0 * a4 - a1 * a3) * (b1 * b5 - b2 * b4) := by grind
  rw [p6, p7, p8, q0, q3, q6] at i20
  have i21 : (a0 * b2 + a1 * b5 + a2 * b8) * (a3 * b0 + a4 * b3 + a5 * b6) - (a0 * b0 + a1 * b3 + a2 * b6) * (a3 * b2 + a4 * b5 + a5 * b8) = (a1 * a5 - a2 * a4) * (b5 * b6 - b3 * b8) + (a2 * a3 - a0 * a5) * (b8 * b0 - b6 * b2) + (a0 * a4 - a1 * a3) * (b2 * b3 - b0 * b5) := by grind
  rw [p6, p7, p8, q1, q4, q7] at i21
  have i22 : (a0 * b0 + a1 * b3 + a2 * b6) * (a3 * b1 + a4 * b4 + a5 * b7) - (a0 * b1 + a1 * b4 + a2 * b7) * (a3 * b0 + a4 * b3 + a5 * b6) = (a1 * a5 - a2 * a4) * (b3 * b7 - b4 * b6) + (a2 * a3 - a0 * a5) * (b6 * b1 - b7 * b0) + (a0 * a4 - a1 * a3) * (b0 * b4 - b1 * b3) := by grind
  rw [p6, p7, p8, q2, q5, q8] at i22
  have dd : (a0 * b0 + a1 * b3 + a2 * b6) * ((a3 * b1 + a4 * b4 + a5 * b7) * (a6 * b2 + a7 * b5 + a8 * b8) - (a3 * b2 + a4 * b5 + a5 * b8) * (a6 * b1 + a7 * b4 + a8 * b7)) + (a0 * b1 + a1 * b4 + a2 * b7) * ((a3 * b2 + a4 * b5 + a5 * b8) * (a6 * b0 + a7 * b3 + a8 * b6) - (a3 * b0 + a4 * b3 + a5 * b6) * (a6 * b2 + a7 * b5 + a8 * b8)) + (a0 * b2 + a1 * b5 + a2 * b8) * ((a3 * b0 + a4 * b3 + a5 * b6) * (a6 * b1 + a7 * b4 + a8 * b7) - (a3 * b1 + a4 * b4 + a5 * b7) * (a6 * b0 + a7 * b3 + a8 * b6)) = d * e := by
    rw [i00, i01, i02]
    clear i00 i01 i02 i10 i11 i12 i20 i21 i22 p0 p1 p2 p3 p4 p5 p6 p7 p8 q0 q1 q2 q3 q4 q5 q6 q7 q8
    have x : ∀ t0 t1 t2 : Rat, (a0 * b0 + a1 * b3 + a2 * b6) * (d * a0 * (e * b0) + d * a1 * (e * b3) + d * a2 * (e * b6)) + (a0 * b1 + a1 * b4 + a2 * b7) * (d * a0 * (e * b1) + d * a1 * (e * b4) + d * a2 * (e * b7)) + (a0 * b2 + a1 * b5 + a2 * b8) * (d * a0 * (e * b2) + d * a1 * (e * b5) + d * a2 * (e * b8)) = d * e * (a0 * a0 * (b0 * b0 + b1 * b1 + b2 * b2) + a1 * a1 * (b3 * b3 + b4 * b4 + b5 * b5) + a2 * a2 * (b6 * b6 + b7 * b7 + b8 * b8) + 2 * (a0 * a1 * (b0 * b3 + b1 * b4 + b2 * b5) + a0 * a2 * (b0 * b6 + b1 * b7 + b2 * b8) + a1 * a2 * (b3 * b6 + b4 * b7 + b5 * b8))) := by intros; grind
    rw [x 0 0 0]
    rw [q17, q20, q22, q18, q19, q21]
    have y := p17
    grind
  have k00 : (a0 * b0 + a1 * b3 + a2 * b6) * (a0 * b0 + a1 * b3 + a2 * b6) + (a3 * b0 + a4 * b3 + a5 * b6) * (a3 * b0 + a4 * b3 + a5 * b6) + (a6 * b0 + a7 * b3 + a8 * b6) * (a6 * b0 + a7 * b3 + a8 * b6) = b0 * b0 * (a0 * a0 + a3 * a3 + a6 * a6) + b0 * b3 * (a0 * a1 + a3 * a4 + a6 * a7) + b0 * b6 * (a0 * a2 + a3 * a5 + a6 * a8) + b3 * b0 * (a0 * a1 + a3 * a4 + a6 * a7) + b3 * b3 * (a1 * a1 + a4 * a4 + a7 * a7) + b3 * b6 * (a1 * a2 + a4 * a5 + a7 * a8) + b6 * b0 * (a0 * a2 + a3 * a5 + a6 * a8) + b6 * b3 * (a1 * a2 + a4 * a5 + a7 * a8) + b6 * b6 * (a2 * a2 + a5 * a5 + a8 * a8) := by grind
  rw [p11, p12, p13, p14, p15, p16] at k00
  have k01 : (a0 * b0 + a1 * b3 + a2 * b6) * (a0 * b1 + a1 * b4 + a2 * b7) + (a3 * b0 + a4 * b3 + a5 * b6) * (a3 * b1 + a4 * b4 + a5 * b7) + (a6 * b0 + a7 * b3 + a8 * b6) * (a6 * b1 + a7 * b4 + a8 * b7) = b0 * b1 * (a0 * a0 + a3 * a3 + a6 * a6) + b0 * b4 * (a0 * a1 + a3 * a4 + a6 * a7) + b0 * b7 * (a0 * a2 + a3 * a5 + a6 * a8) + b3 * b1 * (a0 * a1 + a3 * a4 + a6 * a7) + b3 * b4 * (a1 * a1 + a4 * a4 + a7 * a7) + b3 * b7 * (a1 * a2 + a4 * a5 + a7 * a8) + b6 * b1 * (a0 * a2 + a3 * a5 + a6 * a8) + b6 * b4 * (a1 * a2 + a4 * a5 + a7 * a8) + b6 * b7 * (a2 * a2 + a5 * a5 + a8 * a8) := by grind
  rw [p11, p12, p13, p14, p15, p16] at k01
  have k02 : (a0 * b0 + a1 * b3 + a2 * b6) * (a0 * b2 + a1 * b5 + a2 * b8) + (a3 * b0 + a4 * b3 + a5 * b6) * (a3 * b2 + a4 * b5 + a5 * b8) + (a6 * b0 + a7 * b3 + a8 * b6) * (a6 * b2 + a7 * b5 + a8 * b8) = b0 * b2 * (a0 * a0 + a3 * a3 + a6 * a6) + b0 * b5 * (a0 * a1 + a3 * a4 + a6 * a7) + b0 * b8 * (a0 * a2 + a3 * a5 + a6 * a8) + b3 * b2 * (a0 * a1 + a3 * a4 + a6 * a7) + b3 * b5 * (a1 * a1 + a4 * a4 + a7 * a7) + b3 * b8 * (a1 * a2 + a4 * a5 + a7 * a8) + b6 * b2 * (a0 * a2 + a3 * a5 + a6 * a8) + b6 * b5 * (a1 * a2 + a4 * a5 + a7 * a8) + b6 * b8 * (a2 * a2 + a5 * a5 + a8 * a8) := by grind
  rw [p11, p12, p13, p14, p15, p16] at k02
  have k11 : (a0 * b1 + a1 * b4 + a2 * b7) * (a0 * b1 + a1 * b4 + a2 * b7) + (a3 * b1 + a4 * b4 + a5 * b7) * (a3 * b1 + a4 * b4 + a5 * b7) + (a6 * b1 + a7 * b4 + a8 * b7) * (a6 * b1 + a7 * b4 + a8 * b7) = b1 * b1 * (a0 * a0 + a3 * a3 + a6 * a6) + b1 * b4 * (a0 * a1 + a3 * a4 + a6 * a7) + b1 * b7 * (a0 * a2 + a3 * a5 + a6 * a8) + b4 * b1 * (a0 * a1 + a3 * a4 + a6 * a7) + b4 * b4 * (a1 * a1 + a4 * a4 + a7 * a7) + b4 * b7 * (a1 * a2 + a4 * a5 + a7 * a8) + b7 * b1 * (a0 * a2 + a3 * a5 + a6 * a8) + b7 * b4 * (a1 * a2 + a4 * a5 + a7 * a8) + b7 * b7 * (a2 * a2 + a5 * a5 + a8 * a8) := by grind
  rw [p11, p12, p13, p14, p15, p16] at k11
  have k12 : (a0 * b1 + a1 * b4 + a2 * b7) * (a0 * b2 + a1 * b5 + a2 * b8) + (a3 * b1 + a4 * b4 + a5 * b7) * (a3 * b2 + a4 * b5 + a5 * b8) + (a6 * b1 + a7 * b4 + a8 * b7) * (a6 * b2 + a7 * b5 + a8 * b8) = b1 * b2 * (a0 * a0 + a3 * a3 + a6 * a6) + b1 * b5 * (a0 * a1 + a3 * a4 + a6 * a7) + b1 * b8 * (a0 * a2 + a3 * a5 + a6 * a8) + b4 * b2 * (a0 * a1 + a3 * a4 + a6 * a7) + b4 * b5 * (a1 * a1 + a4 * a4 + a7 * a7) + b4 * b8 * (a1 * a2 + a4 * a5 + a7 * a8) + b7 * b2 * (a0 * a2 + a3 * a5 + a6 * a8) + b7 * b5 * (a1 * a2 + a4 * a5 + a7 * a8) + b7 * b8 * (a2 * a2 + a5 * a5 + a8 * a8) := by grind
  rw [p11, p12, p13, p14, p15, p16] at k12
  have k22 : (a0 * b2 + a1 * b5 + a2 * b8) * (a0 * b2 + a1 * b5 + a2 * b8) + (a3 * b2 + a4 * b5 + a5 * b8) * (a3 * b2 + a4 * b5 + a5 * b8) + (a6 * b2 + a7 * b5 + a8 * b8) * (a6 * b2 + a7 * b5 + a8 * b8) = b2 * b2 * (a0 * a0 + a3 * a3 + a6 * a6) + b2 * b5 * (a0 * a1 + a3 * a4 + a6 * a7) + b2 * b8 * (a0 * a2 + a3 * a5 + a6 * a8) + b5 * b2 * (a0 * a1 + a3 * a4 + a6 * a7) + b5 * b5 * (a1 * a1 + a4 * a4 + a7 * a7) + b5 * b8 * (a1 * a2 + a4 * a5 + a7 * a8) + b8 * b2 * (a0 * a2 + a3 * a5 + a6 * a8) + b8 * b5 * (a1 * a2 + a4 * a5 + a7 * a8) + b8 * b8 * (a2 * a2 + a5 * a5 + a8 * a8) := by grind
  rw [p11, p12, p13, p14, p15, p16] at k22
  have r00 : (a0 * b0 + a1 * b3 + a2 * b6) * (a0 * b0 + a1 * b3 + a2 * b6) + (a0 * b1 + a1 * b4 + a2 * b7) * (a0 * b1 + a1 * b4 + a2 * b7) + (a0 * b2 + a1 * b5 + a2 * b8) * (a0 * b2 + a1 * b5 + a2 * b8) = a0 * a0 * (b0 * b0 + b1 * b1 + b2 * b2) + a0 * a1 * (b0 * b3 + b1 * b4 + b2 * b5) + a0 * a2 * (b0 * b6 + b1 * b7 + b2 * b8) + a1 * a0 * (b0 * b3 + b1 * b4 + b2 * b5) + a1 * a1 * (b3 * b3 + b4 * b4 + b5 * b5) + a1 * a2 * (b3 * b6 + b4 * b7 + b5 * b8) + a2 * a0 * (b0 * b6 + b1 * b7 + b2 * b8) + a2 * a1 * (b3 * b6 + b4 * b7 + b5 * b8) + a2 * a2 * (b6 * b6 + b7 * b7 + b8 * b8) := by grind
  rw [q17, q18, q19, q20, q21, q22] at r00
  have r01 : (a0 * b0 + a1 * b3 + a2 * b6) * (a3 * b0 + a4 * b3 + a5 * b6) + (a0 * b1 + a1 * b4 + a2 * b7) * (a3 * b1 + a4 * b4 + a5 * b7) + (a0 * b2 + a1 * b5 + a2 * b8) * (a3 * b2 + a4 * b5 + a5 * b8) = a0 * a3 * (b0 * b0 + b1 * b1 + b2 * b2) + a0 * a4 * (b0 * b3 + b1 * b4 + b2 * b5) + a0 * a5 * (b0 * b6 + b1 * b7 + b2 * b8) + a1 * a3 * (b0 * b3 + b1 * b4 + b2 * b5) + a1 * a4 * (b3 * b3 + b4 * b4 + b5 * b5) + a1 * a5 * (b3 * b6 + b4 * b7 + b5 * b8) + a2 * a3 * (b0 * b6 + b1 * b7 + b2 * b8) + a2 * a4 * (b3 * b6 + b4 * b7 + b5 * b8) + a2 * a5 * (b6 * b6 + b7 * b7 + b8 * b8) := by grind
  rw [q17, q18, q19, q20, q21, q22] at r01
  have r02 : (a0 * b0 + a1 * b3 + a2 * b6) * (a6 * b0 + a7 * b3 + a8 * b6) + (a0 * b1 + a1 * b4 + a2 * b7) * (a6 * b1 + a7 * b4 + a8 * b7) + (a0 * b2 + a1 * b5 + a2 * b8) * (a6 * b2 + a7 * b5 + a8 * b8) = a0 * a6 * (b0 * b0 + b1 * b1 + b2 * b2) + a0 * a7 * (b0 * b3 + b1 * b4 + b2 * b5) + a0 * a8 * (b0 * b6 + b1 * b7 + b2 * b8) + a1 * a6 * (b0 * b3 + b1 * b4 + b2 * b5) + a1 * a7 * (b3 * b3 + b4 * b4 + b5 * b5) + a1 * a8 * (b3 * b6 + b4 * b7 + b5 * b8) + a2 * a6 * (b0 * b6 + b1 * b7 + b2 * b8) + a2 * a7 * (b3 * b6 + b4 * b7 + b5 * b8) + a2 * a8 * (b6 * b6 + b7 * b7 + b8 * b8) := by grind
  rw [q17, q18, q19, q20, q21, q22] at r02
  have r11 : (a3 * b0 + a4 * b3 + a5 * b6) * (a3 * b0 + a4 * b3 + a5 * b6) + (a3 * b1 + a4 * b4 + a5 * b7) * (a3 * b1 + a4 * b4 + a5 * b7) + (a3 * b2 + a4 * b5 + a5 * b8) * (a3 * b2 + a4 * b5 + a5 * b8) = a3 * a3 * (b0 * b0 + b1 * b1 + b2 * b2) + a3 * a4 * (b0 * b3 + b1 * b4 + b2 * b5) + a3 * a5 * (b0 * b6 + b1 * b7 + b2 * b8) + a4 * a3 * (b0 * b3 + b1 * b4 + b2 * b5) + a4 * a4 * (b3 * b3 + b4 * b4 + b5 * b5) + a4 * a5 * (b3 * b6 + b4 * b7 + b5 * b8) + a5 * a3 * (b0 * b6 + b1 * b7 + b2 * b8) + a5 * a4 * (b3 * b6 + b4 * b7 + b5 * b8) + a5 * a5 * (b6 * b6 + b7 * b7 + b8 * b8) := by grind
  rw [q17, q18, q19, q20, q21, q22] at r11
  have r12 : (a3 * b0 + a4 * b3 + a5 * b6) * (a6 * b0 + a7 * b3 + a8 * b6) + (a3 * b1 + a4 * b4 + a5 * b7) * (a6 * b1 + a7 * b4 + a8 * b7) + (a3 * b2 + a4 * b5 + a5 * b8) * (a6 * b2 + a7 * b5 + a8 * b8) = a3 * a6 * (b0 * b0 + b1 * b1 + b2 * b2) + a3 * a7 * (b0 * b3 + b1 * b4 + b2 * b5) + a3 * a8 * (b0 * b6 + b1 * b7 + b2 * b8) + a4 * a6 * (b0 * b3 + b1 * b4 + b2 * b5) + a4 * a7 * (b3 * b3 + b4 * b4 + b5 * b5) + a4 * a8 * (b3 * b6 + b4 * b7 + b5 * b8) + a5 * a6 * (b0 * b6 + b1 * b7 + b2 * b8) + a5 * a7 * (b3 * b6 + b4 * b7 + b5 * b8) + a5 * a8 * (b6 * b6 + b7 * b7 + b8 * b8) := by grind
  rw [q17, q18, q19, q20, q21, q22] at r12
  have r22 : (a6 * b0 + a7 * b3 + a8 * b6) * (a6 * b0 + a7 * b3 + a8 * b6) + (a6 * b1 + a7 * b4 + a8 * b7) * (a6 * b1 + a7 * b4 + a8 * b7) + (a6 * b2 + a7 * b5 + a8 * b8) * (a6 * b2 + a7 * b5 + a8 * b8) = a6 * a6 * (b0 * b0 + b1 * b1 + b2 * b2) + a6 * a7 * (b0 * b3 + b1 * b4 + b2 * b5) + a6 * a8 * (b0 * b6 + b1 * b7 + b2 * b8) + a7 * a6 * (b0 * b3 + b1 * b4 + b2 * b5) + a7 * a7 * (b3 * b3 + b4 * b4 + b5 * b5) + a7 * a8 * (b3 * b6 + b4 * b7 + b5 * b8) + a8 * a6 * (b0 * b6 + b1 * b7 + b2 * b8) + a8 * a7 * (b3 * b6 + b4 * b7 + b5 * b8) + a8 * a8 * (b6 * b6 + b7 * b7 + b8 * b8) := by grind
  rw [q17, q18, q19, q20, q21, q22] at r22
  unfold Ort
  exact ⟨(by rw [i00]; grind), (by rw [i01]; grind), (by rw [i02]; grind), (by rw [i10]; grind), (by rw [i11]; grind), (by rw [i12]; grind), (by rw [i20]; grind), (by rw [i21]; grind), (by rw [i22]; grind), (by grind), dd, (by rw [k00]; have y := q11; grind), (by rw [k01]; have y := q12; grind), (by rw [k02]; have y := q13; grind), (by rw [k11]; have y := q14; grind), (by rw [k12]; have y := q15; grind), (by rw [k22]; have y := q16; grind), (by rw [r00]; have y := p17; grind), (by rw [r01]; have y := p18; grind), (by rw [r02]; have y := p19; grind), (by rw [r11]; have y := p20; grind), (by rw [r12]; have y := p21; grind), (by rw [r22]; have y := p22; grind)⟩

abbrev SP6 := RR × RR × RR × RR × RR × RR
def spd (s : SP6) : List DV := gW [s.1, s.2.1, s.2.2.1, s.2.2.2.1, s.2.2.2.2.1, s.2.2.2.2.2]
def spl (l : List SP6) : DV := .list l.length (l.map spd).flatten
theorem spd_len (l : List SP6) : ∀ x ∈ l.map spd, x.length = 18 := fun x hx => by
  obtain ⟨s, _, rfl⟩ := List.mem_map.1 hx
  rfl
theorem inb18 {l : List SP6} {i : Nat} (h : i < l.length) : Prim.den (.inb 18) [spl l, .int .i64 (i : Int)] = some (.bool true) := by
  simp only [spl, Prim.den, flat_len (spd_len l), List.length_map]
  rw [if_pos ⟨by omega, by omega, by rw [Int.toNat_natCast]; omega⟩]
theorem get18 {l : List SP6} {i o : Nat} {s : SP6} (h : l[i]? = some s) (ho : o < 18) : Prim.den (.get 18 o) [spl l, .int .i64 (i : Int)] = (spd s)[o]? := by
  have hi := (List.getElem?_eq_some_iff.1 h).1
  simp only [spl, Prim.den]
  rw [if_pos ⟨by omega, by omega⟩, Int.toNat_natCast]
  exact flat_get o (spd_len l) (by rw [List.getElem?_map, h]; rfl) ho
theorem g18_0 {l : List SP6} {i : Nat} {s : SP6} (h : l[i]? = some s) : Prim.den (.get 18 0) [spl l, .int .i64 (i : Int)] = some (.bool s.1.neg) := (get18 h (by decide)).trans rfl
theorem g18_1 {l : List SP6} {i : Nat} {s : SP6} (h : l[i]? = some s) : Prim.den (.get 18 1) [spl l, .int .i64 (i : Int)] = some (nl s.1.num) := (get18 h (by decide)).trans rfl
theorem g18_2 {l : List SP6} {i : Nat} {s : SP6} (h : l[i]? = some s) : Prim.den (.get 18 2) [spl l, .int .i64 (i : Int)] = some (nl s.1.den) := (get18 h (by decide)).trans rfl
theorem g18_3 {l : List SP6} {i : Nat} {s : SP6} (h : l[i]? = some s) : Prim.den (.get 18 3) [spl l, .int .i64 (i : Int)] = some (.bool s.2.1.neg) := (get18 h (by decide)).trans rfl
theorem g18_4 {l : List SP6} {i : Nat} {s : SP6} (h : l[i]? = some s) : Prim.den (.get 18 4) [spl l, .int .i64 (i : Int)] = some (nl s.2.1.num) := (get18 h (by decide)).trans rfl
theorem g18_5 {l : List SP6} {i : Nat} {s : SP6} (h : l[i]? = some s) : Prim.den (.get 18 5) [spl l, .int .i64 (i : Int)] = some (nl s.2.1.den) := (get18 h (by decide)).trans rfl
theorem g18_6 {l : List SP6} {i : Nat} {s : SP6} (h : l[i]? = some s) : Prim.den (.get 18 6) [spl l, .int .i64 (i : Int)] = some (.bool s.2.2.1.neg) := (get18 h (by decide)).trans rfl
theorem g18_7 {l : List SP6} {i : Nat} {s : SP6} (h : l[i]? = some s) : Prim.den (.get 18 7) [spl l, .int .i64 (i : Int)] = some (nl s.2.2.1.num) := (get18 h (by decide)).trans rfl
theorem g18_8 {l : List SP6} {i : Nat} {s : SP6} (h : l[i]? = some s) : Prim.den (.get 18 8) [spl l, .int .i64 (i : Int)] = some (nl s.2.2.1.den) := (get18 h (by decide)).trans rfl
theorem g18_9 {l : List SP6} {i : Nat} {s : SP6} (h : l[i]? = some s) : Prim.den (.get 18 9) [spl l, .int .i64 (i : Int)] = some (.bool s.2.2.2.1.neg) := (get18 h (by decide)).trans rfl
theorem g18_10 {l : List SP6} {i : Nat} {s : SP6} (h : l[i]? = some s) : Prim.den (.get 18 10) [spl l, .int .i64 (i : Int)] = some (nl s.2.2.2.1.num) := (get18 h (by decide)).trans rfl
theorem g18_11 {l : List SP6} {i : Nat} {s : SP6} (h : l[i]? = some s) : Prim.den (.get 18 11) [spl l, .int .i64 (i : Int)] = some (nl s.2.2.2.1.den) := (get18 h (by decide)).trans rfl
theorem g18_12 {l : List SP6} {i : Nat} {s : SP6} (h : l[i]? = some s) : Prim.den (.get 18 12) [spl l, .int .i64 (i : Int)] = some (.bool s.2.2.2.2.1.neg) := (get18 h (by decide)).trans rfl
theorem g18_13 {l : List SP6} {i : Nat} {s : SP6} (h : l[i]? = some s) : Prim.den (.get 18 13) [spl l, .int .i64 (i : Int)] = some (nl s.2.2.2.2.1.num) := (get18 h (by decide)).trans rfl
theorem g18_14 {l : List SP6} {i : Nat} {s : SP6} (h : l[i]? = some s) : Prim.den (.get 18 14) [spl l, .int .i64 (i : Int)] = some (nl s.2.2.2.2.1.den) := (get18 h (by decide)).trans rfl
theorem g18_15 {l : List SP6} {i : Nat} {s : SP6} (h : l[i]? = some s) : Prim.den (.get 18 15) [spl l, .int .i64 (i : Int)] = some (.bool s.2.2.2.2.2.neg) := (get18 h (by decide)).trans rfl
theorem g18_16 {l : List SP6} {i : Nat} {s : SP6} (h : l[i]? = some s) : Prim.den (.get 18 16) [spl l, .int .i64 (i : Int)] = some (nl s.2.2.2.2.2.num) := (get18 h (by decide)).trans rfl
theorem g18_17 {l : List SP6} {i : Nat} {s : SP6} (h : l[i]? = some s) : Prim.den (.get 18 17) [spl l, .int .i64 (i : Int)] = some (nl s.2.2.2.2.2.den) := (get18 h (by decide)).trans rfl
def lb : Nat → Nat
  | 0 => 1
  | k + 1 => 3 * lb k + 7000000
def vb : Nat → Nat
  | 0 => 1
  | k + 1 => vb k + 3 * lb k + 30000000
theorem lvb {k : Nat} (h : k ≤ 4) : lb k ≤ 280000081 ∧ vb k ≤ 498000125 := by
  match k, h with
  | 0, _ => decide
  | 1, _ => decide
  | 2, _ => decide
  | 3, _ => decide
  | 4, _ => decide
theorem lb_le {k : Nat} (h : k ≤ 4) : lb k ≤ 500000000 ∧ vb k ≤ 500000000 := by have := lvb h; omega
def spok (s : SP6) : Prop := s.1.ok 1048576 ∧ s.2.1.ok 1048576 ∧ s.2.2.1.ok 1048576 ∧ s.2.2.2.1.ok 1048576 ∧ s.2.2.2.2.1.ok 1048576 ∧ s.2.2.2.2.2.ok 1048576
theorem ort_pm {d a0 a1 a2 a3 a4 a5 a6 a7 a8 : Rat} (h : Ort d a0 a1 a2 a3 a4 a5 a6 a7 a8) : d = 1 ∨ d = -1 := by
  unfold Ort at h
  have e := h.2.2.2.2.2.2.2.2.2.1
  have : (d - 1) * (d + 1) = 0 := by grind
  rcases Rat.mul_eq_zero.1 this with z | z
  · left; grind
  · right; grind
structure M12 where
  a0 : Rat
  a1 : Rat
  a2 : Rat
  a3 : Rat
  a4 : Rat
  a5 : Rat
  a6 : Rat
  a7 : Rat
  a8 : Rat
  v0 : Rat
  v1 : Rat
  v2 : Rat
def M12.gd (m : M12) : List DV := gD [m.a0, m.a1, m.a2, m.a3, m.a4, m.a5, m.a6, m.a7, m.a8, m.v0, m.v1, m.v2]
def M12.good (k : Nat) (m : M12) : Prop := (∃ d, Ort d m.a0 m.a1 m.a2 m.a3 m.a4 m.a5 m.a6 m.a7 m.a8) ∧ Num (lb k) (cr m.a0) m.a0 ∧ Num (lb k) (cr m.a1) m.a1 ∧ Num (lb k) (cr m.a2) m.a2 ∧ Num (lb k) (cr m.a3) m.a3 ∧ Num (lb k) (cr m.a4) m.a4 ∧ Num (lb k) (cr m.a5) m.a5 ∧ Num (lb k) (cr m.a6) m.a6 ∧ Num (lb k) (cr m.a7) m.a7 ∧ Num (lb k) (cr m.a8) m.a8 ∧ Num (vb k) (cr m.v0) m.v0 ∧ Num (vb k) (cr m.v1) m.v1 ∧ Num (vb k) (cr m.v2) m.v2
def m0 : M12 := ⟨1, 0, 0, 0, 1, 0, 0, 0, 1, 0, 0, 0⟩
/-- A mirror behind a map. -/
def mir (m : M12) (p0 p1 p2 n0 n1 n2 : Rat) : M12 :=
  ⟨m.a0 * (1 + ((-1 - 1) * n0) * n0) + m.a1 * (0 + ((-1 - 1) * n1) * n0) + m.a2 * (0 + ((-1 - 1) * n2) * n0), m.a0 * (0 + ((-1 - 1) * n0) * n1) + m.a1 * (1 + ((-1 - 1) * n1) * n1) + m.a2 * (0 + ((-1 - 1) * n2) * n1), m.a0 * (0 + ((-1 - 1) * n0) * n2) + m.a1 * (0 + ((-1 - 1) * n1) * n2) + m.a2 * (1 + ((-1 - 1) * n2) * n2), m.a3 * (1 + ((-1 - 1) * n0) * n0) + m.a4 * (0 + ((-1 - 1) * n1) * n0) + m.a5 * (0 + ((-1 - 1) * n2) * n0), m.a3 * (0 + ((-1 - 1) * n0) * n1) + m.a4 * (1 + ((-1 - 1) * n1) * n1) + m.a5 * (0 + ((-1 - 1) * n2) * n1), m.a3 * (0 + ((-1 - 1) * n0) * n2) + m.a4 * (0 + ((-1 - 1) * n1) * n2) + m.a5 * (1 + ((-1 - 1) * n2) * n2), m.a6 * (1 + ((-1 - 1) * n0) * n0) + m.a7 * (0 + ((-1 - 1) * n1) * n0) + m.a8 * (0 + ((-1 - 1) * n2) * n0), m.a6 * (0 + ((-1 - 1) * n0) * n1) + m.a7 * (1 + ((-1 - 1) * n1) * n1) + m.a8 * (0 + ((-1 - 1) * n2) * n1), m.a6 * (0 + ((-1 - 1) * n0) * n2) + m.a7 * (0 + ((-1 - 1) * n1) * n2) + m.a8 * (1 + ((-1 - 1) * n2) * n2), m.a0 * (-((-1 - 1) * (p0 * n0 + p1 * n1 + p2 * n2)) * n0) + m.a1 * (-((-1 - 1) * (p0 * n0 + p1 * n1 + p2 * n2)) * n1) + m.a2 * (-((-1 - 1) * (p0 * n0 + p1 * n1 + p2 * n2)) * n2) + m.v0, m.a3 * (-((-1 - 1) * (p0 * n0 + p1 * n1 + p2 * n2)) * n0) + m.a4 * (-((-1 - 1) * (p0 * n0 + p1 * n1 + p2 * n2)) * n1) + m.a5 * (-((-1 - 1) * (p0 * n0 + p1 * n1 + p2 * n2)) * n2) + m.v1, m.a6 * (-((-1 - 1) * (p0 * n0 + p1 * n1 + p2 * n2)) * n0) + m.a7 * (-((-1 - 1) * (p0 * n0 + p1 * n1 + p2 * n2)) * n1) + m.a8 * (-((-1 - 1) * (p0 * n0 + p1 * n1 + p2 * n2)) * n2) + m.v2⟩
open Classical in
/-- The map after the first spots. -/
noncomputable def mk (l : List SP6) : Nat → M12
  | 0 => m0
  | k + 1 => match l[k]? with
    | none => mk l k
    | some s => if s.2.2.2.1.v * s.2.2.2.1.v + s.2.2.2.2.1.v * s.2.2.2.2.1.v + s.2.2.2.2.2.v * s.2.2.2.2.2.v = 1 then mir (mk l k) s.1.v s.2.1.v s.2.2.1.v s.2.2.2.1.v s.2.2.2.2.1.v s.2.2.2.2.2.v else mk l k
theorem m0_good : m0.good 0 := by
  refine ⟨⟨1, ort_one⟩, ?_, ?_, ?_, ?_, ?_, ?_, ?_, ?_, ?_, ?_, ?_, ?_⟩
  all_goals exact Num.c rfl (by decide +kernel) (by decide +kernel)
theorem good_up {k : Nat} {m : M12} (h : m.good k) : m.good (k + 1) := by
  obtain ⟨o, ha0, ha1, ha2, ha3, ha4, ha5, ha6, ha7, ha8, hv0, hv1, hv2⟩ := h
  have e1 : lb k ≤ lb (k + 1) := by simp only [lb]; omega
  have e2 : vb k ≤ vb (k + 1) := by simp only [vb]; omega
  exact ⟨o, ha0.mono e1, ha1.mono e1, ha2.mono e1, ha3.mono e1, ha4.mono e1, ha5.mono e1, ha6.mono e1, ha7.mono e1, ha8.mono e1, hv0.mono e2, hv1.mono e2, hv2.mono e2⟩
theorem mir_good {k : Nat} {m : M12} {p0 p1 p2 n0 n1 n2 : Rat} {s0 s1 s2 s3 s4 s5 : RR} (h : m.good k) (hp0 : Num 1048576 s0 p0) (hp1 : Num 1048576 s1 p1) (hp2 : Num 1048576 s2 p2) (hn0 : Num 1048576 s3 n0) (hn1 : Num 1048576 s4 n1) (hn2 : Num 1048576 s5 n2) (hn : n0 * n0 + n1 * n1 + n2 * n2 = 1) : (mir m p0 p1 p2 n0 n1 n2).good (k + 1) := by
  obtain ⟨⟨d, o⟩, ha0, ha1, ha2, ha3, ha4, ha5, ha6, ha7, ha8, hv0, hv1, hv2⟩ := h
  have c1 : Sm 1 (1 : Rat) := Sm1
  have c0 : Sm 1 (0 : Rat) := Sm0
  have cm : Sm 3 ((-1 : Rat) - 1) := (Sm1.neg.sub Sm1)
  refine ⟨⟨d * -1, ort_mul o (ort_ref (n0 := n0) (n1 := n1) (n2 := n2) hn (s0 := 1 + ((-1 - 1) * n0) * n0) (s1 := 0 + ((-1 - 1) * n0) * n1) (s2 := 0 + ((-1 - 1) * n0) * n2) (s3 := 0 + ((-1 - 1) * n1) * n0) (s4 := 1 + ((-1 - 1) * n1) * n1) (s5 := 0 + ((-1 - 1) * n1) * n2) (s6 := 0 + ((-1 - 1) * n2) * n0) (s7 := 0 + ((-1 - 1) * n2) * n1) (s8 := 1 + ((-1 - 1) * n2) * n2) (by grind) (by grind) (by grind) (by grind) (by grind) (by grind) (by grind) (by grind) (by grind)) rfl rfl rfl rfl rfl rfl rfl rfl rfl⟩, ?_, ?_, ?_, ?_, ?_, ?_, ?_, ?_, ?_, ?_, ?_, ?_⟩
  · exact Num.of ((((ha0.sm.mul (c1.add ((cm.mul hn0.sm).mul hn0.sm))).add (ha1.sm.mul (c0.add ((cm.mul hn1.sm).mul hn0.sm)))).add (ha2.sm.mul (c0.add ((cm.mul hn2.sm).mul hn0.sm)))).mono (by simp only [lb]; omega))
  · exact Num.of ((((ha0.sm.mul (c0.add ((cm.mul hn0.sm).mul hn1.sm))).add (ha1.sm.mul (c1.add ((cm.mul hn1.sm).mul hn1.sm)))).add (ha2.sm.mul (c0.add ((cm.mul hn2.sm).mul hn1.sm)))).mono (by simp only [lb]; omega))
  · exact Num.of ((((ha0.sm.mul (c0.add ((cm.mul hn0.sm).mul hn2.sm))).add (ha1.sm.mul (c0.add ((cm.mul hn1.sm).mul hn2.sm)))).add (ha2.sm.mul (c1.add ((cm.mul hn2.sm).mul hn2.sm)))).mono (by simp only [lb]; omega))
  · exact Num.of ((((ha3.sm.mul (c1.add ((cm.mul hn0.sm).mul hn0.sm))).add (ha4.sm.mul (c0.add ((cm.mul hn1.sm).mul hn0.sm)))).add (ha5.sm.mul (c0.add ((cm.mul hn2.sm).mul hn0.sm)))).mono (by simp only [lb]; omega))
  · exact Num.of ((((ha3.sm.mul (c0.add ((cm.mul hn0.sm).mul hn1.sm))).add (ha4.sm.mul (c1.add ((cm.mul hn1.sm).mul hn1.sm)))).add (ha5.sm.mul (c0.add ((cm.mul hn2.sm).mul hn1.sm)))).mono (by simp only [lb]; omega))
  · exact Num.of ((((ha3.sm.mul (c0.add ((cm.mul hn0.sm).mul hn2.sm))).add (ha4.sm.mul (c0.add ((cm.mul hn1.sm).mul hn2.sm)))).add (ha5.sm.mul (c1.add ((cm.mul hn2.sm).mul hn2.sm)))).mono (by simp only [lb]; omega))
  · exact Num.of ((((ha6.sm.mul (c1.add ((cm.mul hn0.sm).mul hn0.sm))).add (ha7.sm.mul (c0.add ((cm.mul hn1.sm).mul hn0.sm)))).add (ha8.sm.mul (c0.add ((cm.mul hn2.sm).mul hn0.sm)))).mono (by simp only [lb]; omega))
  · exact Num.of ((((ha6.sm.mul (c0.add ((cm.mul hn0.sm).mul hn1.sm))).add (ha7.sm.mul (c1.add ((cm.mul hn1.sm).mul hn1.sm)))).add (ha8.sm.mul (c0.add ((cm.mul hn2.sm).mul hn1.sm)))).mono (by simp only [lb]; omega))
  · exact Num.of ((((ha6.sm.mul (c0.add ((cm.mul hn0.sm).mul hn2.sm))).add (ha7.sm.mul (c0.add ((cm.mul hn1.sm).mul hn2.sm)))).add (ha8.sm.mul (c1.add ((cm.mul hn2.sm).mul hn2.sm)))).mono (by simp only [lb]; omega))
  · exact Num.of (((((ha0.sm.mul ((cm.mul (((hp0.sm.mul hn0.sm).add (hp1.sm.mul hn1.sm)).add (hp2.sm.mul hn2.sm))).neg.mul hn0.sm)).add (ha1.sm.mul ((cm.mul (((hp0.sm.mul hn0.sm).add (hp1.sm.mul hn1.sm)).add (hp2.sm.mul hn2.sm))).neg.mul hn1.sm))).add (ha2.sm.mul ((cm.mul (((hp0.sm.mul hn0.sm).add (hp1.sm.mul hn1.sm)).add (hp2.sm.mul hn2.sm))).neg.mul hn2.sm))).add hv0.sm).mono (by simp only [vb]; omega))
  · exact Num.of (((((ha3.sm.mul ((cm.mul (((hp0.sm.mul hn0.sm).add (hp1.sm.mul hn1.sm)).add (hp2.sm.mul hn2.sm))).neg.mul hn0.sm)).add (ha4.sm.mul ((cm.mul (((hp0.sm.mul hn0.sm).add (hp1.sm.mul hn1.sm)).add (hp2.sm.mul hn2.sm))).neg.mul hn1.sm))).add (ha5.sm.mul ((cm.mul (((hp0.sm.mul hn0.sm).add (hp1.sm.mul hn1.sm)).add (hp2.sm.mul hn2.sm))).neg.mul hn2.sm))).add hv1.sm).mono (by simp only [vb]; omega))
  · exact Num.of (((((ha6.sm.mul ((cm.mul (((hp0.sm.mul hn0.sm).add (hp1.sm.mul hn1.sm)).add (hp2.sm.mul hn2.sm))).neg.mul hn0.sm)).add (ha7.sm.mul ((cm.mul (((hp0.sm.mul hn0.sm).add (hp1.sm.mul hn1.sm)).add (hp2.sm.mul hn2.sm))).neg.mul hn1.sm))).add (ha8.sm.mul ((cm.mul (((hp0.sm.mul hn0.sm).add (hp1.sm.mul hn1.sm)).add (hp2.sm.mul hn2.sm))).neg.mul hn2.sm))).add hv2.sm).mono (by simp only [vb]; omega))
theorem mk_good {l : List SP6} (hl : ∀ s ∈ l, spok s) : ∀ k, (mk l k).good k
  | 0 => m0_good
  | k + 1 => by
    have ih := mk_good hl k
    unfold mk
    split
    · exact good_up ih
    · rename_i s hs
      obtain ⟨g0, g1, g2, g3, g4, g5⟩ := hl s (List.mem_of_getElem? hs)
      split
      · rename_i hn
        exact mir_good ih ⟨g0, rfl, by decide⟩ ⟨g1, rfl, by decide⟩ ⟨g2, rfl, by decide⟩ ⟨g3, rfl, by decide⟩ ⟨g4, rfl, by decide⟩ ⟨g5, rfl, by decide⟩ hn
      · exact good_up ih
theorem c_mirrors {l : List SP6} (hl : ∀ s ∈ l, spok s) : PureCalls prog F.penumbralaw16_mirrors [.one (spl l)] [.agg ((mk l (min l.length 4)).gd)] := by
  obtain ⟨Z0, Y0⟩ := ex_eq (0 : Rat)
  obtain ⟨Z1, Y1⟩ := ex_eq (1 : Rat)
  obtain ⟨Zm1, Ym1⟩ := ex_eq (-1 : Rat)
  have w1 : Num 1 (cr Z1) Z1 := Num.c Y1 (by decide +kernel) (by decide +kernel)
  have wm : Num 1 (cr Zm1) Zm1 := Num.c Ym1 (by decide +kernel) (by decide +kernel)
  refine symFunc_sound hmix tree_penumbralaw16_mirrors (by kernel_rfl) rfl ?_
  unfold ir_penumbralaw16_mirrors
  simp only [HH, gW, gD]
  refine call_step (n_affine_Identity_0 Y0 Y1) rfl ?_
  simp only [HH, gW, gD]
  refine loop_step (fun ds => ∃ k : Nat, k ≤ 4 ∧ k ≤ l.length ∧ ds = spl l :: .int .i64 (k : Int) :: (mk l k).gd) (numf (fun i => (4 - i).toNat) 1) ?_ ?_ ?_
  · refine ⟨0, by decide, Nat.zero_le _, ?_⟩
    rw [Y0, Y1]; rfl
  · rintro ds ⟨k, _, _, rfl⟩; rfl
  · rintro ds ⟨k, hk4, hkl, rfl⟩
    have hg := mk_good hl k
    obtain ⟨o, ha0, ha1, ha2, ha3, ha4, ha5, ha6, ha7, ha8, hv0, hv1, hv2⟩ := hg
    have hb := lb_le hk4
    simp only [M12.gd, gD]
    refine primS _ rfl ?_
    by_cases hlt : k < l.length
    · obtain ⟨s, hs⟩ : ∃ s, l[k]? = some s := ⟨_, List.getElem?_eq_getElem hlt⟩
      obtain ⟨g0, g1, g2, g3, g4, g5⟩ := hl s (List.mem_of_getElem? hs)
      have n0 : Num 1048576 s.1 s.1.v := ⟨g0, rfl, by decide⟩
      have n1 : Num 1048576 s.2.1 s.2.1.v := ⟨g1, rfl, by decide⟩
      have n2 : Num 1048576 s.2.2.1 s.2.2.1.v := ⟨g2, rfl, by decide⟩
      have n3 : Num 1048576 s.2.2.2.1 s.2.2.2.1.v := ⟨g3, rfl, by decide⟩
      have n4 : Num 1048576 s.2.2.2.2.1 s.2.2.2.2.1.v := ⟨g4, rfl, by decide⟩
      have n5 : Num 1048576 s.2.2.2.2.2 s.2.2.2.2.2.v := ⟨g5, rfl, by decide⟩
      refine primS (.bool true) (d_lss.trans (by rw [decide_eq_true (by omega)])) ?_
      refine itT rfl ?_
      by_cases h4 : k < 4
      · refine primS (.bool true) (d_lss.trans (by rw [decide_eq_true (by omega)])) ?_
        refine itT rfl ?_
        refine primS (.bool true) (inb18 hlt) ?_
        simp only [HH, gW, gD]
        refine primS _ (g18_9 hs) ?_
        simp only [HH, gW, gD]
        refine primS _ (g18_10 hs) ?_
        simp only [HH, gW, gD]
        refine primS _ (g18_11 hs) ?_
        simp only [HH, gW, gD]
        refine primS _ (g18_12 hs) ?_
        simp only [HH, gW, gD]
        refine primS _ (g18_13 hs) ?_
        simp only [HH, gW, gD]
        refine primS _ (g18_14 hs) ?_
        simp only [HH, gW, gD]
        refine primS _ (g18_15 hs) ?_
        simp only [HH, gW, gD]
        refine primS _ (g18_16 hs) ?_
        simp only [HH, gW, gD]
        refine primS _ (g18_17 hs) ?_
        simp only [HH, gW, gD]
        refine primS (.bool true) (inb18 hlt) ?_
        simp only [HH, gW, gD]
        refine primS _ (g18_9 hs) ?_
        simp only [HH, gW, gD]
        refine primS _ (g18_10 hs) ?_
        simp only [HH, gW, gD]
        refine primS _ (g18_11 hs) ?_
        simp only [HH, gW, gD]
        refine primS _ (g18_12 hs) ?_
        simp only [HH, gW, gD]
        refine primS _ (g18_13 hs) ?_
        simp only [HH, gW, gD]
        refine primS _ (g18_14 hs) ?_
        simp only [HH, gW, gD]
        refine primS _ (g18_15 hs) ?_
        simp only [HH, gW, gD]
        refine primS _ (g18_16 hs) ?_
        simp only [HH, gW, gD]
        refine primS _ (g18_17 hs) ?_
        simp only [HH, gW, gD]
        refine call_step (n_vec_Dot_0w n3 n4 n5 n3 n4 n5 (by decide) rfl) rfl ?_
        simp only [HH, gW, gD]
        have hq := Num.of (((n3.sm.mul n3.sm).add (n4.sm.mul n4.sm)).add (n5.sm.mul n5.sm))
        refine call_step (n_rat_Of (k0 := Z1) 1 1 (by decide) (by decide) (by decide) (by decide) (Y1.trans (by decide +kernel))) rfl ?_
        simp only [HH, gW, gD]
        by_cases hu : s.2.2.2.1.v * s.2.2.2.1.v + s.2.2.2.2.1.v * s.2.2.2.2.1.v + s.2.2.2.2.2.v * s.2.2.2.2.2.v = 1
        · refine call_step (n_rat_Same_t (hq.mono (by decide)) (w1.mono (by decide)) (by rw [Y1]; exact hu)) rfl ?_
          simp only [HH, gW, gD]
          refine itT rfl ?_
          refine primS (.bool true) (inb18 hlt) ?_
          simp only [HH, gW, gD]
          refine primS _ (g18_0 hs) ?_
          simp only [HH, gW, gD]
          refine primS _ (g18_1 hs) ?_
          simp only [HH, gW, gD]
          refine primS _ (g18_2 hs) ?_
          simp only [HH, gW, gD]
          refine primS _ (g18_3 hs) ?_
          simp only [HH, gW, gD]
          refine primS _ (g18_4 hs) ?_
          simp only [HH, gW, gD]
          refine primS _ (g18_5 hs) ?_
          simp only [HH, gW, gD]
          refine primS _ (g18_6 hs) ?_
          simp only [HH, gW, gD]
          refine primS _ (g18_7 hs) ?_
          simp only [HH, gW, gD]
          refine primS _ (g18_8 hs) ?_
          simp only [HH, gW, gD]
          refine primS (.bool true) (inb18 hlt) ?_
          simp only [HH, gW, gD]
          refine primS _ (g18_9 hs) ?_
          simp only [HH, gW, gD]
          refine primS _ (g18_10 hs) ?_
          simp only [HH, gW, gD]
          refine primS _ (g18_11 hs) ?_
          simp only [HH, gW, gD]
          refine primS _ (g18_12 hs) ?_
          simp only [HH, gW, gD]
          refine primS _ (g18_13 hs) ?_
          simp only [HH, gW, gD]
          refine primS _ (g18_14 hs) ?_
          simp only [HH, gW, gD]
          refine primS _ (g18_15 hs) ?_
          simp only [HH, gW, gD]
          refine primS _ (g18_16 hs) ?_
          simp only [HH, gW, gD]
          refine primS _ (g18_17 hs) ?_
          simp only [HH, gW, gD]
          refine call_step (n_rat_Of (k0 := Zm1) (-1) 1 (by decide) (by decide) (by decide) (by decide) (Ym1.trans (by decide +kernel))) rfl ?_
          simp only [HH, gW, gD]
          refine call_step (n_affine_Stretch_0w Y0 Y1 n0 n1 n2 n3 n4 n5 wm (by decide) rfl rfl rfl rfl rfl rfl rfl rfl rfl rfl rfl rfl) rfl ?_
          simp only [HH, gW, gD]
          have c1 : Sm 1 Z1 := w1.sm
          have c0 : Sm 1 Z0 := (Num.c Y0 (by decide +kernel) (by decide +kernel)).sm
          have cm : Sm 3 (Zm1 - Z1) := wm.sm.sub w1.sm
          have t0 := Num.of (c1.add ((cm.mul n3.sm).mul n3.sm))
          have t1 := Num.of (c0.add ((cm.mul n3.sm).mul n4.sm))
          have t2 := Num.of (c0.add ((cm.mul n3.sm).mul n5.sm))
          have t3 := Num.of (c0.add ((cm.mul n4.sm).mul n3.sm))
          have t4 := Num.of (c1.add ((cm.mul n4.sm).mul n4.sm))
          have t5 := Num.of (c0.add ((cm.mul n4.sm).mul n5.sm))
          have t6 := Num.of (c0.add ((cm.mul n5.sm).mul n3.sm))
          have t7 := Num.of (c0.add ((cm.mul n5.sm).mul n4.sm))
          have t8 := Num.of (c1.add ((cm.mul n5.sm).mul n5.sm))
          have t9 := Num.of ((cm.mul (((n0.sm.mul n3.sm).add (n1.sm.mul n4.sm)).add (n2.sm.mul n5.sm))).neg.mul n3.sm)
          have t10 := Num.of ((cm.mul (((n0.sm.mul n3.sm).add (n1.sm.mul n4.sm)).add (n2.sm.mul n5.sm))).neg.mul n4.sm)
          have t11 := Num.of ((cm.mul (((n0.sm.mul n3.sm).add (n1.sm.mul n4.sm)).add (n2.sm.mul n5.sm))).neg.mul n5.sm)
          refine call_step (n_affine_Then_0w t0 t1 t2 t3 t4 t5 t6 t7 t8 t9 t10 t11 (ha0.mono hb.1) (ha1.mono hb.1) (ha2.mono hb.1) (ha3.mono hb.1) (ha4.mono hb.1) (ha5.mono hb.1) (ha6.mono hb.1) (ha7.mono hb.1) (ha8.mono hb.1) (hv0.mono hb.2) (hv1.mono hb.2) (hv2.mono hb.2) (by decide) rfl rfl rfl rfl rfl rfl rfl rfl rfl rfl rfl rfl) rfl ?_
          simp only [HH, gW, gD]
          refine primS (.int .i64 ((k + 1 : Nat) : Int)) ((d_add64 (by omega) (by omega)).trans (by simp)) ?_
          refine jump_step rfl ⟨⟨k + 1, h4, hlt, ?_⟩, ?_⟩
          · have e : mk l (k + 1) = mir (mk l k) s.1.v s.2.1.v s.2.2.1.v s.2.2.2.1.v s.2.2.2.2.1.v s.2.2.2.2.2.v := by
              conv => lhs; unfold mk
              rw [hs]; exact if_pos hu
            rw [e]
            subst Y0 Y1 Ym1
            rfl
          · show (4 - ((k + 1 : Nat) : Int)).toNat < (4 - (k : Int)).toNat
            omega
        · refine call_step (n_rat_Same_f (hq.mono (by decide)) (w1.mono (by decide)) (by rw [Y1]; exact hu)) rfl ?_
          simp only [HH, gW, gD]
          refine itF rfl ?_
          refine primS (.int .i64 ((k + 1 : Nat) : Int)) ((d_add64 (by omega) (by omega)).trans (by simp)) ?_
          refine jump_step rfl ⟨⟨k + 1, h4, hlt, ?_⟩, ?_⟩
          · have e : mk l (k + 1) = mk l k := by
              conv => lhs; unfold mk
              rw [hs]; exact if_neg hu
            rw [e]
            rfl
          · show (4 - ((k + 1 : Nat) : Int)).toNat < (4 - (k : Int)).toNat
            omega
      · obtain rfl : k = 4 := by omega
        refine primS (.bool false) (d_lss.trans (by rw [decide_eq_false (by omega)])) ?_
        refine itF rfl ?_
        rw [Nat.min_eq_right (by omega)]
        exact ret_step rfl
    · obtain rfl : k = l.length := by omega
      refine primS (.bool false) (d_lss.trans (by rw [decide_eq_false (by omega)])) ?_
      refine itF rfl ?_
      rw [Nat.min_eq_left (by omega)]
      exact ret_step rfl
/-- The map of mirrors, and what it is. -/
theorem mirrors {l : List SP6} (hl : ∀ s ∈ l, spok s) : ∃ a0 a1 a2 a3 a4 a5 a6 a7 a8 v0 v1 v2 d : Rat, (d = 1 ∨ d = -1) ∧ Ort d a0 a1 a2 a3 a4 a5 a6 a7 a8 ∧ Num 280000081 (cr a0) a0 ∧ Num 280000081 (cr a1) a1 ∧ Num 280000081 (cr a2) a2 ∧ Num 280000081 (cr a3) a3 ∧ Num 280000081 (cr a4) a4 ∧ Num 280000081 (cr a5) a5 ∧ Num 280000081 (cr a6) a6 ∧ Num 280000081 (cr a7) a7 ∧ Num 280000081 (cr a8) a8 ∧ Num 498000125 (cr v0) v0 ∧ Num 498000125 (cr v1) v1 ∧ Num 498000125 (cr v2) v2 ∧ PureCalls prog F.penumbralaw16_mirrors [.one (spl l)] [.agg (gD [a0, a1, a2, a3, a4, a5, a6, a7, a8, v0, v1, v2])] := by
  have hg := mk_good hl (min l.length 4)
  have hb := lvb (k := min l.length 4) (by omega)
  have hc := c_mirrors hl
  obtain ⟨⟨d, o⟩, ha0, ha1, ha2, ha3, ha4, ha5, ha6, ha7, ha8, hv0, hv1, hv2⟩ := hg
  exact ⟨_, _, _, _, _, _, _, _, _, _, _, _, d, ort_pm o, o, ha0.mono hb.1, ha1.mono hb.1, ha2.mono hb.1, ha3.mono hb.1, ha4.mono hb.1, ha5.mono hb.1, ha6.mono hb.1, ha7.mono hb.1, ha8.mono hb.1, hv0.mono hb.2, hv1.mono hb.2, hv2.mono hb.2, hc⟩
theorem frame_any {r0 r1 r2 : RR} {x0 x1 x2 : Rat} (h0 : Num 900000000 r0 x0) (h1 : Num 900000000 r1 x1) (h2 : Num 900000000 r2 x2) (c : x0 * x0 + x1 * x1 + x2 * x2 = 1) : ∃ f0 f1 f2 f3 f4 f5 f6 f7 f8 : Rat, PureCalls prog F.frame_Of [.agg (gW [r0, r1, r2])] [.agg (gD [f0, f1, f2, f3, f4, f5, f6, f7, f8]), .one (.bool true)] := by
  obtain ⟨Z0, Y0⟩ := ex_eq (0 : Rat)
  obtain ⟨Z1, Y1⟩ := ex_eq (1 : Rat)
  obtain ⟨Zm2, Ym2⟩ := ex_eq (-2 : Rat)
  by_cases w : (Z0 - x0) * (Z0 - x0) + (Z0 - x1) * (Z0 - x1) + (Z1 - x2) * (Z1 - x2) = Z0
  · exact ⟨_, _, _, _, _, _, _, _, _, n_frame_Of_0 Ym2 Y0 Y1 h0 h1 h2 rfl rfl (by rw [Y1]; exact c) w⟩
  · exact ⟨_, _, _, _, _, _, _, _, _, n_frame_Of_1 Ym2 Y0 Y1 h0 h1 h2 rfl rfl rfl rfl rfl rfl rfl rfl rfl (by rw [Y1]; exact c) w⟩
end Go.Px.Na

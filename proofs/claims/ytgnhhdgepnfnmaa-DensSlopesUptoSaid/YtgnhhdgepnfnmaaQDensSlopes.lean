/- QDensSlopes: whatever the numbers, the law tells true. -/
import Derived.Test.YtgnhhdgepnfnmaaXDensSlopes
set_option maxRecDepth 20000
set_option maxHeartbeats 40000000
set_option linter.unusedVariables false
set_option linter.unusedSimpArgs false
namespace Go.Px.Na
open Go.RowKit
open Go.Proofs.Try (prog)

theorem ds_fin {p t k A B z C far a b wx wy : Rat} (hp : p * (z * z * z) = A * B * C) (ht : t * (far * far) = z * C) (ha : a * z = wx) (hb : b * z = wy) (hf : far = wx * wx + wy * wy + z * z) (hk : k = 1 + a * a + b * b) (hz : ¬z = 0) : p = t * k * k * A * B := by
  have e1 : far = z * z * k := by subst hf hk ha hb; grind
  rw [e1] at ht
  have e2 : t * k * k * (z * z * z) = C := by
    have h : z * (t * k * k * (z * z * z) - C) = 0 := by grind
    rcases Rat.mul_eq_zero.1 h with h | h
    · exact absurd h hz
    · grind
  have e3 : (z * z * z) * (p - t * k * k * A * B) = 0 := by rw [← e2] at hp; grind
  rcases Rat.mul_eq_zero.1 e3 with h | h
  · rcases Rat.mul_eq_zero.1 h with h | h
    · rcases Rat.mul_eq_zero.1 h with h | h <;> exact absurd h hz
    · exact absurd h hz
  · grind
theorem far_pos {a b c n0 n1 n2 : Rat} (h : 0 < a * n0 + b * n1 + c * n2) : 0 < a * a + b * b + c * c := by
  by_cases z : a * a + b * b + c * c = 0
  · have e0 := sq3_0 rfl z
    have e1 := sq3_1 rfl z
    have e2 := sq3_2 rfl z
    rw [e0, e1, e2] at h
    grind
  · have := sq_nn a
    have := sq_nn b
    have := sq_nn c
    grind
theorem df_a {p p' k z z' A B c c' : Rat} (hp : p * (z * z * z) = A * B * c) (hq : p' * (z' * z' * z') = A * B * c') (hz : z' = k * z) (hc : c' = k * c) (hk : ¬k = 0) (hn : ¬z = 0) : p = p' * (k * k) := by
  subst hz hc
  have e : k * (z * z * z) * (p - p' * (k * k)) = 0 := by grind
  rcases Rat.mul_eq_zero.1 e with h | h
  · rcases Rat.mul_eq_zero.1 h with h | h
    · exact absurd h hk
    · rcases Rat.mul_eq_zero.1 h with h | h
      · rcases Rat.mul_eq_zero.1 h with h | h <;> exact absurd h hn
      · exact absurd h hn
  · grind
theorem df_t {t t' k z z' f f' c c' : Rat} (hp : t * (f * f) = z * c) (hq : t' * (f' * f') = z' * c') (hz : z' = k * z) (hc : c' = k * c) (hf : f' = k * k * f) (hk : ¬k = 0) (hn : ¬f = 0) : t = t' * (k * k) := by
  subst hz hc hf
  have e : (k * k) * (f * f) * (t - t' * (k * k)) = 0 := by grind
  rcases Rat.mul_eq_zero.1 e with h | h
  · rcases Rat.mul_eq_zero.1 h with h | h
    · rcases Rat.mul_eq_zero.1 h with h | h <;> exact absurd h hk
    · rcases Rat.mul_eq_zero.1 h with h | h <;> exact absurd h hn
  · grind
theorem df_s {q z z' n n' k : Rat} (h : q * z = n) (hz : z' = k * z) (hn : n' = k * n) (hne : ¬z' = 0) : q = n' / z' := by
  have e : n' = q * z' := by rw [hn, hz, ← h]; grind
  rw [e, Rat.div_def, Rat.mul_assoc, Rat.mul_inv_cancel z' hne, Rat.mul_one]
theorem ii_mul0 {a b : Int} (h : a = 0) : Prim.den (.bin .mul) [.int .i64 a, .int .i64 b] = some (.int .i64 0) := by subst h; simp [Prim.den, Prim.bin1, binInt, wi64]
theorem DensSlopes_al25 {Z0 Z1 : Rat} (Y0 : Z0 = (0 : Rat)) (Y1 : Z1 = (1 : Rat)) {q20 q14 x18 x6 x19 x7 x20 x8 x23 x2 q18 q12 x12 x13 x14 x21 x0 x3 q19 q13 x15 x16 x17 x22 x1 x4 x5 q1 q3 q8 x9 x10 x11 : Rat} (e14 : q14 = ((((x18 * x6) + (x19 * x7)) + (x20 * x8)) + x23)) (e20 : q20 = (q14 - x2)) (e12 : q12 = ((((x12 * x6) + (x13 * x7)) + (x14 * x8)) + x21)) (e18 : q18 = (q12 - x0)) (e13 : q13 = ((((x15 * x6) + (x16 * x7)) + (x17 * x8)) + x22)) (e19 : q19 = (q13 - x1)) (e1 : q1 = (((x3 * x3) + (x4 * x4)) + (x5 * x5))) (e3 : q3 = ((((Z0 - x3) * (Z0 - x3)) + ((Z0 - x4) * (Z0 - x4))) + ((Z1 - x5) * (Z1 - x5)))) (e8 : q8 = (((x9 * x9) + (x10 * x10)) + (x11 * x11))) (c2 : q1 = Z1) (c4 : q3 = Z0) (z5 : (Z0 - x3) = Z0) (z6 : (Z0 - x4) = Z0) (z7 : (Z1 - x5) = Z0) (c11 : q8 = Z1) : q20 = (((q18 * x3) + (q19 * x4)) + (q20 * x5)) := by
  subst Y0 Y1 e14 e20 e12 e18 e13 e19 e1 e3 e8
  grind

theorem DensSlopes_al52 {Z0 Z1 : Rat} (Y0 : Z0 = (0 : Rat)) (Y1 : Z1 = (1 : Rat)) {q20 q14 x18 x6 x19 x7 x20 x8 x23 x2 q18 q12 x12 x13 x14 x21 x0 q19 q13 x15 x16 x17 x22 x1 : Rat} (e14 : q14 = ((((x18 * x6) + (x19 * x7)) + (x20 * x8)) + x23)) (e20 : q20 = (q14 - x2)) (e12 : q12 = ((((x12 * x6) + (x13 * x7)) + (x14 * x8)) + x21)) (e18 : q18 = (q12 - x0)) (e13 : q13 = ((((x15 * x6) + (x16 * x7)) + (x17 * x8)) + x22)) (e19 : q19 = (q13 - x1)) (c36 : Z0 < q20) : q20 = (((q18 * Z0) + (q19 * Z0)) + (q20 * Z1)) := by
  subst Y0 Y1 e14 e20 e12 e18 e13 e19
  grind

theorem DensSlopes_al96 {Z0 Z1 : Rat} (Y0 : Z0 = (0 : Rat)) (Y1 : Z1 = (1 : Rat)) {q68 q63 q56 q53 q18 q12 x12 x6 x13 x7 x14 x8 x21 x0 q19 q13 x15 x16 x17 x22 x1 q20 q14 x18 x19 x20 x23 x2 q58 q54 q35 q32 q26 x9 x10 x11 q27 q28 q64 q79 q72 q75 q70 q92 q86 q88 q1 x3 x4 x5 q3 q8 q37 : Rat} (e12 : q12 = ((((x12 * x6) + (x13 * x7)) + (x14 * x8)) + x21)) (e18 : q18 = (q12 - x0)) (e13 : q13 = ((((x15 * x6) + (x16 * x7)) + (x17 * x8)) + x22)) (e19 : q19 = (q13 - x1)) (e14 : q14 = ((((x18 * x6) + (x19 * x7)) + (x20 * x8)) + x23)) (e20 : q20 = (q14 - x2)) (d53 : q53 * q20 = (((q18 * Z1) + (q19 * Z0)) + (q20 * Z0))) (e56 : q56 = (dns q53)) (d54 : q54 * q20 = (((q18 * Z0) + (q19 * Z1)) + (q20 * Z0))) (e58 : q58 = (dns q54)) (e26 : q26 = (((((x16 * x20) - (x17 * x19)) * x9) + (((x17 * x18) - (x15 * x20)) * x10)) + (((x15 * x19) - (x16 * x18)) * x11))) (e27 : q27 = (((((x19 * x14) - (x20 * x13)) * x9) + (((x20 * x12) - (x18 * x14)) * x10)) + (((x18 * x13) - (x19 * x12)) * x11))) (e28 : q28 = (((((x13 * x17) - (x14 * x16)) * x9) + (((x14 * x15) - (x12 * x17)) * x10)) + (((x12 * x16) - (x13 * x15)) * x11))) (e32 : q32 = (((q26 * q18) + (q27 * q19)) + (q28 * q20))) (e35 : q35 = (-q32)) (e63 : q63 = ((q56 * q58) * q35)) (e64 : q64 = ((q20 * q20) * q20)) (d68 : q68 * q64 = q63) (e72 : q72 = (q20 * q35)) (e70 : q70 = (((q18 * q18) + (q19 * q19)) + (q20 * q20))) (e75 : q75 = (q70 * q70)) (d79 : q79 * q75 = q72) (e86 : q86 = (q53 * q53)) (e88 : q88 = (q54 * q54)) (e92 : q92 = ((Z1 + q86) + q88)) (e1 : q1 = (((x3 * x3) + (x4 * x4)) + (x5 * x5))) (e3 : q3 = ((((Z0 - x3) * (Z0 - x3)) + ((Z0 - x4) * (Z0 - x4))) + ((Z1 - x5) * (Z1 - x5)))) (e8 : q8 = (((x9 * x9) + (x10 * x10)) + (x11 * x11))) (e37 : q37 = (((x12 * ((x16 * x20) - (x17 * x19))) + (x13 * ((x17 * x18) - (x15 * x20)))) + (x14 * ((x15 * x19) - (x16 * x18))))) (c2 : q1 = Z1) (c4 : q3 = Z0) (z5 : (Z0 - x3) = Z0) (z6 : (Z0 - x4) = Z0) (z7 : (Z1 - x5) = Z0) (c11 : q8 = Z1) (c34 : q32 < Z0) (c36 : Z0 < q20) (c39 : ¬q37 < Z0) (c44 : ¬q37 = Z0) (c67 : ¬q64 = Z0) (c78 : ¬q75 = Z0) (c83 : ¬q68 = Z0) (c84 : ¬q79 = Z0) : q68 = ((((q79 * q92) * q92) * q56) * q58) := by
  subst Y1 Y0
  refine ds_fin (z := q20) (C := q35) (far := q70) (a := q53) (b := q54) (wx := (((q18 * (1 : Rat)) + (q19 * (0 : Rat))) + (q20 * (0 : Rat)))) (wy := (((q18 * (0 : Rat)) + (q19 * (1 : Rat))) + (q20 * (0 : Rat)))) ?_ ?_ d53 d54 ?_ ?_ (fun z => Rat.ne_of_lt c36 z.symm)
  · rw [← e64, ← e63]; exact d68
  · rw [← e75, ← e72]; exact d79
  · clear d68 d79 d53 d54 c11 c34 c36 c39 c44 c67 c78 c83 c84
    clear e12 e18 e13 e19 e14 e20 e56 e58 e26 e27 e28 e32 e35 e63 e64 e72 e75 e86 e88 e92 e8 e37
    subst e70 e1 e3
    grind
  · rw [e92, e86, e88]

theorem DensSlopes_al156 {Z0 Z1 : Rat} (Y0 : Z0 = (0 : Rat)) (Y1 : Z1 = (1 : Rat)) {q128 q123 q117 q114 q18 q12 x12 x6 x13 x7 x14 x8 x21 x0 q19 q13 x15 x16 x17 x22 x1 q20 q14 x18 x19 x20 x23 x2 q119 q115 q32 q26 x9 x10 x11 q27 q28 q124 q139 q132 q135 q130 q152 q146 q148 q1 x3 x4 x5 q3 q8 q102 : Rat} (e12 : q12 = ((((x12 * x6) + (x13 * x7)) + (x14 * x8)) + x21)) (e18 : q18 = (q12 - x0)) (e13 : q13 = ((((x15 * x6) + (x16 * x7)) + (x17 * x8)) + x22)) (e19 : q19 = (q13 - x1)) (e14 : q14 = ((((x18 * x6) + (x19 * x7)) + (x20 * x8)) + x23)) (e20 : q20 = (q14 - x2)) (d114 : q114 * q20 = (((q18 * Z1) + (q19 * Z0)) + (q20 * Z0))) (e117 : q117 = (dns q114)) (d115 : q115 * q20 = (((q18 * Z0) + (q19 * Z1)) + (q20 * Z0))) (e119 : q119 = (dns q115)) (e26 : q26 = (((((x16 * x20) - (x17 * x19)) * x9) + (((x17 * x18) - (x15 * x20)) * x10)) + (((x15 * x19) - (x16 * x18)) * x11))) (e27 : q27 = (((((x19 * x14) - (x20 * x13)) * x9) + (((x20 * x12) - (x18 * x14)) * x10)) + (((x18 * x13) - (x19 * x12)) * x11))) (e28 : q28 = (((((x13 * x17) - (x14 * x16)) * x9) + (((x14 * x15) - (x12 * x17)) * x10)) + (((x12 * x16) - (x13 * x15)) * x11))) (e32 : q32 = (((q26 * q18) + (q27 * q19)) + (q28 * q20))) (e123 : q123 = ((q117 * q119) * q32)) (e124 : q124 = ((q20 * q20) * q20)) (d128 : q128 * q124 = q123) (e132 : q132 = (q20 * q32)) (e130 : q130 = (((q18 * q18) + (q19 * q19)) + (q20 * q20))) (e135 : q135 = (q130 * q130)) (d139 : q139 * q135 = q132) (e146 : q146 = (q114 * q114)) (e148 : q148 = (q115 * q115)) (e152 : q152 = ((Z1 + q146) + q148)) (e1 : q1 = (((x3 * x3) + (x4 * x4)) + (x5 * x5))) (e3 : q3 = ((((Z0 - x3) * (Z0 - x3)) + ((Z0 - x4) * (Z0 - x4))) + ((Z1 - x5) * (Z1 - x5)))) (e8 : q8 = (((x9 * x9) + (x10 * x10)) + (x11 * x11))) (e102 : q102 = (((x12 * ((x16 * x20) - (x17 * x19))) + (x13 * ((x17 * x18) - (x15 * x20)))) + (x14 * ((x15 * x19) - (x16 * x18))))) (c2 : q1 = Z1) (c4 : q3 = Z0) (z5 : (Z0 - x3) = Z0) (z6 : (Z0 - x4) = Z0) (z7 : (Z1 - x5) = Z0) (c11 : q8 = Z1) (c34 : ¬q32 < Z0) (c101 : Z0 < q20) (c104 : ¬q32 = Z0) (c109 : q102 < Z0) (c127 : ¬q124 = Z0) (c138 : ¬q135 = Z0) (c143 : ¬q128 = Z0) (c144 : ¬q139 = Z0) : q128 = ((((q139 * q152) * q152) * q117) * q119) := by
  subst Y1 Y0
  refine ds_fin (z := q20) (C := q32) (far := q130) (a := q114) (b := q115) (wx := (((q18 * (1 : Rat)) + (q19 * (0 : Rat))) + (q20 * (0 : Rat)))) (wy := (((q18 * (0 : Rat)) + (q19 * (1 : Rat))) + (q20 * (0 : Rat)))) ?_ ?_ d114 d115 ?_ ?_ (fun z => Rat.ne_of_lt c101 z.symm)
  · rw [← e124, ← e123]; exact d128
  · rw [← e135, ← e132]; exact d139
  · clear d128 d139 d114 d115 c11 c34 c101 c104 c109 c127 c138 c143 c144
    clear e12 e18 e13 e19 e14 e20 e117 e119 e26 e27 e28 e32 e123 e124 e132 e135 e146 e148 e152 e8 e102
    subst e130 e1 e3
    grind
  · rw [e152, e146, e148]

theorem DensSlopes_al178 {Zm2 Z0 Z1 : Rat} (Ym2 : Zm2 = (-2 : Rat)) (Y0 : Z0 = (0 : Rat)) (Y1 : Z1 = (1 : Rat)) {x3 q174 q3 x4 x5 q1 : Rat} (e3 : q3 = ((((Z0 - x3) * (Z0 - x3)) + ((Z0 - x4) * (Z0 - x4))) + ((Z1 - x5) * (Z1 - x5)))) (d174 : q174 * q3 = Zm2) (e1 : q1 = (((x3 * x3) + (x4 * x4)) + (x5 * x5))) (c2 : q1 = Z1) (c4 : ¬q3 = Z0) : x3 = (Z0 + ((q174 * (Z0 - x3)) * (Z1 - x5))) := by
  subst Ym2 Y0 Y1 e3 e1
  grind

theorem DensSlopes_al180 {Zm2 Z0 Z1 : Rat} (Ym2 : Zm2 = (-2 : Rat)) (Y0 : Z0 = (0 : Rat)) (Y1 : Z1 = (1 : Rat)) {q176 q174 q3 x3 x4 x5 q1 : Rat} (e3 : q3 = ((((Z0 - x3) * (Z0 - x3)) + ((Z0 - x4) * (Z0 - x4))) + ((Z1 - x5) * (Z1 - x5)))) (d174 : q174 * q3 = Zm2) (e176 : q176 = (Z0 + ((q174 * (Z0 - x3)) * (Z0 - x4)))) (e1 : q1 = (((x3 * x3) + (x4 * x4)) + (x5 * x5))) (c2 : q1 = Z1) (c4 : ¬q3 = Z0) : q176 = (Z0 + ((q174 * (Z0 - x4)) * (Z0 - x3))) := by
  subst Ym2 Y0 Y1 e3 e176 e1
  grind

theorem DensSlopes_al183 {Zm2 Z0 Z1 : Rat} (Ym2 : Zm2 = (-2 : Rat)) (Y0 : Z0 = (0 : Rat)) (Y1 : Z1 = (1 : Rat)) {x4 q174 q3 x3 x5 q1 : Rat} (e3 : q3 = ((((Z0 - x3) * (Z0 - x3)) + ((Z0 - x4) * (Z0 - x4))) + ((Z1 - x5) * (Z1 - x5)))) (d174 : q174 * q3 = Zm2) (e1 : q1 = (((x3 * x3) + (x4 * x4)) + (x5 * x5))) (c2 : q1 = Z1) (c4 : ¬q3 = Z0) : x4 = (Z0 + ((q174 * (Z0 - x4)) * (Z1 - x5))) := by
  subst Ym2 Y0 Y1 e3 e1
  grind

theorem DensSlopes_al262 {Z0 Z1 : Rat} (Y0 : Z0 = (0 : Rat)) (Y1 : Z1 = (1 : Rat)) {q253 q194 q188 x12 x6 x13 x7 x14 x8 x21 x0 q195 q189 x15 x16 x17 x22 x1 q196 q190 x18 x19 x20 x23 x2 q1 x3 x4 x5 q3 q184 x9 x10 x11 q207 q201 q202 q203 q200 q213 q247 : Rat} (e188 : q188 = ((((x12 * x6) + (x13 * x7)) + (x14 * x8)) + x21)) (e194 : q194 = (q188 - x0)) (e189 : q189 = ((((x15 * x6) + (x16 * x7)) + (x17 * x8)) + x22)) (e195 : q195 = (q189 - x1)) (e190 : q190 = ((((x18 * x6) + (x19 * x7)) + (x20 * x8)) + x23)) (e196 : q196 = (q190 - x2)) (e253 : q253 = (((q194 * q194) + (q195 * q195)) + (q196 * q196))) (e1 : q1 = (((x3 * x3) + (x4 * x4)) + (x5 * x5))) (e3 : q3 = ((((Z0 - x3) * (Z0 - x3)) + ((Z0 - x4) * (Z0 - x4))) + ((Z1 - x5) * (Z1 - x5)))) (e184 : q184 = (((x9 * x9) + (x10 * x10)) + (x11 * x11))) (e201 : q201 = (((((x16 * x20) - (x17 * x19)) * x9) + (((x17 * x18) - (x15 * x20)) * x10)) + (((x15 * x19) - (x16 * x18)) * x11))) (e202 : q202 = (((((x19 * x14) - (x20 * x13)) * x9) + (((x20 * x12) - (x18 * x14)) * x10)) + (((x18 * x13) - (x19 * x12)) * x11))) (e203 : q203 = (((((x13 * x17) - (x14 * x16)) * x9) + (((x14 * x15) - (x12 * x17)) * x10)) + (((x12 * x16) - (x13 * x15)) * x11))) (e207 : q207 = (((q201 * q194) + (q202 * q195)) + (q203 * q196))) (e200 : q200 = (((q194 * x3) + (q195 * x4)) + (q196 * x5))) (e213 : q213 = (((x12 * ((x16 * x20) - (x17 * x19))) + (x13 * ((x17 * x18) - (x15 * x20)))) + (x14 * ((x15 * x19) - (x16 * x18))))) (e247 : q247 = ((q200 * q200) * q200)) (c2 : q1 = Z1) (c4 : ¬q3 = Z0) (c187 : q184 = Z1) (c209 : q207 < Z0) (c212 : Z0 < q200) (c215 : ¬q213 < Z0) (c220 : ¬q213 = Z0) (c250 : ¬q247 = Z0) : (Z0 < q253) := by
  subst Y0 Y1
  rw [e253]
  exact far_pos (n0 := x3) (n1 := x4) (n2 := x5) (by rw [← e200]; exact c212)

theorem DensSlopes_al281 {Zm2 Z0 Z1 : Rat} (Ym2 : Zm2 = (-2 : Rat)) (Y0 : Z0 = (0 : Rat)) (Y1 : Z1 = (1 : Rat)) {q251 q246 q239 q236 q194 q188 x12 x6 x13 x7 x14 x8 x21 x0 q175 q174 q3 x3 x4 x5 q195 q189 x15 x16 x17 x22 x1 q176 q196 q190 x18 x19 x20 x23 x2 q200 q241 q237 q181 q210 q207 q201 x9 x10 x11 q202 q203 q247 q264 q255 q258 q253 q277 q271 q273 q1 q184 q213 : Rat} (e188 : q188 = ((((x12 * x6) + (x13 * x7)) + (x14 * x8)) + x21)) (e194 : q194 = (q188 - x0)) (e3 : q3 = ((((Z0 - x3) * (Z0 - x3)) + ((Z0 - x4) * (Z0 - x4))) + ((Z1 - x5) * (Z1 - x5)))) (d174 : q174 * q3 = Zm2) (e175 : q175 = (Z1 + ((q174 * (Z0 - x3)) * (Z0 - x3)))) (e189 : q189 = ((((x15 * x6) + (x16 * x7)) + (x17 * x8)) + x22)) (e195 : q195 = (q189 - x1)) (e176 : q176 = (Z0 + ((q174 * (Z0 - x3)) * (Z0 - x4)))) (e190 : q190 = ((((x18 * x6) + (x19 * x7)) + (x20 * x8)) + x23)) (e196 : q196 = (q190 - x2)) (e200 : q200 = (((q194 * x3) + (q195 * x4)) + (q196 * x5))) (d236 : q236 * q200 = (((q194 * q175) + (q195 * q176)) + (q196 * x3))) (e239 : q239 = (dns q236)) (e181 : q181 = (Z1 + ((q174 * (Z0 - x4)) * (Z0 - x4)))) (d237 : q237 * q200 = (((q194 * q176) + (q195 * q181)) + (q196 * x4))) (e241 : q241 = (dns q237)) (e201 : q201 = (((((x16 * x20) - (x17 * x19)) * x9) + (((x17 * x18) - (x15 * x20)) * x10)) + (((x15 * x19) - (x16 * x18)) * x11))) (e202 : q202 = (((((x19 * x14) - (x20 * x13)) * x9) + (((x20 * x12) - (x18 * x14)) * x10)) + (((x18 * x13) - (x19 * x12)) * x11))) (e203 : q203 = (((((x13 * x17) - (x14 * x16)) * x9) + (((x14 * x15) - (x12 * x17)) * x10)) + (((x12 * x16) - (x13 * x15)) * x11))) (e207 : q207 = (((q201 * q194) + (q202 * q195)) + (q203 * q196))) (e210 : q210 = (-q207)) (e246 : q246 = ((q239 * q241) * q210)) (e247 : q247 = ((q200 * q200) * q200)) (d251 : q251 * q247 = q246) (e255 : q255 = (q200 * q210)) (e253 : q253 = (((q194 * q194) + (q195 * q195)) + (q196 * q196))) (e258 : q258 = (q253 * q253)) (d264 : q264 * q258 = q255) (e271 : q271 = (q236 * q236)) (e273 : q273 = (q237 * q237)) (e277 : q277 = ((Z1 + q271) + q273)) (e1 : q1 = (((x3 * x3) + (x4 * x4)) + (x5 * x5))) (e184 : q184 = (((x9 * x9) + (x10 * x10)) + (x11 * x11))) (e213 : q213 = (((x12 * ((x16 * x20) - (x17 * x19))) + (x13 * ((x17 * x18) - (x15 * x20)))) + (x14 * ((x15 * x19) - (x16 * x18))))) (c2 : q1 = Z1) (c4 : ¬q3 = Z0) (c187 : q184 = Z1) (c209 : q207 < Z0) (c212 : Z0 < q200) (c215 : ¬q213 < Z0) (c220 : ¬q213 = Z0) (c250 : ¬q247 = Z0) (c261 : Z0 < q253) (c263 : ¬q258 = Z0) (c268 : ¬q251 = Z0) (c269 : ¬q264 = Z0) : q251 = ((((q264 * q277) * q277) * q239) * q241) := by
  subst Y0 Y1 Ym2
  refine ds_fin (z := q200) (C := q210) (far := q253) (a := q236) (b := q237) (wx := (((q194 * q175) + (q195 * q176)) + (q196 * x3))) (wy := (((q194 * q176) + (q195 * q181)) + (q196 * x4))) ?_ ?_ d236 d237 ?_ ?_ (fun z => Rat.ne_of_lt c212 z.symm)
  · rw [← e247, ← e246]; exact d251
  · rw [← e258, ← e255]; exact d264
  · clear d251 d264 d236 d237 c187 c209 c212 c215 c220 c250 c261 c263 c268 c269
    clear e188 e194 e189 e195 e190 e196 e239 e241 e201 e202 e203 e207 e210 e246 e247 e255 e258 e271 e273 e277 e184 e213
    subst e253 e175 e176 e181 e200 e3 e1
    grind
  · rw [e277, e271, e273]

theorem DensSlopes_al332 {Z0 Z1 : Rat} (Y0 : Z0 = (0 : Rat)) (Y1 : Z1 = (1 : Rat)) {q323 q194 q188 x12 x6 x13 x7 x14 x8 x21 x0 q195 q189 x15 x16 x17 x22 x1 q196 q190 x18 x19 x20 x23 x2 q1 x3 x4 x5 q3 q184 x9 x10 x11 q207 q201 q202 q203 q200 q288 q317 : Rat} (e188 : q188 = ((((x12 * x6) + (x13 * x7)) + (x14 * x8)) + x21)) (e194 : q194 = (q188 - x0)) (e189 : q189 = ((((x15 * x6) + (x16 * x7)) + (x17 * x8)) + x22)) (e195 : q195 = (q189 - x1)) (e190 : q190 = ((((x18 * x6) + (x19 * x7)) + (x20 * x8)) + x23)) (e196 : q196 = (q190 - x2)) (e323 : q323 = (((q194 * q194) + (q195 * q195)) + (q196 * q196))) (e1 : q1 = (((x3 * x3) + (x4 * x4)) + (x5 * x5))) (e3 : q3 = ((((Z0 - x3) * (Z0 - x3)) + ((Z0 - x4) * (Z0 - x4))) + ((Z1 - x5) * (Z1 - x5)))) (e184 : q184 = (((x9 * x9) + (x10 * x10)) + (x11 * x11))) (e201 : q201 = (((((x16 * x20) - (x17 * x19)) * x9) + (((x17 * x18) - (x15 * x20)) * x10)) + (((x15 * x19) - (x16 * x18)) * x11))) (e202 : q202 = (((((x19 * x14) - (x20 * x13)) * x9) + (((x20 * x12) - (x18 * x14)) * x10)) + (((x18 * x13) - (x19 * x12)) * x11))) (e203 : q203 = (((((x13 * x17) - (x14 * x16)) * x9) + (((x14 * x15) - (x12 * x17)) * x10)) + (((x12 * x16) - (x13 * x15)) * x11))) (e207 : q207 = (((q201 * q194) + (q202 * q195)) + (q203 * q196))) (e200 : q200 = (((q194 * x3) + (q195 * x4)) + (q196 * x5))) (e288 : q288 = (((x12 * ((x16 * x20) - (x17 * x19))) + (x13 * ((x17 * x18) - (x15 * x20)))) + (x14 * ((x15 * x19) - (x16 * x18))))) (e317 : q317 = ((q200 * q200) * q200)) (c2 : q1 = Z1) (c4 : ¬q3 = Z0) (c187 : q184 = Z1) (c209 : ¬q207 < Z0) (c287 : Z0 < q200) (c290 : ¬q207 = Z0) (c295 : q288 < Z0) (c320 : ¬q317 = Z0) : (Z0 < q323) := by
  subst Y0 Y1
  rw [e323]
  exact far_pos (n0 := x3) (n1 := x4) (n2 := x5) (by rw [← e200]; exact c287)

theorem DensSlopes_al351 {Zm2 Z0 Z1 : Rat} (Ym2 : Zm2 = (-2 : Rat)) (Y0 : Z0 = (0 : Rat)) (Y1 : Z1 = (1 : Rat)) {q321 q316 q310 q307 q194 q188 x12 x6 x13 x7 x14 x8 x21 x0 q175 q174 q3 x3 x4 x5 q195 q189 x15 x16 x17 x22 x1 q176 q196 q190 x18 x19 x20 x23 x2 q200 q312 q308 q181 q207 q201 x9 x10 x11 q202 q203 q317 q334 q325 q328 q323 q347 q341 q343 q1 q184 q288 : Rat} (e188 : q188 = ((((x12 * x6) + (x13 * x7)) + (x14 * x8)) + x21)) (e194 : q194 = (q188 - x0)) (e3 : q3 = ((((Z0 - x3) * (Z0 - x3)) + ((Z0 - x4) * (Z0 - x4))) + ((Z1 - x5) * (Z1 - x5)))) (d174 : q174 * q3 = Zm2) (e175 : q175 = (Z1 + ((q174 * (Z0 - x3)) * (Z0 - x3)))) (e189 : q189 = ((((x15 * x6) + (x16 * x7)) + (x17 * x8)) + x22)) (e195 : q195 = (q189 - x1)) (e176 : q176 = (Z0 + ((q174 * (Z0 - x3)) * (Z0 - x4)))) (e190 : q190 = ((((x18 * x6) + (x19 * x7)) + (x20 * x8)) + x23)) (e196 : q196 = (q190 - x2)) (e200 : q200 = (((q194 * x3) + (q195 * x4)) + (q196 * x5))) (d307 : q307 * q200 = (((q194 * q175) + (q195 * q176)) + (q196 * x3))) (e310 : q310 = (dns q307)) (e181 : q181 = (Z1 + ((q174 * (Z0 - x4)) * (Z0 - x4)))) (d308 : q308 * q200 = (((q194 * q176) + (q195 * q181)) + (q196 * x4))) (e312 : q312 = (dns q308)) (e201 : q201 = (((((x16 * x20) - (x17 * x19)) * x9) + (((x17 * x18) - (x15 * x20)) * x10)) + (((x15 * x19) - (x16 * x18)) * x11))) (e202 : q202 = (((((x19 * x14) - (x20 * x13)) * x9) + (((x20 * x12) - (x18 * x14)) * x10)) + (((x18 * x13) - (x19 * x12)) * x11))) (e203 : q203 = (((((x13 * x17) - (x14 * x16)) * x9) + (((x14 * x15) - (x12 * x17)) * x10)) + (((x12 * x16) - (x13 * x15)) * x11))) (e207 : q207 = (((q201 * q194) + (q202 * q195)) + (q203 * q196))) (e316 : q316 = ((q310 * q312) * q207)) (e317 : q317 = ((q200 * q200) * q200)) (d321 : q321 * q317 = q316) (e325 : q325 = (q200 * q207)) (e323 : q323 = (((q194 * q194) + (q195 * q195)) + (q196 * q196))) (e328 : q328 = (q323 * q323)) (d334 : q334 * q328 = q325) (e341 : q341 = (q307 * q307)) (e343 : q343 = (q308 * q308)) (e347 : q347 = ((Z1 + q341) + q343)) (e1 : q1 = (((x3 * x3) + (x4 * x4)) + (x5 * x5))) (e184 : q184 = (((x9 * x9) + (x10 * x10)) + (x11 * x11))) (e288 : q288 = (((x12 * ((x16 * x20) - (x17 * x19))) + (x13 * ((x17 * x18) - (x15 * x20)))) + (x14 * ((x15 * x19) - (x16 * x18))))) (c2 : q1 = Z1) (c4 : ¬q3 = Z0) (c187 : q184 = Z1) (c209 : ¬q207 < Z0) (c287 : Z0 < q200) (c290 : ¬q207 = Z0) (c295 : q288 < Z0) (c320 : ¬q317 = Z0) (c331 : Z0 < q323) (c333 : ¬q328 = Z0) (c338 : ¬q321 = Z0) (c339 : ¬q334 = Z0) : q321 = ((((q334 * q347) * q347) * q310) * q312) := by
  subst Y0 Y1 Ym2
  refine ds_fin (z := q200) (C := q207) (far := q323) (a := q307) (b := q308) (wx := (((q194 * q175) + (q195 * q176)) + (q196 * x3))) (wy := (((q194 * q176) + (q195 * q181)) + (q196 * x4))) ?_ ?_ d307 d308 ?_ ?_ (fun z => Rat.ne_of_lt c287 z.symm)
  · rw [← e317, ← e316]; exact d321
  · rw [← e328, ← e325]; exact d334
  · clear d321 d334 d307 d308 c187 c209 c287 c290 c295 c320 c331 c333 c338 c339
    clear e188 e194 e189 e195 e190 e196 e310 e312 e201 e202 e203 e207 e316 e317 e325 e328 e341 e343 e347 e184 e288
    subst e323 e175 e176 e181 e200 e3 e1
    grind
  · rw [e347, e341, e343]

theorem pure_DensSlopes {r0 r1 r2 r3 r4 r5 r6 r7 r8 r9 r10 r11 r12 r13 r14 r15 r16 r17 r18 r19 r20 r21 r22 r23 : RR} (g0 : r0.ok 1048576) (g1 : r1.ok 1048576) (g2 : r2.ok 1048576) (g3 : r3.ok 1048576) (g4 : r4.ok 1048576) (g5 : r5.ok 1048576) (g6 : r6.ok 1048576) (g7 : r7.ok 1048576) (g8 : r8.ok 1048576) (g9 : r9.ok 1048576) (g10 : r10.ok 1048576) (g11 : r11.ok 1048576) (g12 : r12.ok 1048576) (g13 : r13.ok 1048576) (g14 : r14.ok 1048576) (g15 : r15.ok 1048576) (g16 : r16.ok 1048576) (g17 : r17.ok 1048576) (g18 : r18.ok 1048576) (g19 : r19.ok 1048576) (g20 : r20.ok 1048576) (g21 : r21.ok 1048576) (g22 : r22.ok 1048576) (g23 : r23.ok 1048576) : PureCalls prog F.penumbralaw16_DensSlopes [.agg ([.bool r0.neg, nl r0.num, nl r0.den, .bool r1.neg, nl r1.num, nl r1.den, .bool r2.neg, nl r2.num, nl r2.den, .bool r3.neg, nl r3.num, nl r3.den, .bool r4.neg, nl r4.num, nl r4.den, .bool r5.neg, nl r5.num, nl r5.den]), .agg ([.bool r6.neg, nl r6.num, nl r6.den, .bool r7.neg, nl r7.num, nl r7.den, .bool r8.neg, nl r8.num, nl r8.den, .bool r9.neg, nl r9.num, nl r9.den, .bool r10.neg, nl r10.num, nl r10.den, .bool r11.neg, nl r11.num, nl r11.den]), .agg ([.bool r12.neg, nl r12.num, nl r12.den, .bool r13.neg, nl r13.num, nl r13.den, .bool r14.neg, nl r14.num, nl r14.den, .bool r15.neg, nl r15.num, nl r15.den, .bool r16.neg, nl r16.num, nl r16.den, .bool r17.neg, nl r17.num, nl r17.den, .bool r18.neg, nl r18.num, nl r18.den, .bool r19.neg, nl r19.num, nl r19.den, .bool r20.neg, nl r20.num, nl r20.den, .bool r21.neg, nl r21.num, nl r21.den, .bool r22.neg, nl r22.num, nl r22.den, .bool r23.neg, nl r23.num, nl r23.den])] [.one (.bool true)] := by
  obtain ⟨Zm2, Ym2⟩ := ex_eq (-2 : Rat)
  obtain ⟨Z0, Y0⟩ := ex_eq (0 : Rat)
  obtain ⟨Z1, Y1⟩ := ex_eq (1 : Rat)
  obtain ⟨x0, h0⟩ := Num.raw g0 (by decide)
  obtain ⟨x1, h1⟩ := Num.raw g1 (by decide)
  obtain ⟨x2, h2⟩ := Num.raw g2 (by decide)
  obtain ⟨x3, h3⟩ := Num.raw g3 (by decide)
  obtain ⟨x4, h4⟩ := Num.raw g4 (by decide)
  obtain ⟨x5, h5⟩ := Num.raw g5 (by decide)
  obtain ⟨x6, h6⟩ := Num.raw g6 (by decide)
  obtain ⟨x7, h7⟩ := Num.raw g7 (by decide)
  obtain ⟨x8, h8⟩ := Num.raw g8 (by decide)
  obtain ⟨x9, h9⟩ := Num.raw g9 (by decide)
  obtain ⟨x10, h10⟩ := Num.raw g10 (by decide)
  obtain ⟨x11, h11⟩ := Num.raw g11 (by decide)
  obtain ⟨x12, h12⟩ := Num.raw g12 (by decide)
  obtain ⟨x13, h13⟩ := Num.raw g13 (by decide)
  obtain ⟨x14, h14⟩ := Num.raw g14 (by decide)
  obtain ⟨x15, h15⟩ := Num.raw g15 (by decide)
  obtain ⟨x16, h16⟩ := Num.raw g16 (by decide)
  obtain ⟨x17, h17⟩ := Num.raw g17 (by decide)
  obtain ⟨x18, h18⟩ := Num.raw g18 (by decide)
  obtain ⟨x19, h19⟩ := Num.raw g19 (by decide)
  obtain ⟨x20, h20⟩ := Num.raw g20 (by decide)
  obtain ⟨x21, h21⟩ := Num.raw g21 (by decide)
  obtain ⟨x22, h22⟩ := Num.raw g22 (by decide)
  obtain ⟨x23, h23⟩ := Num.raw g23 (by decide)
  refine symFunc_sound hmix tree_penumbralaw16_DensSlopes (by kernel_rfl) rfl ?_
  unfold ir_penumbralaw16_DensSlopes
  simp only [HH, gW, gD]
  obtain ⟨q1, e1⟩ := ex_eq (((x3 * x3) + (x4 * x4)) + (x5 * x5))
  by_cases c2 : q1 = Z1
  · skip
    obtain ⟨q3, e3⟩ := ex_eq ((((Z0 - x3) * (Z0 - x3)) + ((Z0 - x4) * (Z0 - x4))) + ((Z1 - x5) * (Z1 - x5)))
    by_cases c4 : q3 = Z0
    · skip
      have z5 : (Z0 - x3) = Z0 := sq3_0 Y0 (e3.symm.trans c4)
      have z6 : (Z0 - x4) = Z0 := sq3_1 Y0 (e3.symm.trans c4)
      have z7 : (Z1 - x5) = Z0 := sq3_2 Y0 (e3.symm.trans c4)
      obtain ⟨q8, e8⟩ := ex_eq (((x9 * x9) + (x10 * x10)) + (x11 * x11))
      have m9 : Num 6291458 (cr q8) q8 := Num.eqn e8 (Sm.add (Sm.add (Sm.mul h9.sm h9.sm) (Sm.mul h10.sm h10.sm)) (Sm.mul h11.sm h11.sm))
      have m10 : Num 1 (cr Z1) Z1 := Num.c Y1 (by decide +kernel) (by decide +kernel)
      by_cases c11 : q8 = Z1
      · skip
        obtain ⟨q12, e12⟩ := ex_eq ((((x12 * x6) + (x13 * x7)) + (x14 * x8)) + x21)
        obtain ⟨q13, e13⟩ := ex_eq ((((x15 * x6) + (x16 * x7)) + (x17 * x8)) + x22)
        obtain ⟨q14, e14⟩ := ex_eq ((((x18 * x6) + (x19 * x7)) + (x20 * x8)) + x23)
        have m15 : Num 7340035 (cr q12) q12 := Num.eqn e12 (Sm.add (Sm.add (Sm.add (Sm.mul h12.sm h6.sm) (Sm.mul h13.sm h7.sm)) (Sm.mul h14.sm h8.sm)) h21.sm)
        have m16 : Num 7340035 (cr q13) q13 := Num.eqn e13 (Sm.add (Sm.add (Sm.add (Sm.mul h15.sm h6.sm) (Sm.mul h16.sm h7.sm)) (Sm.mul h17.sm h8.sm)) h22.sm)
        have m17 : Num 7340035 (cr q14) q14 := Num.eqn e14 (Sm.add (Sm.add (Sm.add (Sm.mul h18.sm h6.sm) (Sm.mul h19.sm h7.sm)) (Sm.mul h20.sm h8.sm)) h23.sm)
        obtain ⟨q18, e18⟩ := ex_eq (q12 - x0)
        obtain ⟨q19, e19⟩ := ex_eq (q13 - x1)
        obtain ⟨q20, e20⟩ := ex_eq (q14 - x2)
        have m21 : Num 8388612 (cr q18) q18 := Num.eqn e18 (Sm.sub m15.sm h0.sm)
        have m22 : Num 8388612 (cr q19) q19 := Num.eqn e19 (Sm.sub m16.sm h1.sm)
        have m23 : Num 8388612 (cr q20) q20 := Num.eqn e20 (Sm.sub m17.sm h2.sm)
        have u24 : q20 = (((q18 * x3) + (q19 * x4)) + (q20 * x5)) := (DensSlopes_al25 Y0 Y1 e14 e20 e12 e18 e13 e19 e1 e3 e8 c2 c4 z5 z6 z7 c11)
        obtain ⟨q26, e26⟩ := ex_eq (((((x16 * x20) - (x17 * x19)) * x9) + (((x17 * x18) - (x15 * x20)) * x10)) + (((x15 * x19) - (x16 * x18)) * x11))
        obtain ⟨q27, e27⟩ := ex_eq (((((x19 * x14) - (x20 * x13)) * x9) + (((x20 * x12) - (x18 * x14)) * x10)) + (((x18 * x13) - (x19 * x12)) * x11))
        obtain ⟨q28, e28⟩ := ex_eq (((((x13 * x17) - (x14 * x16)) * x9) + (((x14 * x15) - (x12 * x17)) * x10)) + (((x12 * x16) - (x13 * x15)) * x11))
        have m29 : Num 15728645 (cr q26) q26 := Num.eqn e26 (Sm.add (Sm.add (Sm.mul (Sm.sub (Sm.mul h16.sm h20.sm) (Sm.mul h17.sm h19.sm)) h9.sm) (Sm.mul (Sm.sub (Sm.mul h17.sm h18.sm) (Sm.mul h15.sm h20.sm)) h10.sm)) (Sm.mul (Sm.sub (Sm.mul h15.sm h19.sm) (Sm.mul h16.sm h18.sm)) h11.sm))
        have m30 : Num 15728645 (cr q27) q27 := Num.eqn e27 (Sm.add (Sm.add (Sm.mul (Sm.sub (Sm.mul h19.sm h14.sm) (Sm.mul h20.sm h13.sm)) h9.sm) (Sm.mul (Sm.sub (Sm.mul h20.sm h12.sm) (Sm.mul h18.sm h14.sm)) h10.sm)) (Sm.mul (Sm.sub (Sm.mul h18.sm h13.sm) (Sm.mul h19.sm h12.sm)) h11.sm))
        have m31 : Num 15728645 (cr q28) q28 := Num.eqn e28 (Sm.add (Sm.add (Sm.mul (Sm.sub (Sm.mul h13.sm h17.sm) (Sm.mul h14.sm h16.sm)) h9.sm) (Sm.mul (Sm.sub (Sm.mul h14.sm h15.sm) (Sm.mul h12.sm h17.sm)) h10.sm)) (Sm.mul (Sm.sub (Sm.mul h12.sm h16.sm) (Sm.mul h13.sm h15.sm)) h11.sm))
        obtain ⟨q32, e32⟩ := ex_eq (((q26 * q18) + (q27 * q19)) + (q28 * q20))
        have m33 : Num 72351773 (cr q32) q32 := Num.eqn e32 (Sm.add (Sm.add (Sm.mul m29.sm m21.sm) (Sm.mul m30.sm m22.sm)) (Sm.mul m31.sm m23.sm))
        by_cases c34 : q32 < Z0
        · skip
          obtain ⟨q35, e35⟩ := ex_eq (-q32)
          by_cases c36 : Z0 < q20
          · skip
            obtain ⟨q37, e37⟩ := ex_eq (((x12 * ((x16 * x20) - (x17 * x19))) + (x13 * ((x17 * x18) - (x15 * x20)))) + (x14 * ((x15 * x19) - (x16 * x18))))
            have m38 : Num 15728645 (cr q37) q37 := Num.eqn e37 (Sm.add (Sm.add (Sm.mul h12.sm (Sm.sub (Sm.mul h16.sm h20.sm) (Sm.mul h17.sm h19.sm))) (Sm.mul h13.sm (Sm.sub (Sm.mul h17.sm h18.sm) (Sm.mul h15.sm h20.sm)))) (Sm.mul h14.sm (Sm.sub (Sm.mul h15.sm h19.sm) (Sm.mul h16.sm h18.sm))))
            by_cases c39 : q37 < Z0
            · skip
              have hc40 : PureCalls prog F.dens_seen [.agg (gW [r0, r1, r2, r3, r4, r5]), .agg (gW [r6, r7, r8, r9, r10, r11]), .agg (gW [r12, r13, r14, r15, r16, r17, r18, r19, r20, r21, r22, r23])] [.agg (gD [Z1, Z0, Z0, Z0, Z1, Z0, Z0, Z0, Z1, q18, q19, q20, q20, q35]), .one (.bool false)] := by
                refine symFunc_sound hmix tree_dens_seen (by kernel_rfl) rfl ?_
                unfold ir_dens_seen
                simp only [HH, gW, gD]
                refine call_step (n_frame_Of_0 Ym2 Y0 Y1 (h3.mono (by decide)) (h4.mono (by decide)) (h5.mono (by decide)) e1 e3 c2 c4) rfl ?_
                simp only [HH, gW, gD]
                refine primS (.bool false) rfl ?_
                refine itF rfl ?_
                refine cs1 (n_vec_Dot_0w h9 h10 h11 h9 h10 h11 (by decide) e8) ?_
                refine cs1 (n_rat_Of (1) (1) (by decide) (by decide) (by decide) (by decide) (Y1.trans (by decide +kernel))) ?_
                refine cs0 (n_rat_Same_t (m9.mono (by decide)) (m10.mono (by decide)) c11) ?_
                simp only [HH, gW, gD]
                refine primS (.bool false) rfl ?_
                refine itF rfl ?_
                refine cs3 (n_affine_Apply_0w h12 h13 h14 h15 h16 h17 h18 h19 h20 h21 h22 h23 h6 h7 h8 (by decide) e12 e13 e14) ?_
                refine cs3 (n_vec_Sub_0w m15 m16 m17 h0 h1 h2 (by decide) e18 e19 e20) ?_
                refine cs1 (n_vec_Dot_0w m21 m22 m23 h3 h4 h5 (by decide) u24) ?_
                simp only [HH, gW, gD]
                refine cs3 (n_affine_Area_0w h12 h13 h14 h15 h16 h17 h18 h19 h20 h21 h22 h23 h9 h10 h11 (by decide) e26 e27 e28) ?_
                refine cs1 (n_vec_Dot_0w m29 m30 m31 m21 m22 m23 (by decide) e32) ?_
                refine cs1 (n_rat_Abs_t Y0 (m33.mono (by decide)) e35 c34) ?_
                simp only [HH, gW, gD]
                refine cs0 (n_rat_Sign (m23.mono (by decide))) ?_
                refine primS (.bool true) (cs_gtr_t ((sg_gt Y0).2 c36)) ?_
                refine itT rfl ?_
                refine cs0 (n_rat_Sign (m33.mono (by decide))) ?_
                refine cs1 (n_affine_Det_0w h12 h13 h14 h15 h16 h17 h18 h19 h20 h21 h22 h23 (by decide) e37) ?_
                simp only [HH, gW, gD]
                refine cs0 (n_rat_Sign (m38.mono (by decide))) ?_
                refine primS (.int .i64 (1)) (ii_mul (sgn_m Y0 c34) (sgn_m Y0 c39) rfl) ?_
                refine primS (.bool false) rfl ?_
                exact ret_step rfl
              have hc41 : PureCalls prog F.dens_Ahead [.agg (gW [r0, r1, r2, r3, r4, r5]), .agg (gW [r6, r7, r8, r9, r10, r11]), .agg (gW [r12, r13, r14, r15, r16, r17, r18, r19, r20, r21, r22, r23])] [.agg (gD [Z0])] := by
                refine symFunc_sound hmix tree_dens_Ahead (by kernel_rfl) rfl ?_
                unfold ir_dens_Ahead
                simp only [HH, gW, gD]
                refine call_step hc40 rfl ?_
                simp only [HH, gW, gD]
                refine primS (.bool true) rfl ?_
                refine itT rfl ?_
                refine cs1 (n_rat_Of (0) (1) (by decide) (by decide) (by decide) (by decide) (Y0.trans (by decide +kernel))) ?_
                exact ret_step rfl
              refine call_step hc41 rfl ?_
              simp only [HH, gW, gD]
              have hc42 : PureCalls prog F.dens_Transfer [.agg (gW [r0, r1, r2, r3, r4, r5]), .agg (gW [r6, r7, r8, r9, r10, r11]), .agg (gW [r12, r13, r14, r15, r16, r17, r18, r19, r20, r21, r22, r23])] [.agg (gD [Z0])] := by
                refine symFunc_sound hmix tree_dens_Transfer (by kernel_rfl) rfl ?_
                unfold ir_dens_Transfer
                simp only [HH, gW, gD]
                refine call_step hc40 rfl ?_
                simp only [HH, gW, gD]
                refine primS (.bool true) rfl ?_
                refine itT rfl ?_
                refine cs1 (n_rat_Of (0) (1) (by decide) (by decide) (by decide) (by decide) (Y0.trans (by decide +kernel))) ?_
                exact ret_step rfl
              refine call_step hc42 rfl ?_
              simp only [HH, gW, gD]
              refine cs0 n_penumbralaw16_fixed ?_
              refine primS (.bool false) rfl ?_
              refine itF rfl ?_
              have m43 : Num 1 (cr Z0) Z0 := Num.c Y0 (by decide +kernel) (by decide +kernel)
              refine cs0 (n_rat_Sign (m43.mono (by decide))) ?_
              refine primS (.bool false) (cs_lss_f (fun z => (Rat.lt_irrefl) ((sg_lt Y0).1 z))) ?_
              refine itF rfl ?_
              refine cs0 (n_rat_Sign (m43.mono (by decide))) ?_
              simp only [HH, gW, gD]
              refine primS (.bool false) (cs_lss_f (fun z => (Rat.lt_irrefl) ((sg_lt Y0).1 z))) ?_
              refine itF rfl ?_
              refine cs0 (n_rat_Sign (m43.mono (by decide))) ?_
              refine cs0 (n_rat_Sign (m43.mono (by decide))) ?_
              refine primS (.bool false) (ii_neq (sgn_z Y0 rfl) (sgn_z Y0 rfl) rfl) ?_
              refine itF rfl ?_
              refine cs0 (n_rat_Sign (m43.mono (by decide))) ?_
              simp only [HH, gW, gD]
              refine primS (.bool true) (cs_eql_t ((sg_eq Y0).2 rfl)) ?_
              refine itT rfl ?_
              exact ret_step rfl
            · skip
              by_cases c44 : q37 = Z0
              · skip
                have hc45 : PureCalls prog F.dens_seen [.agg (gW [r0, r1, r2, r3, r4, r5]), .agg (gW [r6, r7, r8, r9, r10, r11]), .agg (gW [r12, r13, r14, r15, r16, r17, r18, r19, r20, r21, r22, r23])] [.agg (gD [Z1, Z0, Z0, Z0, Z1, Z0, Z0, Z0, Z1, q18, q19, q20, q20, q35]), .one (.bool false)] := by
                  refine symFunc_sound hmix tree_dens_seen (by kernel_rfl) rfl ?_
                  unfold ir_dens_seen
                  simp only [HH, gW, gD]
                  refine call_step (n_frame_Of_0 Ym2 Y0 Y1 (h3.mono (by decide)) (h4.mono (by decide)) (h5.mono (by decide)) e1 e3 c2 c4) rfl ?_
                  simp only [HH, gW, gD]
                  refine primS (.bool false) rfl ?_
                  refine itF rfl ?_
                  refine cs1 (n_vec_Dot_0w h9 h10 h11 h9 h10 h11 (by decide) e8) ?_
                  refine cs1 (n_rat_Of (1) (1) (by decide) (by decide) (by decide) (by decide) (Y1.trans (by decide +kernel))) ?_
                  refine cs0 (n_rat_Same_t (m9.mono (by decide)) (m10.mono (by decide)) c11) ?_
                  simp only [HH, gW, gD]
                  refine primS (.bool false) rfl ?_
                  refine itF rfl ?_
                  refine cs3 (n_affine_Apply_0w h12 h13 h14 h15 h16 h17 h18 h19 h20 h21 h22 h23 h6 h7 h8 (by decide) e12 e13 e14) ?_
                  refine cs3 (n_vec_Sub_0w m15 m16 m17 h0 h1 h2 (by decide) e18 e19 e20) ?_
                  refine cs1 (n_vec_Dot_0w m21 m22 m23 h3 h4 h5 (by decide) u24) ?_
                  simp only [HH, gW, gD]
                  refine cs3 (n_affine_Area_0w h12 h13 h14 h15 h16 h17 h18 h19 h20 h21 h22 h23 h9 h10 h11 (by decide) e26 e27 e28) ?_
                  refine cs1 (n_vec_Dot_0w m29 m30 m31 m21 m22 m23 (by decide) e32) ?_
                  refine cs1 (n_rat_Abs_t Y0 (m33.mono (by decide)) e35 c34) ?_
                  simp only [HH, gW, gD]
                  refine cs0 (n_rat_Sign (m23.mono (by decide))) ?_
                  refine primS (.bool true) (cs_gtr_t ((sg_gt Y0).2 c36)) ?_
                  refine itT rfl ?_
                  refine cs0 (n_rat_Sign (m33.mono (by decide))) ?_
                  refine cs1 (n_affine_Det_0w h12 h13 h14 h15 h16 h17 h18 h19 h20 h21 h22 h23 (by decide) e37) ?_
                  simp only [HH, gW, gD]
                  refine cs0 (n_rat_Sign (m38.mono (by decide))) ?_
                  refine primS (.int .i64 (0)) (ii_mul (sgn_m Y0 c34) (sgn_z Y0 c44) rfl) ?_
                  refine primS (.bool false) rfl ?_
                  exact ret_step rfl
                have hc46 : PureCalls prog F.dens_Ahead [.agg (gW [r0, r1, r2, r3, r4, r5]), .agg (gW [r6, r7, r8, r9, r10, r11]), .agg (gW [r12, r13, r14, r15, r16, r17, r18, r19, r20, r21, r22, r23])] [.agg (gD [Z0])] := by
                  refine symFunc_sound hmix tree_dens_Ahead (by kernel_rfl) rfl ?_
                  unfold ir_dens_Ahead
                  simp only [HH, gW, gD]
                  refine call_step hc45 rfl ?_
                  simp only [HH, gW, gD]
                  refine primS (.bool true) rfl ?_
                  refine itT rfl ?_
                  refine cs1 (n_rat_Of (0) (1) (by decide) (by decide) (by decide) (by decide) (Y0.trans (by decide +kernel))) ?_
                  exact ret_step rfl
                refine call_step hc46 rfl ?_
                simp only [HH, gW, gD]
                have hc47 : PureCalls prog F.dens_Transfer [.agg (gW [r0, r1, r2, r3, r4, r5]), .agg (gW [r6, r7, r8, r9, r10, r11]), .agg (gW [r12, r13, r14, r15, r16, r17, r18, r19, r20, r21, r22, r23])] [.agg (gD [Z0])] := by
                  refine symFunc_sound hmix tree_dens_Transfer (by kernel_rfl) rfl ?_
                  unfold ir_dens_Transfer
                  simp only [HH, gW, gD]
                  refine call_step hc45 rfl ?_
                  simp only [HH, gW, gD]
                  refine primS (.bool true) rfl ?_
                  refine itT rfl ?_
                  refine cs1 (n_rat_Of (0) (1) (by decide) (by decide) (by decide) (by decide) (Y0.trans (by decide +kernel))) ?_
                  exact ret_step rfl
                refine call_step hc47 rfl ?_
                simp only [HH, gW, gD]
                refine cs0 n_penumbralaw16_fixed ?_
                refine primS (.bool false) rfl ?_
                refine itF rfl ?_
                have m48 : Num 1 (cr Z0) Z0 := Num.c Y0 (by decide +kernel) (by decide +kernel)
                refine cs0 (n_rat_Sign (m48.mono (by decide))) ?_
                refine primS (.bool false) (cs_lss_f (fun z => (Rat.lt_irrefl) ((sg_lt Y0).1 z))) ?_
                refine itF rfl ?_
                refine cs0 (n_rat_Sign (m48.mono (by decide))) ?_
                simp only [HH, gW, gD]
                refine primS (.bool false) (cs_lss_f (fun z => (Rat.lt_irrefl) ((sg_lt Y0).1 z))) ?_
                refine itF rfl ?_
                refine cs0 (n_rat_Sign (m48.mono (by decide))) ?_
                refine cs0 (n_rat_Sign (m48.mono (by decide))) ?_
                refine primS (.bool false) (ii_neq (sgn_z Y0 rfl) (sgn_z Y0 rfl) rfl) ?_
                refine itF rfl ?_
                refine cs0 (n_rat_Sign (m48.mono (by decide))) ?_
                simp only [HH, gW, gD]
                refine primS (.bool true) (cs_eql_t ((sg_eq Y0).2 rfl)) ?_
                refine itT rfl ?_
                exact ret_step rfl
              · skip
                have hc49 : PureCalls prog F.dens_seen [.agg (gW [r0, r1, r2, r3, r4, r5]), .agg (gW [r6, r7, r8, r9, r10, r11]), .agg (gW [r12, r13, r14, r15, r16, r17, r18, r19, r20, r21, r22, r23])] [.agg (gD [Z1, Z0, Z0, Z0, Z1, Z0, Z0, Z0, Z1, q18, q19, q20, q20, q35]), .one (.bool true)] := by
                  refine symFunc_sound hmix tree_dens_seen (by kernel_rfl) rfl ?_
                  unfold ir_dens_seen
                  simp only [HH, gW, gD]
                  refine call_step (n_frame_Of_0 Ym2 Y0 Y1 (h3.mono (by decide)) (h4.mono (by decide)) (h5.mono (by decide)) e1 e3 c2 c4) rfl ?_
                  simp only [HH, gW, gD]
                  refine primS (.bool false) rfl ?_
                  refine itF rfl ?_
                  refine cs1 (n_vec_Dot_0w h9 h10 h11 h9 h10 h11 (by decide) e8) ?_
                  refine cs1 (n_rat_Of (1) (1) (by decide) (by decide) (by decide) (by decide) (Y1.trans (by decide +kernel))) ?_
                  refine cs0 (n_rat_Same_t (m9.mono (by decide)) (m10.mono (by decide)) c11) ?_
                  simp only [HH, gW, gD]
                  refine primS (.bool false) rfl ?_
                  refine itF rfl ?_
                  refine cs3 (n_affine_Apply_0w h12 h13 h14 h15 h16 h17 h18 h19 h20 h21 h22 h23 h6 h7 h8 (by decide) e12 e13 e14) ?_
                  refine cs3 (n_vec_Sub_0w m15 m16 m17 h0 h1 h2 (by decide) e18 e19 e20) ?_
                  refine cs1 (n_vec_Dot_0w m21 m22 m23 h3 h4 h5 (by decide) u24) ?_
                  simp only [HH, gW, gD]
                  refine cs3 (n_affine_Area_0w h12 h13 h14 h15 h16 h17 h18 h19 h20 h21 h22 h23 h9 h10 h11 (by decide) e26 e27 e28) ?_
                  refine cs1 (n_vec_Dot_0w m29 m30 m31 m21 m22 m23 (by decide) e32) ?_
                  refine cs1 (n_rat_Abs_t Y0 (m33.mono (by decide)) e35 c34) ?_
                  simp only [HH, gW, gD]
                  refine cs0 (n_rat_Sign (m23.mono (by decide))) ?_
                  refine primS (.bool true) (cs_gtr_t ((sg_gt Y0).2 c36)) ?_
                  refine itT rfl ?_
                  refine cs0 (n_rat_Sign (m33.mono (by decide))) ?_
                  refine cs1 (n_affine_Det_0w h12 h13 h14 h15 h16 h17 h18 h19 h20 h21 h22 h23 (by decide) e37) ?_
                  simp only [HH, gW, gD]
                  refine cs0 (n_rat_Sign (m38.mono (by decide))) ?_
                  refine primS (.int .i64 (-1)) (ii_mul (sgn_m Y0 c34) (sgn_p Y0 c39 c44) rfl) ?_
                  refine primS (.bool true) rfl ?_
                  exact ret_step rfl
                have m50 : Num 1 (cr Z0) Z0 := Num.c Y0 (by decide +kernel) (by decide +kernel)
                have u51 : q20 = (((q18 * Z0) + (q19 * Z0)) + (q20 * Z1)) := (DensSlopes_al52 Y0 Y1 e14 e20 e12 e18 e13 e19 c36)
                obtain ⟨q53, e53⟩ := ex_eq ((((q18 * Z1) + (q19 * Z0)) + (q20 * Z0)) / q20)
                have d53 := div_mul Y0 e53 (fun z => Rat.ne_of_lt c36 z.symm)
                obtain ⟨q54, e54⟩ := ex_eq ((((q18 * Z0) + (q19 * Z1)) + (q20 * Z0)) / q20)
                have d54 := div_mul Y0 e54 (fun z => Rat.ne_of_lt c36 z.symm)
                have m55 : Num 33554453 (cr q53) q53 := Num.eqn e53 (Sm.div (Sm.add (Sm.add (Sm.mul m21.sm m10.sm) (Sm.mul m22.sm m50.sm)) (Sm.mul m23.sm m50.sm)) m23.sm)
                obtain ⟨q56, e56⟩ := ex_eq (dns q53)
                have m57 : Num 33554453 (cr q54) q54 := Num.eqn e54 (Sm.div (Sm.add (Sm.add (Sm.mul m21.sm m50.sm) (Sm.mul m22.sm m10.sm)) (Sm.mul m23.sm m50.sm)) m23.sm)
                obtain ⟨q58, e58⟩ := ex_eq (dns q54)
                have m60 : Num 201326730 (cr q56) q56 := Num.eqn e56 (Sm.dns m55.sm)
                have m61 : Num 201326730 (cr q58) q58 := Num.eqn e58 (Sm.dns m57.sm)
                have m62 : Num 72351773 (cr q35) q35 := Num.eqn e35 (Sm.neg m33.sm)
                obtain ⟨q63, e63⟩ := ex_eq ((q56 * q58) * q35)
                obtain ⟨q64, e64⟩ := ex_eq ((q20 * q20) * q20)
                have m65 : Num 475005233 (cr q63) q63 := Num.eqn e63 (Sm.mul (Sm.mul m60.sm m61.sm) m62.sm)
                have m66 : Num 25165836 (cr q64) q64 := Num.eqn e64 (Sm.mul (Sm.mul m23.sm m23.sm) m23.sm)
                have c67 : ¬(q64 = Z0) := (fun z => Rat.ne_of_lt (s_mul_pp Y0 e64 (s_mul_pp Y0 rfl c36 c36) c36) z.symm)
                obtain ⟨q68, e68⟩ := ex_eq (q63 / q64)
                have d68 := div_mul Y0 e68 c67
                have hc69 : PureCalls prog F.dens_Ahead [.agg (gW [r0, r1, r2, r3, r4, r5]), .agg (gW [r6, r7, r8, r9, r10, r11]), .agg (gW [r12, r13, r14, r15, r16, r17, r18, r19, r20, r21, r22, r23])] [.agg (gD [q68])] := by
                  refine symFunc_sound hmix tree_dens_Ahead (by kernel_rfl) rfl ?_
                  unfold ir_dens_Ahead
                  simp only [HH, gW, gD]
                  refine call_step hc49 rfl ?_
                  simp only [HH, gW, gD]
                  refine primS (.bool false) rfl ?_
                  refine itF rfl ?_
                  refine call_step (n_frame_Slopes_1w Y0 m10 m50 m50 m50 m10 m50 m50 m50 m10 m21 m22 m23 (by decide) u51 e53 e54 (fun z => Rat.ne_of_lt c36 z.symm)) rfl ?_
                  simp only [HH, gW, gD]
                  refine cs1 (n_warp_Density (k0 := q56) (m55.mono (by decide)) e56) ?_
                  refine cs1 (n_warp_Density (k0 := q58) (m57.mono (by decide)) e58) ?_
                  refine primS (rl [(cr q56), (cr q58), (cr q35)]) rfl ?_
                  refine cs1 (n_rat_Product_3 (k0 := q63) (m60.mono (by decide)) (m61.mono (by decide)) (m62.mono (by decide)) e63) ?_
                  simp only [HH, gW, gD]
                  refine cs1 (n_dens_cube_0 (m23.mono (by decide)) e64) ?_
                  refine cs1 (n_dens_over_1 Y0 (m65.mono (by decide)) (m66.mono (by decide)) e68 c67) ?_
                  exact ret_step rfl
                refine call_step hc69 rfl ?_
                simp only [HH, gW, gD]
                obtain ⟨q70, e70⟩ := ex_eq (((q18 * q18) + (q19 * q19)) + (q20 * q20))
                obtain ⟨q72, e72⟩ := ex_eq (q20 * q35)
                have m74 : Num 50331674 (cr q70) q70 := Num.eqn e70 (Sm.add (Sm.add (Sm.mul m21.sm m21.sm) (Sm.mul m22.sm m22.sm)) (Sm.mul m23.sm m23.sm))
                obtain ⟨q75, e75⟩ := ex_eq (q70 * q70)
                have m76 : Num 80740385 (cr q72) q72 := Num.eqn e72 (Sm.mul m23.sm m62.sm)
                have m77 : Num 100663348 (cr q75) q75 := Num.eqn e75 (Sm.mul m74.sm m74.sm)
                have c78 : ¬(q75 = Z0) := (fun z => Rat.ne_of_lt (s_mul_pp Y0 e75 (s_add_wp Y0 e70 (s_add_ww Y0 rfl (s_sq_w (b := Z0) Y0 rfl) (s_sq_w (b := Z0) Y0 rfl)) (s_mul_pp Y0 rfl c36 c36)) (s_add_wp Y0 e70 (s_add_ww Y0 rfl (s_sq_w (b := Z0) Y0 rfl) (s_sq_w (b := Z0) Y0 rfl)) (s_mul_pp Y0 rfl c36 c36))) z.symm)
                obtain ⟨q79, e79⟩ := ex_eq (q72 / q75)
                have d79 := div_mul Y0 e79 c78
                have hc80 : PureCalls prog F.dens_Transfer [.agg (gW [r0, r1, r2, r3, r4, r5]), .agg (gW [r6, r7, r8, r9, r10, r11]), .agg (gW [r12, r13, r14, r15, r16, r17, r18, r19, r20, r21, r22, r23])] [.agg (gD [q79])] := by
                  refine symFunc_sound hmix tree_dens_Transfer (by kernel_rfl) rfl ?_
                  unfold ir_dens_Transfer
                  simp only [HH, gW, gD]
                  refine call_step hc49 rfl ?_
                  simp only [HH, gW, gD]
                  refine primS (.bool false) rfl ?_
                  refine itF rfl ?_
                  refine cs1 (n_vec_Dot_0w m21 m22 m23 m21 m22 m23 (by decide) e70) ?_
                  refine primS (rl [(cr q20), (cr q35)]) rfl ?_
                  refine cs1 (n_rat_Product_2 (k0 := q72) (m23.mono (by decide)) (m62.mono (by decide)) e72) ?_
                  refine primS (rl [(cr q70), (cr q70)]) rfl ?_
                  refine cs1 (n_rat_Product_2 (k0 := q75) (m74.mono (by decide)) (m74.mono (by decide)) e75) ?_
                  simp only [HH, gW, gD]
                  refine cs1 (n_dens_over_1 Y0 (m76.mono (by decide)) (m77.mono (by decide)) e79 c78) ?_
                  exact ret_step rfl
                refine call_step hc80 rfl ?_
                simp only [HH, gW, gD]
                refine cs0 n_penumbralaw16_fixed ?_
                refine primS (.bool false) rfl ?_
                refine itF rfl ?_
                have m81 : Num 500171069 (cr q68) q68 := Num.eqn e68 (Sm.div m65.sm m66.sm)
                refine cs0 (n_rat_Sign (m81.mono (by decide))) ?_
                refine primS (.bool false) (cs_lss_f (fun z => (t_wk (s_div_pp Y0 e68 (s_mul_pp Y0 e63 (s_mul_pp Y0 rfl (s_dns (b := Z0) Y0 e56) (s_dns (b := Z0) Y0 e58)) (s_neg_n (b := Z0) Y0 e35 c34)) (s_mul_pp Y0 e64 (s_mul_pp Y0 rfl c36 c36) c36))) ((sg_lt Y0).1 z))) ?_
                refine itF rfl ?_
                have m82 : Num 181403733 (cr q79) q79 := Num.eqn e79 (Sm.div m76.sm m77.sm)
                refine cs0 (n_rat_Sign (m82.mono (by decide))) ?_
                simp only [HH, gW, gD]
                refine primS (.bool false) (cs_lss_f (fun z => (t_wk (s_div_pp Y0 e79 (s_mul_pp Y0 e72 c36 (s_neg_n (b := Z0) Y0 e35 c34)) (s_mul_pp Y0 e75 (s_add_wp Y0 e70 (s_add_ww Y0 rfl (s_sq_w (b := Z0) Y0 rfl) (s_sq_w (b := Z0) Y0 rfl)) (s_mul_pp Y0 rfl c36 c36)) (s_add_wp Y0 e70 (s_add_ww Y0 rfl (s_sq_w (b := Z0) Y0 rfl) (s_sq_w (b := Z0) Y0 rfl)) (s_mul_pp Y0 rfl c36 c36))))) ((sg_lt Y0).1 z))) ?_
                refine itF rfl ?_
                refine cs0 (n_rat_Sign (m81.mono (by decide))) ?_
                refine cs0 (n_rat_Sign (m82.mono (by decide))) ?_
                have c83 : ¬(q68 = Z0) := (fun z => Rat.ne_of_lt (s_div_pp Y0 e68 (s_mul_pp Y0 e63 (s_mul_pp Y0 rfl (s_dns (b := Z0) Y0 e56) (s_dns (b := Z0) Y0 e58)) (s_neg_n (b := Z0) Y0 e35 c34)) (s_mul_pp Y0 e64 (s_mul_pp Y0 rfl c36 c36) c36)) z.symm)
                have c84 : ¬(q79 = Z0) := (fun z => Rat.ne_of_lt (s_div_pp Y0 e79 (s_mul_pp Y0 e72 c36 (s_neg_n (b := Z0) Y0 e35 c34)) (s_mul_pp Y0 e75 (s_add_wp Y0 e70 (s_add_ww Y0 rfl (s_sq_w (b := Z0) Y0 rfl) (s_sq_w (b := Z0) Y0 rfl)) (s_mul_pp Y0 rfl c36 c36)) (s_add_wp Y0 e70 (s_add_ww Y0 rfl (s_sq_w (b := Z0) Y0 rfl) (s_sq_w (b := Z0) Y0 rfl)) (s_mul_pp Y0 rfl c36 c36)))) z.symm)
                refine primS (.bool false) (ii_neq (sgn_p Y0 (t_wk (s_div_pp Y0 e68 (s_mul_pp Y0 e63 (s_mul_pp Y0 rfl (s_dns (b := Z0) Y0 e56) (s_dns (b := Z0) Y0 e58)) (s_neg_n (b := Z0) Y0 e35 c34)) (s_mul_pp Y0 e64 (s_mul_pp Y0 rfl c36 c36) c36))) c83) (sgn_p Y0 (t_wk (s_div_pp Y0 e79 (s_mul_pp Y0 e72 c36 (s_neg_n (b := Z0) Y0 e35 c34)) (s_mul_pp Y0 e75 (s_add_wp Y0 e70 (s_add_ww Y0 rfl (s_sq_w (b := Z0) Y0 rfl) (s_sq_w (b := Z0) Y0 rfl)) (s_mul_pp Y0 rfl c36 c36)) (s_add_wp Y0 e70 (s_add_ww Y0 rfl (s_sq_w (b := Z0) Y0 rfl) (s_sq_w (b := Z0) Y0 rfl)) (s_mul_pp Y0 rfl c36 c36))))) c84) rfl) ?_
                refine itF rfl ?_
                refine cs0 (n_rat_Sign (m81.mono (by decide))) ?_
                simp only [HH, gW, gD]
                refine primS (.bool false) (cs_eql_f (fun z => c83 ((sg_eq Y0).1 z))) ?_
                refine itF rfl ?_
                refine call_step (n_frame_Of_0 Ym2 Y0 Y1 (h3.mono (by decide)) (h4.mono (by decide)) (h5.mono (by decide)) e1 e3 c2 c4) rfl ?_
                simp only [HH, gW, gD]
                refine cs3 (n_affine_Apply_0w h12 h13 h14 h15 h16 h17 h18 h19 h20 h21 h22 h23 h6 h7 h8 (by decide) e12 e13 e14) ?_
                refine cs3 (n_vec_Sub_0w m15 m16 m17 h0 h1 h2 (by decide) e18 e19 e20) ?_
                refine call_step (n_frame_Slopes_1w Y0 m10 m50 m50 m50 m10 m50 m50 m50 m10 m21 m22 m23 (by decide) u51 e53 e54 (fun z => Rat.ne_of_lt c36 z.symm)) rfl ?_
                simp only [HH, gW, gD]
                refine cs1 (n_rat_Of (1) (1) (by decide) (by decide) (by decide) (by decide) (Y1.trans (by decide +kernel))) ?_
                refine primS (rl [(cr q53), (cr q53)]) rfl ?_
                obtain ⟨q86, e86⟩ := ex_eq (q53 * q53)
                refine cs1 (n_rat_Product_2 (k0 := q86) (m55.mono (by decide)) (m55.mono (by decide)) e86) ?_
                refine primS (rl [(cr q54), (cr q54)]) rfl ?_
                obtain ⟨q88, e88⟩ := ex_eq (q54 * q54)
                refine cs1 (n_rat_Product_2 (k0 := q88) (m57.mono (by decide)) (m57.mono (by decide)) e88) ?_
                simp only [HH, gW, gD]
                refine primS (rl [(cr Z1), (cr q86), (cr q88)]) rfl ?_
                have m90 : Num 67108906 (cr q86) q86 := Num.eqn e86 (Sm.mul m55.sm m55.sm)
                have m91 : Num 67108906 (cr q88) q88 := Num.eqn e88 (Sm.mul m57.sm m57.sm)
                obtain ⟨q92, e92⟩ := ex_eq ((Z1 + q86) + q88)
                refine cs1 (n_rat_Sum_3 (k0 := q92) (m10.mono (by decide)) (m90.mono (by decide)) (m91.mono (by decide)) e92) ?_
                refine itT rfl ?_
                refine itT rfl ?_
                refine cs0 (n_rat_Sign (m23.mono (by decide))) ?_
                refine primS (.bool true) (cs_gtr_t ((sg_gt Y0).2 c36)) ?_
                refine itT rfl ?_
                refine cs1 (n_warp_Density (k0 := q56) (m55.mono (by decide)) e56) ?_
                simp only [HH, gW, gD]
                refine cs1 (n_warp_Density (k0 := q58) (m57.mono (by decide)) e58) ?_
                refine primS (rl [(cr q79), (cr q92), (cr q92), (cr q56), (cr q58)]) rfl ?_
                have m94 : Num 134217815 (cr q92) q92 := Num.eqn e92 (Sm.add (Sm.add m10.sm m90.sm) m91.sm)
                have u95 : q68 = ((((q79 * q92) * q92) * q56) * q58) := (DensSlopes_al96 Y0 Y1 e12 e18 e13 e19 e14 e20 d53 e56 d54 e58 e26 e27 e28 e32 e35 e63 e64 d68 e72 e70 e75 d79 e86 e88 e92 e1 e3 e8 e37 c2 c4 z5 z6 z7 c11 c34 c36 c39 c44 c67 c78 c83 c84)
                refine cs1 (n_rat_Product_5 (k0 := q68) (m82.mono (by decide)) (m94.mono (by decide)) (m94.mono (by decide)) (m60.mono (by decide)) (m61.mono (by decide)) u95) ?_
                refine cs0 (n_penumbraref03_Is_t (m81.mono (by decide)) (m81.mono (by decide)) rfl) ?_
                simp only [HH, gW, gD]
                exact ret_step rfl
          · skip
            have hc97 : PureCalls prog F.dens_seen [.agg (gW [r0, r1, r2, r3, r4, r5]), .agg (gW [r6, r7, r8, r9, r10, r11]), .agg (gW [r12, r13, r14, r15, r16, r17, r18, r19, r20, r21, r22, r23])] [.agg (gD [Z1, Z0, Z0, Z0, Z1, Z0, Z0, Z0, Z1, q18, q19, q20, q20, q35]), .one (.bool false)] := by
              refine symFunc_sound hmix tree_dens_seen (by kernel_rfl) rfl ?_
              unfold ir_dens_seen
              simp only [HH, gW, gD]
              refine call_step (n_frame_Of_0 Ym2 Y0 Y1 (h3.mono (by decide)) (h4.mono (by decide)) (h5.mono (by decide)) e1 e3 c2 c4) rfl ?_
              simp only [HH, gW, gD]
              refine primS (.bool false) rfl ?_
              refine itF rfl ?_
              refine cs1 (n_vec_Dot_0w h9 h10 h11 h9 h10 h11 (by decide) e8) ?_
              refine cs1 (n_rat_Of (1) (1) (by decide) (by decide) (by decide) (by decide) (Y1.trans (by decide +kernel))) ?_
              refine cs0 (n_rat_Same_t (m9.mono (by decide)) (m10.mono (by decide)) c11) ?_
              simp only [HH, gW, gD]
              refine primS (.bool false) rfl ?_
              refine itF rfl ?_
              refine cs3 (n_affine_Apply_0w h12 h13 h14 h15 h16 h17 h18 h19 h20 h21 h22 h23 h6 h7 h8 (by decide) e12 e13 e14) ?_
              refine cs3 (n_vec_Sub_0w m15 m16 m17 h0 h1 h2 (by decide) e18 e19 e20) ?_
              refine cs1 (n_vec_Dot_0w m21 m22 m23 h3 h4 h5 (by decide) u24) ?_
              simp only [HH, gW, gD]
              refine cs3 (n_affine_Area_0w h12 h13 h14 h15 h16 h17 h18 h19 h20 h21 h22 h23 h9 h10 h11 (by decide) e26 e27 e28) ?_
              refine cs1 (n_vec_Dot_0w m29 m30 m31 m21 m22 m23 (by decide) e32) ?_
              refine cs1 (n_rat_Abs_t Y0 (m33.mono (by decide)) e35 c34) ?_
              simp only [HH, gW, gD]
              refine cs0 (n_rat_Sign (m23.mono (by decide))) ?_
              refine primS (.bool false) (cs_gtr_f (fun z => c36 ((sg_gt Y0).1 z))) ?_
              refine itF rfl ?_
              exact ret_step rfl
            have hc98 : PureCalls prog F.dens_Ahead [.agg (gW [r0, r1, r2, r3, r4, r5]), .agg (gW [r6, r7, r8, r9, r10, r11]), .agg (gW [r12, r13, r14, r15, r16, r17, r18, r19, r20, r21, r22, r23])] [.agg (gD [Z0])] := by
              refine symFunc_sound hmix tree_dens_Ahead (by kernel_rfl) rfl ?_
              unfold ir_dens_Ahead
              simp only [HH, gW, gD]
              refine call_step hc97 rfl ?_
              simp only [HH, gW, gD]
              refine primS (.bool true) rfl ?_
              refine itT rfl ?_
              refine cs1 (n_rat_Of (0) (1) (by decide) (by decide) (by decide) (by decide) (Y0.trans (by decide +kernel))) ?_
              exact ret_step rfl
            refine call_step hc98 rfl ?_
            simp only [HH, gW, gD]
            have hc99 : PureCalls prog F.dens_Transfer [.agg (gW [r0, r1, r2, r3, r4, r5]), .agg (gW [r6, r7, r8, r9, r10, r11]), .agg (gW [r12, r13, r14, r15, r16, r17, r18, r19, r20, r21, r22, r23])] [.agg (gD [Z0])] := by
              refine symFunc_sound hmix tree_dens_Transfer (by kernel_rfl) rfl ?_
              unfold ir_dens_Transfer
              simp only [HH, gW, gD]
              refine call_step hc97 rfl ?_
              simp only [HH, gW, gD]
              refine primS (.bool true) rfl ?_
              refine itT rfl ?_
              refine cs1 (n_rat_Of (0) (1) (by decide) (by decide) (by decide) (by decide) (Y0.trans (by decide +kernel))) ?_
              exact ret_step rfl
            refine call_step hc99 rfl ?_
            simp only [HH, gW, gD]
            refine cs0 n_penumbralaw16_fixed ?_
            refine primS (.bool false) rfl ?_
            refine itF rfl ?_
            have m100 : Num 1 (cr Z0) Z0 := Num.c Y0 (by decide +kernel) (by decide +kernel)
            refine cs0 (n_rat_Sign (m100.mono (by decide))) ?_
            refine primS (.bool false) (cs_lss_f (fun z => (Rat.lt_irrefl) ((sg_lt Y0).1 z))) ?_
            refine itF rfl ?_
            refine cs0 (n_rat_Sign (m100.mono (by decide))) ?_
            simp only [HH, gW, gD]
            refine primS (.bool false) (cs_lss_f (fun z => (Rat.lt_irrefl) ((sg_lt Y0).1 z))) ?_
            refine itF rfl ?_
            refine cs0 (n_rat_Sign (m100.mono (by decide))) ?_
            refine cs0 (n_rat_Sign (m100.mono (by decide))) ?_
            refine primS (.bool false) (ii_neq (sgn_z Y0 rfl) (sgn_z Y0 rfl) rfl) ?_
            refine itF rfl ?_
            refine cs0 (n_rat_Sign (m100.mono (by decide))) ?_
            simp only [HH, gW, gD]
            refine primS (.bool true) (cs_eql_t ((sg_eq Y0).2 rfl)) ?_
            refine itT rfl ?_
            exact ret_step rfl
        · skip
          by_cases c101 : Z0 < q20
          · skip
            obtain ⟨q102, e102⟩ := ex_eq (((x12 * ((x16 * x20) - (x17 * x19))) + (x13 * ((x17 * x18) - (x15 * x20)))) + (x14 * ((x15 * x19) - (x16 * x18))))
            have m103 : Num 15728645 (cr q102) q102 := Num.eqn e102 (Sm.add (Sm.add (Sm.mul h12.sm (Sm.sub (Sm.mul h16.sm h20.sm) (Sm.mul h17.sm h19.sm))) (Sm.mul h13.sm (Sm.sub (Sm.mul h17.sm h18.sm) (Sm.mul h15.sm h20.sm)))) (Sm.mul h14.sm (Sm.sub (Sm.mul h15.sm h19.sm) (Sm.mul h16.sm h18.sm))))
            by_cases c104 : q32 = Z0
            · skip
              have hc105 : PureCalls prog F.dens_seen [.agg (gW [r0, r1, r2, r3, r4, r5]), .agg (gW [r6, r7, r8, r9, r10, r11]), .agg (gW [r12, r13, r14, r15, r16, r17, r18, r19, r20, r21, r22, r23])] [.agg (gD [Z1, Z0, Z0, Z0, Z1, Z0, Z0, Z0, Z1, q18, q19, q20, q20, q32]), .one (.bool false)] := by
                refine symFunc_sound hmix tree_dens_seen (by kernel_rfl) rfl ?_
                unfold ir_dens_seen
                simp only [HH, gW, gD]
                refine call_step (n_frame_Of_0 Ym2 Y0 Y1 (h3.mono (by decide)) (h4.mono (by decide)) (h5.mono (by decide)) e1 e3 c2 c4) rfl ?_
                simp only [HH, gW, gD]
                refine primS (.bool false) rfl ?_
                refine itF rfl ?_
                refine cs1 (n_vec_Dot_0w h9 h10 h11 h9 h10 h11 (by decide) e8) ?_
                refine cs1 (n_rat_Of (1) (1) (by decide) (by decide) (by decide) (by decide) (Y1.trans (by decide +kernel))) ?_
                refine cs0 (n_rat_Same_t (m9.mono (by decide)) (m10.mono (by decide)) c11) ?_
                simp only [HH, gW, gD]
                refine primS (.bool false) rfl ?_
                refine itF rfl ?_
                refine cs3 (n_affine_Apply_0w h12 h13 h14 h15 h16 h17 h18 h19 h20 h21 h22 h23 h6 h7 h8 (by decide) e12 e13 e14) ?_
                refine cs3 (n_vec_Sub_0w m15 m16 m17 h0 h1 h2 (by decide) e18 e19 e20) ?_
                refine cs1 (n_vec_Dot_0w m21 m22 m23 h3 h4 h5 (by decide) u24) ?_
                simp only [HH, gW, gD]
                refine cs3 (n_affine_Area_0w h12 h13 h14 h15 h16 h17 h18 h19 h20 h21 h22 h23 h9 h10 h11 (by decide) e26 e27 e28) ?_
                refine cs1 (n_vec_Dot_0w m29 m30 m31 m21 m22 m23 (by decide) e32) ?_
                refine cs1 (n_rat_Abs_f Y0 (m33.mono (by decide)) c34) ?_
                simp only [HH, gW, gD]
                refine cs0 (n_rat_Sign (m23.mono (by decide))) ?_
                refine primS (.bool true) (cs_gtr_t ((sg_gt Y0).2 c101)) ?_
                refine itT rfl ?_
                refine cs0 (n_rat_Sign (m33.mono (by decide))) ?_
                refine cs1 (n_affine_Det_0w h12 h13 h14 h15 h16 h17 h18 h19 h20 h21 h22 h23 (by decide) e102) ?_
                simp only [HH, gW, gD]
                refine cs0 (n_rat_Sign (m103.mono (by decide))) ?_
                refine primS (.int .i64 (0)) (ii_mul0 (sgn_z Y0 c104)) ?_
                refine primS (.bool false) rfl ?_
                exact ret_step rfl
              have hc106 : PureCalls prog F.dens_Ahead [.agg (gW [r0, r1, r2, r3, r4, r5]), .agg (gW [r6, r7, r8, r9, r10, r11]), .agg (gW [r12, r13, r14, r15, r16, r17, r18, r19, r20, r21, r22, r23])] [.agg (gD [Z0])] := by
                refine symFunc_sound hmix tree_dens_Ahead (by kernel_rfl) rfl ?_
                unfold ir_dens_Ahead
                simp only [HH, gW, gD]
                refine call_step hc105 rfl ?_
                simp only [HH, gW, gD]
                refine primS (.bool true) rfl ?_
                refine itT rfl ?_
                refine cs1 (n_rat_Of (0) (1) (by decide) (by decide) (by decide) (by decide) (Y0.trans (by decide +kernel))) ?_
                exact ret_step rfl
              refine call_step hc106 rfl ?_
              simp only [HH, gW, gD]
              have hc107 : PureCalls prog F.dens_Transfer [.agg (gW [r0, r1, r2, r3, r4, r5]), .agg (gW [r6, r7, r8, r9, r10, r11]), .agg (gW [r12, r13, r14, r15, r16, r17, r18, r19, r20, r21, r22, r23])] [.agg (gD [Z0])] := by
                refine symFunc_sound hmix tree_dens_Transfer (by kernel_rfl) rfl ?_
                unfold ir_dens_Transfer
                simp only [HH, gW, gD]
                refine call_step hc105 rfl ?_
                simp only [HH, gW, gD]
                refine primS (.bool true) rfl ?_
                refine itT rfl ?_
                refine cs1 (n_rat_Of (0) (1) (by decide) (by decide) (by decide) (by decide) (Y0.trans (by decide +kernel))) ?_
                exact ret_step rfl
              refine call_step hc107 rfl ?_
              simp only [HH, gW, gD]
              refine cs0 n_penumbralaw16_fixed ?_
              refine primS (.bool false) rfl ?_
              refine itF rfl ?_
              have m108 : Num 1 (cr Z0) Z0 := Num.c Y0 (by decide +kernel) (by decide +kernel)
              refine cs0 (n_rat_Sign (m108.mono (by decide))) ?_
              refine primS (.bool false) (cs_lss_f (fun z => (Rat.lt_irrefl) ((sg_lt Y0).1 z))) ?_
              refine itF rfl ?_
              refine cs0 (n_rat_Sign (m108.mono (by decide))) ?_
              simp only [HH, gW, gD]
              refine primS (.bool false) (cs_lss_f (fun z => (Rat.lt_irrefl) ((sg_lt Y0).1 z))) ?_
              refine itF rfl ?_
              refine cs0 (n_rat_Sign (m108.mono (by decide))) ?_
              refine cs0 (n_rat_Sign (m108.mono (by decide))) ?_
              refine primS (.bool false) (ii_neq (sgn_z Y0 rfl) (sgn_z Y0 rfl) rfl) ?_
              refine itF rfl ?_
              refine cs0 (n_rat_Sign (m108.mono (by decide))) ?_
              simp only [HH, gW, gD]
              refine primS (.bool true) (cs_eql_t ((sg_eq Y0).2 rfl)) ?_
              refine itT rfl ?_
              exact ret_step rfl
            · skip
              by_cases c109 : q102 < Z0
              · skip
                have hc110 : PureCalls prog F.dens_seen [.agg (gW [r0, r1, r2, r3, r4, r5]), .agg (gW [r6, r7, r8, r9, r10, r11]), .agg (gW [r12, r13, r14, r15, r16, r17, r18, r19, r20, r21, r22, r23])] [.agg (gD [Z1, Z0, Z0, Z0, Z1, Z0, Z0, Z0, Z1, q18, q19, q20, q20, q32]), .one (.bool true)] := by
                  refine symFunc_sound hmix tree_dens_seen (by kernel_rfl) rfl ?_
                  unfold ir_dens_seen
                  simp only [HH, gW, gD]
                  refine call_step (n_frame_Of_0 Ym2 Y0 Y1 (h3.mono (by decide)) (h4.mono (by decide)) (h5.mono (by decide)) e1 e3 c2 c4) rfl ?_
                  simp only [HH, gW, gD]
                  refine primS (.bool false) rfl ?_
                  refine itF rfl ?_
                  refine cs1 (n_vec_Dot_0w h9 h10 h11 h9 h10 h11 (by decide) e8) ?_
                  refine cs1 (n_rat_Of (1) (1) (by decide) (by decide) (by decide) (by decide) (Y1.trans (by decide +kernel))) ?_
                  refine cs0 (n_rat_Same_t (m9.mono (by decide)) (m10.mono (by decide)) c11) ?_
                  simp only [HH, gW, gD]
                  refine primS (.bool false) rfl ?_
                  refine itF rfl ?_
                  refine cs3 (n_affine_Apply_0w h12 h13 h14 h15 h16 h17 h18 h19 h20 h21 h22 h23 h6 h7 h8 (by decide) e12 e13 e14) ?_
                  refine cs3 (n_vec_Sub_0w m15 m16 m17 h0 h1 h2 (by decide) e18 e19 e20) ?_
                  refine cs1 (n_vec_Dot_0w m21 m22 m23 h3 h4 h5 (by decide) u24) ?_
                  simp only [HH, gW, gD]
                  refine cs3 (n_affine_Area_0w h12 h13 h14 h15 h16 h17 h18 h19 h20 h21 h22 h23 h9 h10 h11 (by decide) e26 e27 e28) ?_
                  refine cs1 (n_vec_Dot_0w m29 m30 m31 m21 m22 m23 (by decide) e32) ?_
                  refine cs1 (n_rat_Abs_f Y0 (m33.mono (by decide)) c34) ?_
                  simp only [HH, gW, gD]
                  refine cs0 (n_rat_Sign (m23.mono (by decide))) ?_
                  refine primS (.bool true) (cs_gtr_t ((sg_gt Y0).2 c101)) ?_
                  refine itT rfl ?_
                  refine cs0 (n_rat_Sign (m33.mono (by decide))) ?_
                  refine cs1 (n_affine_Det_0w h12 h13 h14 h15 h16 h17 h18 h19 h20 h21 h22 h23 (by decide) e102) ?_
                  simp only [HH, gW, gD]
                  refine cs0 (n_rat_Sign (m103.mono (by decide))) ?_
                  refine primS (.int .i64 (-1)) (ii_mul (sgn_p Y0 c34 c104) (sgn_m Y0 c109) rfl) ?_
                  refine primS (.bool true) rfl ?_
                  exact ret_step rfl
                have m111 : Num 1 (cr Z0) Z0 := Num.c Y0 (by decide +kernel) (by decide +kernel)
                have u112 : q20 = (((q18 * Z0) + (q19 * Z0)) + (q20 * Z1)) := (DensSlopes_al52 Y0 Y1 e14 e20 e12 e18 e13 e19 c101)
                obtain ⟨q114, e114⟩ := ex_eq ((((q18 * Z1) + (q19 * Z0)) + (q20 * Z0)) / q20)
                have d114 := div_mul Y0 e114 (fun z => Rat.ne_of_lt c101 z.symm)
                obtain ⟨q115, e115⟩ := ex_eq ((((q18 * Z0) + (q19 * Z1)) + (q20 * Z0)) / q20)
                have d115 := div_mul Y0 e115 (fun z => Rat.ne_of_lt c101 z.symm)
                have m116 : Num 33554453 (cr q114) q114 := Num.eqn e114 (Sm.div (Sm.add (Sm.add (Sm.mul m21.sm m10.sm) (Sm.mul m22.sm m111.sm)) (Sm.mul m23.sm m111.sm)) m23.sm)
                obtain ⟨q117, e117⟩ := ex_eq (dns q114)
                have m118 : Num 33554453 (cr q115) q115 := Num.eqn e115 (Sm.div (Sm.add (Sm.add (Sm.mul m21.sm m111.sm) (Sm.mul m22.sm m10.sm)) (Sm.mul m23.sm m111.sm)) m23.sm)
                obtain ⟨q119, e119⟩ := ex_eq (dns q115)
                have m121 : Num 201326730 (cr q117) q117 := Num.eqn e117 (Sm.dns m116.sm)
                have m122 : Num 201326730 (cr q119) q119 := Num.eqn e119 (Sm.dns m118.sm)
                obtain ⟨q123, e123⟩ := ex_eq ((q117 * q119) * q32)
                obtain ⟨q124, e124⟩ := ex_eq ((q20 * q20) * q20)
                have m125 : Num 475005233 (cr q123) q123 := Num.eqn e123 (Sm.mul (Sm.mul m121.sm m122.sm) m33.sm)
                have m126 : Num 25165836 (cr q124) q124 := Num.eqn e124 (Sm.mul (Sm.mul m23.sm m23.sm) m23.sm)
                have c127 : ¬(q124 = Z0) := (fun z => Rat.ne_of_lt (s_mul_pp Y0 e124 (s_mul_pp Y0 rfl c101 c101) c101) z.symm)
                obtain ⟨q128, e128⟩ := ex_eq (q123 / q124)
                have d128 := div_mul Y0 e128 c127
                have hc129 : PureCalls prog F.dens_Ahead [.agg (gW [r0, r1, r2, r3, r4, r5]), .agg (gW [r6, r7, r8, r9, r10, r11]), .agg (gW [r12, r13, r14, r15, r16, r17, r18, r19, r20, r21, r22, r23])] [.agg (gD [q128])] := by
                  refine symFunc_sound hmix tree_dens_Ahead (by kernel_rfl) rfl ?_
                  unfold ir_dens_Ahead
                  simp only [HH, gW, gD]
                  refine call_step hc110 rfl ?_
                  simp only [HH, gW, gD]
                  refine primS (.bool false) rfl ?_
                  refine itF rfl ?_
                  refine call_step (n_frame_Slopes_1w Y0 m10 m111 m111 m111 m10 m111 m111 m111 m10 m21 m22 m23 (by decide) u112 e114 e115 (fun z => Rat.ne_of_lt c101 z.symm)) rfl ?_
                  simp only [HH, gW, gD]
                  refine cs1 (n_warp_Density (k0 := q117) (m116.mono (by decide)) e117) ?_
                  refine cs1 (n_warp_Density (k0 := q119) (m118.mono (by decide)) e119) ?_
                  refine primS (rl [(cr q117), (cr q119), (cr q32)]) rfl ?_
                  refine cs1 (n_rat_Product_3 (k0 := q123) (m121.mono (by decide)) (m122.mono (by decide)) (m33.mono (by decide)) e123) ?_
                  simp only [HH, gW, gD]
                  refine cs1 (n_dens_cube_0 (m23.mono (by decide)) e124) ?_
                  refine cs1 (n_dens_over_1 Y0 (m125.mono (by decide)) (m126.mono (by decide)) e128 c127) ?_
                  exact ret_step rfl
                refine call_step hc129 rfl ?_
                simp only [HH, gW, gD]
                obtain ⟨q130, e130⟩ := ex_eq (((q18 * q18) + (q19 * q19)) + (q20 * q20))
                obtain ⟨q132, e132⟩ := ex_eq (q20 * q32)
                have m134 : Num 50331674 (cr q130) q130 := Num.eqn e130 (Sm.add (Sm.add (Sm.mul m21.sm m21.sm) (Sm.mul m22.sm m22.sm)) (Sm.mul m23.sm m23.sm))
                obtain ⟨q135, e135⟩ := ex_eq (q130 * q130)
                have m136 : Num 80740385 (cr q132) q132 := Num.eqn e132 (Sm.mul m23.sm m33.sm)
                have m137 : Num 100663348 (cr q135) q135 := Num.eqn e135 (Sm.mul m134.sm m134.sm)
                have c138 : ¬(q135 = Z0) := (fun z => Rat.ne_of_lt (s_mul_pp Y0 e135 (s_add_wp Y0 e130 (s_add_ww Y0 rfl (s_sq_w (b := Z0) Y0 rfl) (s_sq_w (b := Z0) Y0 rfl)) (s_mul_pp Y0 rfl c101 c101)) (s_add_wp Y0 e130 (s_add_ww Y0 rfl (s_sq_w (b := Z0) Y0 rfl) (s_sq_w (b := Z0) Y0 rfl)) (s_mul_pp Y0 rfl c101 c101))) z.symm)
                obtain ⟨q139, e139⟩ := ex_eq (q132 / q135)
                have d139 := div_mul Y0 e139 c138
                have hc140 : PureCalls prog F.dens_Transfer [.agg (gW [r0, r1, r2, r3, r4, r5]), .agg (gW [r6, r7, r8, r9, r10, r11]), .agg (gW [r12, r13, r14, r15, r16, r17, r18, r19, r20, r21, r22, r23])] [.agg (gD [q139])] := by
                  refine symFunc_sound hmix tree_dens_Transfer (by kernel_rfl) rfl ?_
                  unfold ir_dens_Transfer
                  simp only [HH, gW, gD]
                  refine call_step hc110 rfl ?_
                  simp only [HH, gW, gD]
                  refine primS (.bool false) rfl ?_
                  refine itF rfl ?_
                  refine cs1 (n_vec_Dot_0w m21 m22 m23 m21 m22 m23 (by decide) e130) ?_
                  refine primS (rl [(cr q20), (cr q32)]) rfl ?_
                  refine cs1 (n_rat_Product_2 (k0 := q132) (m23.mono (by decide)) (m33.mono (by decide)) e132) ?_
                  refine primS (rl [(cr q130), (cr q130)]) rfl ?_
                  refine cs1 (n_rat_Product_2 (k0 := q135) (m134.mono (by decide)) (m134.mono (by decide)) e135) ?_
                  simp only [HH, gW, gD]
                  refine cs1 (n_dens_over_1 Y0 (m136.mono (by decide)) (m137.mono (by decide)) e139 c138) ?_
                  exact ret_step rfl
                refine call_step hc140 rfl ?_
                simp only [HH, gW, gD]
                refine cs0 n_penumbralaw16_fixed ?_
                refine primS (.bool false) rfl ?_
                refine itF rfl ?_
                have m141 : Num 500171069 (cr q128) q128 := Num.eqn e128 (Sm.div m125.sm m126.sm)
                refine cs0 (n_rat_Sign (m141.mono (by decide))) ?_
                refine primS (.bool false) (cs_lss_f (fun z => (t_wk (s_div_pp Y0 e128 (s_mul_pp Y0 e123 (s_mul_pp Y0 rfl (s_dns (b := Z0) Y0 e117) (s_dns (b := Z0) Y0 e119)) (t_lt c34 (fun z => c104 z.symm))) (s_mul_pp Y0 e124 (s_mul_pp Y0 rfl c101 c101) c101))) ((sg_lt Y0).1 z))) ?_
                refine itF rfl ?_
                have m142 : Num 181403733 (cr q139) q139 := Num.eqn e139 (Sm.div m136.sm m137.sm)
                refine cs0 (n_rat_Sign (m142.mono (by decide))) ?_
                simp only [HH, gW, gD]
                refine primS (.bool false) (cs_lss_f (fun z => (t_wk (s_div_pp Y0 e139 (s_mul_pp Y0 e132 c101 (t_lt c34 (fun z => c104 z.symm))) (s_mul_pp Y0 e135 (s_add_wp Y0 e130 (s_add_ww Y0 rfl (s_sq_w (b := Z0) Y0 rfl) (s_sq_w (b := Z0) Y0 rfl)) (s_mul_pp Y0 rfl c101 c101)) (s_add_wp Y0 e130 (s_add_ww Y0 rfl (s_sq_w (b := Z0) Y0 rfl) (s_sq_w (b := Z0) Y0 rfl)) (s_mul_pp Y0 rfl c101 c101))))) ((sg_lt Y0).1 z))) ?_
                refine itF rfl ?_
                refine cs0 (n_rat_Sign (m141.mono (by decide))) ?_
                refine cs0 (n_rat_Sign (m142.mono (by decide))) ?_
                have c143 : ¬(q128 = Z0) := (fun z => Rat.ne_of_lt (s_div_pp Y0 e128 (s_mul_pp Y0 e123 (s_mul_pp Y0 rfl (s_dns (b := Z0) Y0 e117) (s_dns (b := Z0) Y0 e119)) (t_lt c34 (fun z => c104 z.symm))) (s_mul_pp Y0 e124 (s_mul_pp Y0 rfl c101 c101) c101)) z.symm)
                have c144 : ¬(q139 = Z0) := (fun z => Rat.ne_of_lt (s_div_pp Y0 e139 (s_mul_pp Y0 e132 c101 (t_lt c34 (fun z => c104 z.symm))) (s_mul_pp Y0 e135 (s_add_wp Y0 e130 (s_add_ww Y0 rfl (s_sq_w (b := Z0) Y0 rfl) (s_sq_w (b := Z0) Y0 rfl)) (s_mul_pp Y0 rfl c101 c101)) (s_add_wp Y0 e130 (s_add_ww Y0 rfl (s_sq_w (b := Z0) Y0 rfl) (s_sq_w (b := Z0) Y0 rfl)) (s_mul_pp Y0 rfl c101 c101)))) z.symm)
                refine primS (.bool false) (ii_neq (sgn_p Y0 (t_wk (s_div_pp Y0 e128 (s_mul_pp Y0 e123 (s_mul_pp Y0 rfl (s_dns (b := Z0) Y0 e117) (s_dns (b := Z0) Y0 e119)) (t_lt c34 (fun z => c104 z.symm))) (s_mul_pp Y0 e124 (s_mul_pp Y0 rfl c101 c101) c101))) c143) (sgn_p Y0 (t_wk (s_div_pp Y0 e139 (s_mul_pp Y0 e132 c101 (t_lt c34 (fun z => c104 z.symm))) (s_mul_pp Y0 e135 (s_add_wp Y0 e130 (s_add_ww Y0 rfl (s_sq_w (b := Z0) Y0 rfl) (s_sq_w (b := Z0) Y0 rfl)) (s_mul_pp Y0 rfl c101 c101)) (s_add_wp Y0 e130 (s_add_ww Y0 rfl (s_sq_w (b := Z0) Y0 rfl) (s_sq_w (b := Z0) Y0 rfl)) (s_mul_pp Y0 rfl c101 c101))))) c144) rfl) ?_
                refine itF rfl ?_
                refine cs0 (n_rat_Sign (m141.mono (by decide))) ?_
                simp only [HH, gW, gD]
                refine primS (.bool false) (cs_eql_f (fun z => c143 ((sg_eq Y0).1 z))) ?_
                refine itF rfl ?_
                refine call_step (n_frame_Of_0 Ym2 Y0 Y1 (h3.mono (by decide)) (h4.mono (by decide)) (h5.mono (by decide)) e1 e3 c2 c4) rfl ?_
                simp only [HH, gW, gD]
                refine cs3 (n_affine_Apply_0w h12 h13 h14 h15 h16 h17 h18 h19 h20 h21 h22 h23 h6 h7 h8 (by decide) e12 e13 e14) ?_
                refine cs3 (n_vec_Sub_0w m15 m16 m17 h0 h1 h2 (by decide) e18 e19 e20) ?_
                refine call_step (n_frame_Slopes_1w Y0 m10 m111 m111 m111 m10 m111 m111 m111 m10 m21 m22 m23 (by decide) u112 e114 e115 (fun z => Rat.ne_of_lt c101 z.symm)) rfl ?_
                simp only [HH, gW, gD]
                refine cs1 (n_rat_Of (1) (1) (by decide) (by decide) (by decide) (by decide) (Y1.trans (by decide +kernel))) ?_
                refine primS (rl [(cr q114), (cr q114)]) rfl ?_
                obtain ⟨q146, e146⟩ := ex_eq (q114 * q114)
                refine cs1 (n_rat_Product_2 (k0 := q146) (m116.mono (by decide)) (m116.mono (by decide)) e146) ?_
                refine primS (rl [(cr q115), (cr q115)]) rfl ?_
                obtain ⟨q148, e148⟩ := ex_eq (q115 * q115)
                refine cs1 (n_rat_Product_2 (k0 := q148) (m118.mono (by decide)) (m118.mono (by decide)) e148) ?_
                simp only [HH, gW, gD]
                refine primS (rl [(cr Z1), (cr q146), (cr q148)]) rfl ?_
                have m150 : Num 67108906 (cr q146) q146 := Num.eqn e146 (Sm.mul m116.sm m116.sm)
                have m151 : Num 67108906 (cr q148) q148 := Num.eqn e148 (Sm.mul m118.sm m118.sm)
                obtain ⟨q152, e152⟩ := ex_eq ((Z1 + q146) + q148)
                refine cs1 (n_rat_Sum_3 (k0 := q152) (m10.mono (by decide)) (m150.mono (by decide)) (m151.mono (by decide)) e152) ?_
                refine itT rfl ?_
                refine itT rfl ?_
                refine cs0 (n_rat_Sign (m23.mono (by decide))) ?_
                refine primS (.bool true) (cs_gtr_t ((sg_gt Y0).2 c101)) ?_
                refine itT rfl ?_
                refine cs1 (n_warp_Density (k0 := q117) (m116.mono (by decide)) e117) ?_
                simp only [HH, gW, gD]
                refine cs1 (n_warp_Density (k0 := q119) (m118.mono (by decide)) e119) ?_
                refine primS (rl [(cr q139), (cr q152), (cr q152), (cr q117), (cr q119)]) rfl ?_
                have m154 : Num 134217815 (cr q152) q152 := Num.eqn e152 (Sm.add (Sm.add m10.sm m150.sm) m151.sm)
                have u155 : q128 = ((((q139 * q152) * q152) * q117) * q119) := (DensSlopes_al156 Y0 Y1 e12 e18 e13 e19 e14 e20 d114 e117 d115 e119 e26 e27 e28 e32 e123 e124 d128 e132 e130 e135 d139 e146 e148 e152 e1 e3 e8 e102 c2 c4 z5 z6 z7 c11 c34 c101 c104 c109 c127 c138 c143 c144)
                refine cs1 (n_rat_Product_5 (k0 := q128) (m142.mono (by decide)) (m154.mono (by decide)) (m154.mono (by decide)) (m121.mono (by decide)) (m122.mono (by decide)) u155) ?_
                refine cs0 (n_penumbraref03_Is_t (m141.mono (by decide)) (m141.mono (by decide)) rfl) ?_
                simp only [HH, gW, gD]
                exact ret_step rfl
              · skip
                by_cases c157 : q102 = Z0
                · skip
                  have hc158 : PureCalls prog F.dens_seen [.agg (gW [r0, r1, r2, r3, r4, r5]), .agg (gW [r6, r7, r8, r9, r10, r11]), .agg (gW [r12, r13, r14, r15, r16, r17, r18, r19, r20, r21, r22, r23])] [.agg (gD [Z1, Z0, Z0, Z0, Z1, Z0, Z0, Z0, Z1, q18, q19, q20, q20, q32]), .one (.bool false)] := by
                    refine symFunc_sound hmix tree_dens_seen (by kernel_rfl) rfl ?_
                    unfold ir_dens_seen
                    simp only [HH, gW, gD]
                    refine call_step (n_frame_Of_0 Ym2 Y0 Y1 (h3.mono (by decide)) (h4.mono (by decide)) (h5.mono (by decide)) e1 e3 c2 c4) rfl ?_
                    simp only [HH, gW, gD]
                    refine primS (.bool false) rfl ?_
                    refine itF rfl ?_
                    refine cs1 (n_vec_Dot_0w h9 h10 h11 h9 h10 h11 (by decide) e8) ?_
                    refine cs1 (n_rat_Of (1) (1) (by decide) (by decide) (by decide) (by decide) (Y1.trans (by decide +kernel))) ?_
                    refine cs0 (n_rat_Same_t (m9.mono (by decide)) (m10.mono (by decide)) c11) ?_
                    simp only [HH, gW, gD]
                    refine primS (.bool false) rfl ?_
                    refine itF rfl ?_
                    refine cs3 (n_affine_Apply_0w h12 h13 h14 h15 h16 h17 h18 h19 h20 h21 h22 h23 h6 h7 h8 (by decide) e12 e13 e14) ?_
                    refine cs3 (n_vec_Sub_0w m15 m16 m17 h0 h1 h2 (by decide) e18 e19 e20) ?_
                    refine cs1 (n_vec_Dot_0w m21 m22 m23 h3 h4 h5 (by decide) u24) ?_
                    simp only [HH, gW, gD]
                    refine cs3 (n_affine_Area_0w h12 h13 h14 h15 h16 h17 h18 h19 h20 h21 h22 h23 h9 h10 h11 (by decide) e26 e27 e28) ?_
                    refine cs1 (n_vec_Dot_0w m29 m30 m31 m21 m22 m23 (by decide) e32) ?_
                    refine cs1 (n_rat_Abs_f Y0 (m33.mono (by decide)) c34) ?_
                    simp only [HH, gW, gD]
                    refine cs0 (n_rat_Sign (m23.mono (by decide))) ?_
                    refine primS (.bool true) (cs_gtr_t ((sg_gt Y0).2 c101)) ?_
                    refine itT rfl ?_
                    refine cs0 (n_rat_Sign (m33.mono (by decide))) ?_
                    refine cs1 (n_affine_Det_0w h12 h13 h14 h15 h16 h17 h18 h19 h20 h21 h22 h23 (by decide) e102) ?_
                    simp only [HH, gW, gD]
                    refine cs0 (n_rat_Sign (m103.mono (by decide))) ?_
                    refine primS (.int .i64 (0)) (ii_mul (sgn_p Y0 c34 c104) (sgn_z Y0 c157) rfl) ?_
                    refine primS (.bool false) rfl ?_
                    exact ret_step rfl
                  have hc159 : PureCalls prog F.dens_Ahead [.agg (gW [r0, r1, r2, r3, r4, r5]), .agg (gW [r6, r7, r8, r9, r10, r11]), .agg (gW [r12, r13, r14, r15, r16, r17, r18, r19, r20, r21, r22, r23])] [.agg (gD [Z0])] := by
                    refine symFunc_sound hmix tree_dens_Ahead (by kernel_rfl) rfl ?_
                    unfold ir_dens_Ahead
                    simp only [HH, gW, gD]
                    refine call_step hc158 rfl ?_
                    simp only [HH, gW, gD]
                    refine primS (.bool true) rfl ?_
                    refine itT rfl ?_
                    refine cs1 (n_rat_Of (0) (1) (by decide) (by decide) (by decide) (by decide) (Y0.trans (by decide +kernel))) ?_
                    exact ret_step rfl
                  refine call_step hc159 rfl ?_
                  simp only [HH, gW, gD]
                  have hc160 : PureCalls prog F.dens_Transfer [.agg (gW [r0, r1, r2, r3, r4, r5]), .agg (gW [r6, r7, r8, r9, r10, r11]), .agg (gW [r12, r13, r14, r15, r16, r17, r18, r19, r20, r21, r22, r23])] [.agg (gD [Z0])] := by
                    refine symFunc_sound hmix tree_dens_Transfer (by kernel_rfl) rfl ?_
                    unfold ir_dens_Transfer
                    simp only [HH, gW, gD]
                    refine call_step hc158 rfl ?_
                    simp only [HH, gW, gD]
                    refine primS (.bool true) rfl ?_
                    refine itT rfl ?_
                    refine cs1 (n_rat_Of (0) (1) (by decide) (by decide) (by decide) (by decide) (Y0.trans (by decide +kernel))) ?_
                    exact ret_step rfl
                  refine call_step hc160 rfl ?_
                  simp only [HH, gW, gD]
                  refine cs0 n_penumbralaw16_fixed ?_
                  refine primS (.bool false) rfl ?_
                  refine itF rfl ?_
                  have m161 : Num 1 (cr Z0) Z0 := Num.c Y0 (by decide +kernel) (by decide +kernel)
                  refine cs0 (n_rat_Sign (m161.mono (by decide))) ?_
                  refine primS (.bool false) (cs_lss_f (fun z => (Rat.lt_irrefl) ((sg_lt Y0).1 z))) ?_
                  refine itF rfl ?_
                  refine cs0 (n_rat_Sign (m161.mono (by decide))) ?_
                  simp only [HH, gW, gD]
                  refine primS (.bool false) (cs_lss_f (fun z => (Rat.lt_irrefl) ((sg_lt Y0).1 z))) ?_
                  refine itF rfl ?_
                  refine cs0 (n_rat_Sign (m161.mono (by decide))) ?_
                  refine cs0 (n_rat_Sign (m161.mono (by decide))) ?_
                  refine primS (.bool false) (ii_neq (sgn_z Y0 rfl) (sgn_z Y0 rfl) rfl) ?_
                  refine itF rfl ?_
                  refine cs0 (n_rat_Sign (m161.mono (by decide))) ?_
                  simp only [HH, gW, gD]
                  refine primS (.bool true) (cs_eql_t ((sg_eq Y0).2 rfl)) ?_
                  refine itT rfl ?_
                  exact ret_step rfl
                · skip
                  have hc162 : PureCalls prog F.dens_seen [.agg (gW [r0, r1, r2, r3, r4, r5]), .agg (gW [r6, r7, r8, r9, r10, r11]), .agg (gW [r12, r13, r14, r15, r16, r17, r18, r19, r20, r21, r22, r23])] [.agg (gD [Z1, Z0, Z0, Z0, Z1, Z0, Z0, Z0, Z1, q18, q19, q20, q20, q32]), .one (.bool false)] := by
                    refine symFunc_sound hmix tree_dens_seen (by kernel_rfl) rfl ?_
                    unfold ir_dens_seen
                    simp only [HH, gW, gD]
                    refine call_step (n_frame_Of_0 Ym2 Y0 Y1 (h3.mono (by decide)) (h4.mono (by decide)) (h5.mono (by decide)) e1 e3 c2 c4) rfl ?_
                    simp only [HH, gW, gD]
                    refine primS (.bool false) rfl ?_
                    refine itF rfl ?_
                    refine cs1 (n_vec_Dot_0w h9 h10 h11 h9 h10 h11 (by decide) e8) ?_
                    refine cs1 (n_rat_Of (1) (1) (by decide) (by decide) (by decide) (by decide) (Y1.trans (by decide +kernel))) ?_
                    refine cs0 (n_rat_Same_t (m9.mono (by decide)) (m10.mono (by decide)) c11) ?_
                    simp only [HH, gW, gD]
                    refine primS (.bool false) rfl ?_
                    refine itF rfl ?_
                    refine cs3 (n_affine_Apply_0w h12 h13 h14 h15 h16 h17 h18 h19 h20 h21 h22 h23 h6 h7 h8 (by decide) e12 e13 e14) ?_
                    refine cs3 (n_vec_Sub_0w m15 m16 m17 h0 h1 h2 (by decide) e18 e19 e20) ?_
                    refine cs1 (n_vec_Dot_0w m21 m22 m23 h3 h4 h5 (by decide) u24) ?_
                    simp only [HH, gW, gD]
                    refine cs3 (n_affine_Area_0w h12 h13 h14 h15 h16 h17 h18 h19 h20 h21 h22 h23 h9 h10 h11 (by decide) e26 e27 e28) ?_
                    refine cs1 (n_vec_Dot_0w m29 m30 m31 m21 m22 m23 (by decide) e32) ?_
                    refine cs1 (n_rat_Abs_f Y0 (m33.mono (by decide)) c34) ?_
                    simp only [HH, gW, gD]
                    refine cs0 (n_rat_Sign (m23.mono (by decide))) ?_
                    refine primS (.bool true) (cs_gtr_t ((sg_gt Y0).2 c101)) ?_
                    refine itT rfl ?_
                    refine cs0 (n_rat_Sign (m33.mono (by decide))) ?_
                    refine cs1 (n_affine_Det_0w h12 h13 h14 h15 h16 h17 h18 h19 h20 h21 h22 h23 (by decide) e102) ?_
                    simp only [HH, gW, gD]
                    refine cs0 (n_rat_Sign (m103.mono (by decide))) ?_
                    refine primS (.int .i64 (1)) (ii_mul (sgn_p Y0 c34 c104) (sgn_p Y0 c109 c157) rfl) ?_
                    refine primS (.bool false) rfl ?_
                    exact ret_step rfl
                  have hc163 : PureCalls prog F.dens_Ahead [.agg (gW [r0, r1, r2, r3, r4, r5]), .agg (gW [r6, r7, r8, r9, r10, r11]), .agg (gW [r12, r13, r14, r15, r16, r17, r18, r19, r20, r21, r22, r23])] [.agg (gD [Z0])] := by
                    refine symFunc_sound hmix tree_dens_Ahead (by kernel_rfl) rfl ?_
                    unfold ir_dens_Ahead
                    simp only [HH, gW, gD]
                    refine call_step hc162 rfl ?_
                    simp only [HH, gW, gD]
                    refine primS (.bool true) rfl ?_
                    refine itT rfl ?_
                    refine cs1 (n_rat_Of (0) (1) (by decide) (by decide) (by decide) (by decide) (Y0.trans (by decide +kernel))) ?_
                    exact ret_step rfl
                  refine call_step hc163 rfl ?_
                  simp only [HH, gW, gD]
                  have hc164 : PureCalls prog F.dens_Transfer [.agg (gW [r0, r1, r2, r3, r4, r5]), .agg (gW [r6, r7, r8, r9, r10, r11]), .agg (gW [r12, r13, r14, r15, r16, r17, r18, r19, r20, r21, r22, r23])] [.agg (gD [Z0])] := by
                    refine symFunc_sound hmix tree_dens_Transfer (by kernel_rfl) rfl ?_
                    unfold ir_dens_Transfer
                    simp only [HH, gW, gD]
                    refine call_step hc162 rfl ?_
                    simp only [HH, gW, gD]
                    refine primS (.bool true) rfl ?_
                    refine itT rfl ?_
                    refine cs1 (n_rat_Of (0) (1) (by decide) (by decide) (by decide) (by decide) (Y0.trans (by decide +kernel))) ?_
                    exact ret_step rfl
                  refine call_step hc164 rfl ?_
                  simp only [HH, gW, gD]
                  refine cs0 n_penumbralaw16_fixed ?_
                  refine primS (.bool false) rfl ?_
                  refine itF rfl ?_
                  have m165 : Num 1 (cr Z0) Z0 := Num.c Y0 (by decide +kernel) (by decide +kernel)
                  refine cs0 (n_rat_Sign (m165.mono (by decide))) ?_
                  refine primS (.bool false) (cs_lss_f (fun z => (Rat.lt_irrefl) ((sg_lt Y0).1 z))) ?_
                  refine itF rfl ?_
                  refine cs0 (n_rat_Sign (m165.mono (by decide))) ?_
                  simp only [HH, gW, gD]
                  refine primS (.bool false) (cs_lss_f (fun z => (Rat.lt_irrefl) ((sg_lt Y0).1 z))) ?_
                  refine itF rfl ?_
                  refine cs0 (n_rat_Sign (m165.mono (by decide))) ?_
                  refine cs0 (n_rat_Sign (m165.mono (by decide))) ?_
                  refine primS (.bool false) (ii_neq (sgn_z Y0 rfl) (sgn_z Y0 rfl) rfl) ?_
                  refine itF rfl ?_
                  refine cs0 (n_rat_Sign (m165.mono (by decide))) ?_
                  simp only [HH, gW, gD]
                  refine primS (.bool true) (cs_eql_t ((sg_eq Y0).2 rfl)) ?_
                  refine itT rfl ?_
                  exact ret_step rfl
          · skip
            have hc166 : PureCalls prog F.dens_seen [.agg (gW [r0, r1, r2, r3, r4, r5]), .agg (gW [r6, r7, r8, r9, r10, r11]), .agg (gW [r12, r13, r14, r15, r16, r17, r18, r19, r20, r21, r22, r23])] [.agg (gD [Z1, Z0, Z0, Z0, Z1, Z0, Z0, Z0, Z1, q18, q19, q20, q20, q32]), .one (.bool false)] := by
              refine symFunc_sound hmix tree_dens_seen (by kernel_rfl) rfl ?_
              unfold ir_dens_seen
              simp only [HH, gW, gD]
              refine call_step (n_frame_Of_0 Ym2 Y0 Y1 (h3.mono (by decide)) (h4.mono (by decide)) (h5.mono (by decide)) e1 e3 c2 c4) rfl ?_
              simp only [HH, gW, gD]
              refine primS (.bool false) rfl ?_
              refine itF rfl ?_
              refine cs1 (n_vec_Dot_0w h9 h10 h11 h9 h10 h11 (by decide) e8) ?_
              refine cs1 (n_rat_Of (1) (1) (by decide) (by decide) (by decide) (by decide) (Y1.trans (by decide +kernel))) ?_
              refine cs0 (n_rat_Same_t (m9.mono (by decide)) (m10.mono (by decide)) c11) ?_
              simp only [HH, gW, gD]
              refine primS (.bool false) rfl ?_
              refine itF rfl ?_
              refine cs3 (n_affine_Apply_0w h12 h13 h14 h15 h16 h17 h18 h19 h20 h21 h22 h23 h6 h7 h8 (by decide) e12 e13 e14) ?_
              refine cs3 (n_vec_Sub_0w m15 m16 m17 h0 h1 h2 (by decide) e18 e19 e20) ?_
              refine cs1 (n_vec_Dot_0w m21 m22 m23 h3 h4 h5 (by decide) u24) ?_
              simp only [HH, gW, gD]
              refine cs3 (n_affine_Area_0w h12 h13 h14 h15 h16 h17 h18 h19 h20 h21 h22 h23 h9 h10 h11 (by decide) e26 e27 e28) ?_
              refine cs1 (n_vec_Dot_0w m29 m30 m31 m21 m22 m23 (by decide) e32) ?_
              refine cs1 (n_rat_Abs_f Y0 (m33.mono (by decide)) c34) ?_
              simp only [HH, gW, gD]
              refine cs0 (n_rat_Sign (m23.mono (by decide))) ?_
              refine primS (.bool false) (cs_gtr_f (fun z => c101 ((sg_gt Y0).1 z))) ?_
              refine itF rfl ?_
              exact ret_step rfl
            have hc167 : PureCalls prog F.dens_Ahead [.agg (gW [r0, r1, r2, r3, r4, r5]), .agg (gW [r6, r7, r8, r9, r10, r11]), .agg (gW [r12, r13, r14, r15, r16, r17, r18, r19, r20, r21, r22, r23])] [.agg (gD [Z0])] := by
              refine symFunc_sound hmix tree_dens_Ahead (by kernel_rfl) rfl ?_
              unfold ir_dens_Ahead
              simp only [HH, gW, gD]
              refine call_step hc166 rfl ?_
              simp only [HH, gW, gD]
              refine primS (.bool true) rfl ?_
              refine itT rfl ?_
              refine cs1 (n_rat_Of (0) (1) (by decide) (by decide) (by decide) (by decide) (Y0.trans (by decide +kernel))) ?_
              exact ret_step rfl
            refine call_step hc167 rfl ?_
            simp only [HH, gW, gD]
            have hc168 : PureCalls prog F.dens_Transfer [.agg (gW [r0, r1, r2, r3, r4, r5]), .agg (gW [r6, r7, r8, r9, r10, r11]), .agg (gW [r12, r13, r14, r15, r16, r17, r18, r19, r20, r21, r22, r23])] [.agg (gD [Z0])] := by
              refine symFunc_sound hmix tree_dens_Transfer (by kernel_rfl) rfl ?_
              unfold ir_dens_Transfer
              simp only [HH, gW, gD]
              refine call_step hc166 rfl ?_
              simp only [HH, gW, gD]
              refine primS (.bool true) rfl ?_
              refine itT rfl ?_
              refine cs1 (n_rat_Of (0) (1) (by decide) (by decide) (by decide) (by decide) (Y0.trans (by decide +kernel))) ?_
              exact ret_step rfl
            refine call_step hc168 rfl ?_
            simp only [HH, gW, gD]
            refine cs0 n_penumbralaw16_fixed ?_
            refine primS (.bool false) rfl ?_
            refine itF rfl ?_
            have m169 : Num 1 (cr Z0) Z0 := Num.c Y0 (by decide +kernel) (by decide +kernel)
            refine cs0 (n_rat_Sign (m169.mono (by decide))) ?_
            refine primS (.bool false) (cs_lss_f (fun z => (Rat.lt_irrefl) ((sg_lt Y0).1 z))) ?_
            refine itF rfl ?_
            refine cs0 (n_rat_Sign (m169.mono (by decide))) ?_
            simp only [HH, gW, gD]
            refine primS (.bool false) (cs_lss_f (fun z => (Rat.lt_irrefl) ((sg_lt Y0).1 z))) ?_
            refine itF rfl ?_
            refine cs0 (n_rat_Sign (m169.mono (by decide))) ?_
            refine cs0 (n_rat_Sign (m169.mono (by decide))) ?_
            refine primS (.bool false) (ii_neq (sgn_z Y0 rfl) (sgn_z Y0 rfl) rfl) ?_
            refine itF rfl ?_
            refine cs0 (n_rat_Sign (m169.mono (by decide))) ?_
            simp only [HH, gW, gD]
            refine primS (.bool true) (cs_eql_t ((sg_eq Y0).2 rfl)) ?_
            refine itT rfl ?_
            exact ret_step rfl
      · skip
        have hc170 : PureCalls prog F.dens_seen [.agg (gW [r0, r1, r2, r3, r4, r5]), .agg (gW [r6, r7, r8, r9, r10, r11]), .agg (gW [r12, r13, r14, r15, r16, r17, r18, r19, r20, r21, r22, r23])] [.agg (gW [rz, rz, rz, rz, rz, rz, rz, rz, rz, rz, rz, rz, rz, rz]), .one (.bool false)] := by
          refine symFunc_sound hmix tree_dens_seen (by kernel_rfl) rfl ?_
          unfold ir_dens_seen
          simp only [HH, gW, gD]
          refine call_step (n_frame_Of_0 Ym2 Y0 Y1 (h3.mono (by decide)) (h4.mono (by decide)) (h5.mono (by decide)) e1 e3 c2 c4) rfl ?_
          simp only [HH, gW, gD]
          refine primS (.bool false) rfl ?_
          refine itF rfl ?_
          refine cs1 (n_vec_Dot_0w h9 h10 h11 h9 h10 h11 (by decide) e8) ?_
          refine cs1 (n_rat_Of (1) (1) (by decide) (by decide) (by decide) (by decide) (Y1.trans (by decide +kernel))) ?_
          refine cs0 (n_rat_Same_f (m9.mono (by decide)) (m10.mono (by decide)) c11) ?_
          simp only [HH, gW, gD]
          refine primS (.bool true) rfl ?_
          refine itT rfl ?_
          exact ret_step rfl
        have hc171 : PureCalls prog F.dens_Ahead [.agg (gW [r0, r1, r2, r3, r4, r5]), .agg (gW [r6, r7, r8, r9, r10, r11]), .agg (gW [r12, r13, r14, r15, r16, r17, r18, r19, r20, r21, r22, r23])] [.agg (gD [Z0])] := by
          refine symFunc_sound hmix tree_dens_Ahead (by kernel_rfl) rfl ?_
          unfold ir_dens_Ahead
          simp only [HH, gW, gD]
          refine call_step hc170 rfl ?_
          simp only [HH, gW, gD]
          refine primS (.bool true) rfl ?_
          refine itT rfl ?_
          refine cs1 (n_rat_Of (0) (1) (by decide) (by decide) (by decide) (by decide) (Y0.trans (by decide +kernel))) ?_
          exact ret_step rfl
        refine call_step hc171 rfl ?_
        simp only [HH, gW, gD]
        have hc172 : PureCalls prog F.dens_Transfer [.agg (gW [r0, r1, r2, r3, r4, r5]), .agg (gW [r6, r7, r8, r9, r10, r11]), .agg (gW [r12, r13, r14, r15, r16, r17, r18, r19, r20, r21, r22, r23])] [.agg (gD [Z0])] := by
          refine symFunc_sound hmix tree_dens_Transfer (by kernel_rfl) rfl ?_
          unfold ir_dens_Transfer
          simp only [HH, gW, gD]
          refine call_step hc170 rfl ?_
          simp only [HH, gW, gD]
          refine primS (.bool true) rfl ?_
          refine itT rfl ?_
          refine cs1 (n_rat_Of (0) (1) (by decide) (by decide) (by decide) (by decide) (Y0.trans (by decide +kernel))) ?_
          exact ret_step rfl
        refine call_step hc172 rfl ?_
        simp only [HH, gW, gD]
        refine cs0 n_penumbralaw16_fixed ?_
        refine primS (.bool false) rfl ?_
        refine itF rfl ?_
        have m173 : Num 1 (cr Z0) Z0 := Num.c Y0 (by decide +kernel) (by decide +kernel)
        refine cs0 (n_rat_Sign (m173.mono (by decide))) ?_
        refine primS (.bool false) (cs_lss_f (fun z => (Rat.lt_irrefl) ((sg_lt Y0).1 z))) ?_
        refine itF rfl ?_
        refine cs0 (n_rat_Sign (m173.mono (by decide))) ?_
        simp only [HH, gW, gD]
        refine primS (.bool false) (cs_lss_f (fun z => (Rat.lt_irrefl) ((sg_lt Y0).1 z))) ?_
        refine itF rfl ?_
        refine cs0 (n_rat_Sign (m173.mono (by decide))) ?_
        refine cs0 (n_rat_Sign (m173.mono (by decide))) ?_
        refine primS (.bool false) (ii_neq (sgn_z Y0 rfl) (sgn_z Y0 rfl) rfl) ?_
        refine itF rfl ?_
        refine cs0 (n_rat_Sign (m173.mono (by decide))) ?_
        simp only [HH, gW, gD]
        refine primS (.bool true) (cs_eql_t ((sg_eq Y0).2 rfl)) ?_
        refine itT rfl ?_
        exact ret_step rfl
    · skip
      obtain ⟨q174, e174⟩ := ex_eq (Zm2 / q3)
      have d174 := div_mul Y0 e174 c4
      obtain ⟨q175, e175⟩ := ex_eq (Z1 + ((q174 * (Z0 - x3)) * (Z0 - x3)))
      obtain ⟨q176, e176⟩ := ex_eq (Z0 + ((q174 * (Z0 - x3)) * (Z0 - x4)))
      have u177 : x3 = (Z0 + ((q174 * (Z0 - x3)) * (Z1 - x5))) := (DensSlopes_al178 Ym2 Y0 Y1 e3 d174 e1 c2 c4)
      have u179 : q176 = (Z0 + ((q174 * (Z0 - x4)) * (Z0 - x3))) := (DensSlopes_al180 Ym2 Y0 Y1 e3 d174 e176 e1 c2 c4)
      obtain ⟨q181, e181⟩ := ex_eq (Z1 + ((q174 * (Z0 - x4)) * (Z0 - x4)))
      have u182 : x4 = (Z0 + ((q174 * (Z0 - x4)) * (Z1 - x5))) := (DensSlopes_al183 Ym2 Y0 Y1 e3 d174 e1 c2 c4)
      obtain ⟨q184, e184⟩ := ex_eq (((x9 * x9) + (x10 * x10)) + (x11 * x11))
      have m185 : Num 6291458 (cr q184) q184 := Num.eqn e184 (Sm.add (Sm.add (Sm.mul h9.sm h9.sm) (Sm.mul h10.sm h10.sm)) (Sm.mul h11.sm h11.sm))
      have m186 : Num 1 (cr Z1) Z1 := Num.c Y1 (by decide +kernel) (by decide +kernel)
      by_cases c187 : q184 = Z1
      · skip
        obtain ⟨q188, e188⟩ := ex_eq ((((x12 * x6) + (x13 * x7)) + (x14 * x8)) + x21)
        obtain ⟨q189, e189⟩ := ex_eq ((((x15 * x6) + (x16 * x7)) + (x17 * x8)) + x22)
        obtain ⟨q190, e190⟩ := ex_eq ((((x18 * x6) + (x19 * x7)) + (x20 * x8)) + x23)
        have m191 : Num 7340035 (cr q188) q188 := Num.eqn e188 (Sm.add (Sm.add (Sm.add (Sm.mul h12.sm h6.sm) (Sm.mul h13.sm h7.sm)) (Sm.mul h14.sm h8.sm)) h21.sm)
        have m192 : Num 7340035 (cr q189) q189 := Num.eqn e189 (Sm.add (Sm.add (Sm.add (Sm.mul h15.sm h6.sm) (Sm.mul h16.sm h7.sm)) (Sm.mul h17.sm h8.sm)) h22.sm)
        have m193 : Num 7340035 (cr q190) q190 := Num.eqn e190 (Sm.add (Sm.add (Sm.add (Sm.mul h18.sm h6.sm) (Sm.mul h19.sm h7.sm)) (Sm.mul h20.sm h8.sm)) h23.sm)
        obtain ⟨q194, e194⟩ := ex_eq (q188 - x0)
        obtain ⟨q195, e195⟩ := ex_eq (q189 - x1)
        obtain ⟨q196, e196⟩ := ex_eq (q190 - x2)
        have m197 : Num 8388612 (cr q194) q194 := Num.eqn e194 (Sm.sub m191.sm h0.sm)
        have m198 : Num 8388612 (cr q195) q195 := Num.eqn e195 (Sm.sub m192.sm h1.sm)
        have m199 : Num 8388612 (cr q196) q196 := Num.eqn e196 (Sm.sub m193.sm h2.sm)
        obtain ⟨q200, e200⟩ := ex_eq (((q194 * x3) + (q195 * x4)) + (q196 * x5))
        obtain ⟨q201, e201⟩ := ex_eq (((((x16 * x20) - (x17 * x19)) * x9) + (((x17 * x18) - (x15 * x20)) * x10)) + (((x15 * x19) - (x16 * x18)) * x11))
        obtain ⟨q202, e202⟩ := ex_eq (((((x19 * x14) - (x20 * x13)) * x9) + (((x20 * x12) - (x18 * x14)) * x10)) + (((x18 * x13) - (x19 * x12)) * x11))
        obtain ⟨q203, e203⟩ := ex_eq (((((x13 * x17) - (x14 * x16)) * x9) + (((x14 * x15) - (x12 * x17)) * x10)) + (((x12 * x16) - (x13 * x15)) * x11))
        have m204 : Num 15728645 (cr q201) q201 := Num.eqn e201 (Sm.add (Sm.add (Sm.mul (Sm.sub (Sm.mul h16.sm h20.sm) (Sm.mul h17.sm h19.sm)) h9.sm) (Sm.mul (Sm.sub (Sm.mul h17.sm h18.sm) (Sm.mul h15.sm h20.sm)) h10.sm)) (Sm.mul (Sm.sub (Sm.mul h15.sm h19.sm) (Sm.mul h16.sm h18.sm)) h11.sm))
        have m205 : Num 15728645 (cr q202) q202 := Num.eqn e202 (Sm.add (Sm.add (Sm.mul (Sm.sub (Sm.mul h19.sm h14.sm) (Sm.mul h20.sm h13.sm)) h9.sm) (Sm.mul (Sm.sub (Sm.mul h20.sm h12.sm) (Sm.mul h18.sm h14.sm)) h10.sm)) (Sm.mul (Sm.sub (Sm.mul h18.sm h13.sm) (Sm.mul h19.sm h12.sm)) h11.sm))
        have m206 : Num 15728645 (cr q203) q203 := Num.eqn e203 (Sm.add (Sm.add (Sm.mul (Sm.sub (Sm.mul h13.sm h17.sm) (Sm.mul h14.sm h16.sm)) h9.sm) (Sm.mul (Sm.sub (Sm.mul h14.sm h15.sm) (Sm.mul h12.sm h17.sm)) h10.sm)) (Sm.mul (Sm.sub (Sm.mul h12.sm h16.sm) (Sm.mul h13.sm h15.sm)) h11.sm))
        obtain ⟨q207, e207⟩ := ex_eq (((q201 * q194) + (q202 * q195)) + (q203 * q196))
        have m208 : Num 72351773 (cr q207) q207 := Num.eqn e207 (Sm.add (Sm.add (Sm.mul m204.sm m197.sm) (Sm.mul m205.sm m198.sm)) (Sm.mul m206.sm m199.sm))
        by_cases c209 : q207 < Z0
        · skip
          obtain ⟨q210, e210⟩ := ex_eq (-q207)
          have m211 : Num 28311566 (cr q200) q200 := Num.eqn e200 (Sm.add (Sm.add (Sm.mul m197.sm h3.sm) (Sm.mul m198.sm h4.sm)) (Sm.mul m199.sm h5.sm))
          by_cases c212 : Z0 < q200
          · skip
            obtain ⟨q213, e213⟩ := ex_eq (((x12 * ((x16 * x20) - (x17 * x19))) + (x13 * ((x17 * x18) - (x15 * x20)))) + (x14 * ((x15 * x19) - (x16 * x18))))
            have m214 : Num 15728645 (cr q213) q213 := Num.eqn e213 (Sm.add (Sm.add (Sm.mul h12.sm (Sm.sub (Sm.mul h16.sm h20.sm) (Sm.mul h17.sm h19.sm))) (Sm.mul h13.sm (Sm.sub (Sm.mul h17.sm h18.sm) (Sm.mul h15.sm h20.sm)))) (Sm.mul h14.sm (Sm.sub (Sm.mul h15.sm h19.sm) (Sm.mul h16.sm h18.sm))))
            by_cases c215 : q213 < Z0
            · skip
              have hc216 : PureCalls prog F.dens_seen [.agg (gW [r0, r1, r2, r3, r4, r5]), .agg (gW [r6, r7, r8, r9, r10, r11]), .agg (gW [r12, r13, r14, r15, r16, r17, r18, r19, r20, r21, r22, r23])] [.agg (gD [q175, q176, x3, q176, q181, x4, x3, x4, x5, q194, q195, q196, q200, q210]), .one (.bool false)] := by
                refine symFunc_sound hmix tree_dens_seen (by kernel_rfl) rfl ?_
                unfold ir_dens_seen
                simp only [HH, gW, gD]
                refine call_step (n_frame_Of_1 Ym2 Y0 Y1 (h3.mono (by decide)) (h4.mono (by decide)) (h5.mono (by decide)) e1 e3 e174 e175 e176 u177 u179 e181 u182 c2 c4) rfl ?_
                simp only [HH, gW, gD]
                refine primS (.bool false) rfl ?_
                refine itF rfl ?_
                refine cs1 (n_vec_Dot_0w h9 h10 h11 h9 h10 h11 (by decide) e184) ?_
                refine cs1 (n_rat_Of (1) (1) (by decide) (by decide) (by decide) (by decide) (Y1.trans (by decide +kernel))) ?_
                refine cs0 (n_rat_Same_t (m185.mono (by decide)) (m186.mono (by decide)) c187) ?_
                simp only [HH, gW, gD]
                refine primS (.bool false) rfl ?_
                refine itF rfl ?_
                refine cs3 (n_affine_Apply_0w h12 h13 h14 h15 h16 h17 h18 h19 h20 h21 h22 h23 h6 h7 h8 (by decide) e188 e189 e190) ?_
                refine cs3 (n_vec_Sub_0w m191 m192 m193 h0 h1 h2 (by decide) e194 e195 e196) ?_
                refine cs1 (n_vec_Dot_0w m197 m198 m199 h3 h4 h5 (by decide) e200) ?_
                simp only [HH, gW, gD]
                refine cs3 (n_affine_Area_0w h12 h13 h14 h15 h16 h17 h18 h19 h20 h21 h22 h23 h9 h10 h11 (by decide) e201 e202 e203) ?_
                refine cs1 (n_vec_Dot_0w m204 m205 m206 m197 m198 m199 (by decide) e207) ?_
                refine cs1 (n_rat_Abs_t Y0 (m208.mono (by decide)) e210 c209) ?_
                simp only [HH, gW, gD]
                refine cs0 (n_rat_Sign (m211.mono (by decide))) ?_
                refine primS (.bool true) (cs_gtr_t ((sg_gt Y0).2 c212)) ?_
                refine itT rfl ?_
                refine cs0 (n_rat_Sign (m208.mono (by decide))) ?_
                refine cs1 (n_affine_Det_0w h12 h13 h14 h15 h16 h17 h18 h19 h20 h21 h22 h23 (by decide) e213) ?_
                simp only [HH, gW, gD]
                refine cs0 (n_rat_Sign (m214.mono (by decide))) ?_
                refine primS (.int .i64 (1)) (ii_mul (sgn_m Y0 c209) (sgn_m Y0 c215) rfl) ?_
                refine primS (.bool false) rfl ?_
                exact ret_step rfl
              have hc217 : PureCalls prog F.dens_Ahead [.agg (gW [r0, r1, r2, r3, r4, r5]), .agg (gW [r6, r7, r8, r9, r10, r11]), .agg (gW [r12, r13, r14, r15, r16, r17, r18, r19, r20, r21, r22, r23])] [.agg (gD [Z0])] := by
                refine symFunc_sound hmix tree_dens_Ahead (by kernel_rfl) rfl ?_
                unfold ir_dens_Ahead
                simp only [HH, gW, gD]
                refine call_step hc216 rfl ?_
                simp only [HH, gW, gD]
                refine primS (.bool true) rfl ?_
                refine itT rfl ?_
                refine cs1 (n_rat_Of (0) (1) (by decide) (by decide) (by decide) (by decide) (Y0.trans (by decide +kernel))) ?_
                exact ret_step rfl
              refine call_step hc217 rfl ?_
              simp only [HH, gW, gD]
              have hc218 : PureCalls prog F.dens_Transfer [.agg (gW [r0, r1, r2, r3, r4, r5]), .agg (gW [r6, r7, r8, r9, r10, r11]), .agg (gW [r12, r13, r14, r15, r16, r17, r18, r19, r20, r21, r22, r23])] [.agg (gD [Z0])] := by
                refine symFunc_sound hmix tree_dens_Transfer (by kernel_rfl) rfl ?_
                unfold ir_dens_Transfer
                simp only [HH, gW, gD]
                refine call_step hc216 rfl ?_
                simp only [HH, gW, gD]
                refine primS (.bool true) rfl ?_
                refine itT rfl ?_
                refine cs1 (n_rat_Of (0) (1) (by decide) (by decide) (by decide) (by decide) (Y0.trans (by decide +kernel))) ?_
                exact ret_step rfl
              refine call_step hc218 rfl ?_
              simp only [HH, gW, gD]
              refine cs0 n_penumbralaw16_fixed ?_
              refine primS (.bool false) rfl ?_
              refine itF rfl ?_
              have m219 : Num 1 (cr Z0) Z0 := Num.c Y0 (by decide +kernel) (by decide +kernel)
              refine cs0 (n_rat_Sign (m219.mono (by decide))) ?_
              refine primS (.bool false) (cs_lss_f (fun z => (Rat.lt_irrefl) ((sg_lt Y0).1 z))) ?_
              refine itF rfl ?_
              refine cs0 (n_rat_Sign (m219.mono (by decide))) ?_
              simp only [HH, gW, gD]
              refine primS (.bool false) (cs_lss_f (fun z => (Rat.lt_irrefl) ((sg_lt Y0).1 z))) ?_
              refine itF rfl ?_
              refine cs0 (n_rat_Sign (m219.mono (by decide))) ?_
              refine cs0 (n_rat_Sign (m219.mono (by decide))) ?_
              refine primS (.bool false) (ii_neq (sgn_z Y0 rfl) (sgn_z Y0 rfl) rfl) ?_
              refine itF rfl ?_
              refine cs0 (n_rat_Sign (m219.mono (by decide))) ?_
              simp only [HH, gW, gD]
              refine primS (.bool true) (cs_eql_t ((sg_eq Y0).2 rfl)) ?_
              refine itT rfl ?_
              exact ret_step rfl
            · skip
              by_cases c220 : q213 = Z0
              · skip
                have hc221 : PureCalls prog F.dens_seen [.agg (gW [r0, r1, r2, r3, r4, r5]), .agg (gW [r6, r7, r8, r9, r10, r11]), .agg (gW [r12, r13, r14, r15, r16, r17, r18, r19, r20, r21, r22, r23])] [.agg (gD [q175, q176, x3, q176, q181, x4, x3, x4, x5, q194, q195, q196, q200, q210]), .one (.bool false)] := by
                  refine symFunc_sound hmix tree_dens_seen (by kernel_rfl) rfl ?_
                  unfold ir_dens_seen
                  simp only [HH, gW, gD]
                  refine call_step (n_frame_Of_1 Ym2 Y0 Y1 (h3.mono (by decide)) (h4.mono (by decide)) (h5.mono (by decide)) e1 e3 e174 e175 e176 u177 u179 e181 u182 c2 c4) rfl ?_
                  simp only [HH, gW, gD]
                  refine primS (.bool false) rfl ?_
                  refine itF rfl ?_
                  refine cs1 (n_vec_Dot_0w h9 h10 h11 h9 h10 h11 (by decide) e184) ?_
                  refine cs1 (n_rat_Of (1) (1) (by decide) (by decide) (by decide) (by decide) (Y1.trans (by decide +kernel))) ?_
                  refine cs0 (n_rat_Same_t (m185.mono (by decide)) (m186.mono (by decide)) c187) ?_
                  simp only [HH, gW, gD]
                  refine primS (.bool false) rfl ?_
                  refine itF rfl ?_
                  refine cs3 (n_affine_Apply_0w h12 h13 h14 h15 h16 h17 h18 h19 h20 h21 h22 h23 h6 h7 h8 (by decide) e188 e189 e190) ?_
                  refine cs3 (n_vec_Sub_0w m191 m192 m193 h0 h1 h2 (by decide) e194 e195 e196) ?_
                  refine cs1 (n_vec_Dot_0w m197 m198 m199 h3 h4 h5 (by decide) e200) ?_
                  simp only [HH, gW, gD]
                  refine cs3 (n_affine_Area_0w h12 h13 h14 h15 h16 h17 h18 h19 h20 h21 h22 h23 h9 h10 h11 (by decide) e201 e202 e203) ?_
                  refine cs1 (n_vec_Dot_0w m204 m205 m206 m197 m198 m199 (by decide) e207) ?_
                  refine cs1 (n_rat_Abs_t Y0 (m208.mono (by decide)) e210 c209) ?_
                  simp only [HH, gW, gD]
                  refine cs0 (n_rat_Sign (m211.mono (by decide))) ?_
                  refine primS (.bool true) (cs_gtr_t ((sg_gt Y0).2 c212)) ?_
                  refine itT rfl ?_
                  refine cs0 (n_rat_Sign (m208.mono (by decide))) ?_
                  refine cs1 (n_affine_Det_0w h12 h13 h14 h15 h16 h17 h18 h19 h20 h21 h22 h23 (by decide) e213) ?_
                  simp only [HH, gW, gD]
                  refine cs0 (n_rat_Sign (m214.mono (by decide))) ?_
                  refine primS (.int .i64 (0)) (ii_mul (sgn_m Y0 c209) (sgn_z Y0 c220) rfl) ?_
                  refine primS (.bool false) rfl ?_
                  exact ret_step rfl
                have hc222 : PureCalls prog F.dens_Ahead [.agg (gW [r0, r1, r2, r3, r4, r5]), .agg (gW [r6, r7, r8, r9, r10, r11]), .agg (gW [r12, r13, r14, r15, r16, r17, r18, r19, r20, r21, r22, r23])] [.agg (gD [Z0])] := by
                  refine symFunc_sound hmix tree_dens_Ahead (by kernel_rfl) rfl ?_
                  unfold ir_dens_Ahead
                  simp only [HH, gW, gD]
                  refine call_step hc221 rfl ?_
                  simp only [HH, gW, gD]
                  refine primS (.bool true) rfl ?_
                  refine itT rfl ?_
                  refine cs1 (n_rat_Of (0) (1) (by decide) (by decide) (by decide) (by decide) (Y0.trans (by decide +kernel))) ?_
                  exact ret_step rfl
                refine call_step hc222 rfl ?_
                simp only [HH, gW, gD]
                have hc223 : PureCalls prog F.dens_Transfer [.agg (gW [r0, r1, r2, r3, r4, r5]), .agg (gW [r6, r7, r8, r9, r10, r11]), .agg (gW [r12, r13, r14, r15, r16, r17, r18, r19, r20, r21, r22, r23])] [.agg (gD [Z0])] := by
                  refine symFunc_sound hmix tree_dens_Transfer (by kernel_rfl) rfl ?_
                  unfold ir_dens_Transfer
                  simp only [HH, gW, gD]
                  refine call_step hc221 rfl ?_
                  simp only [HH, gW, gD]
                  refine primS (.bool true) rfl ?_
                  refine itT rfl ?_
                  refine cs1 (n_rat_Of (0) (1) (by decide) (by decide) (by decide) (by decide) (Y0.trans (by decide +kernel))) ?_
                  exact ret_step rfl
                refine call_step hc223 rfl ?_
                simp only [HH, gW, gD]
                refine cs0 n_penumbralaw16_fixed ?_
                refine primS (.bool false) rfl ?_
                refine itF rfl ?_
                have m224 : Num 1 (cr Z0) Z0 := Num.c Y0 (by decide +kernel) (by decide +kernel)
                refine cs0 (n_rat_Sign (m224.mono (by decide))) ?_
                refine primS (.bool false) (cs_lss_f (fun z => (Rat.lt_irrefl) ((sg_lt Y0).1 z))) ?_
                refine itF rfl ?_
                refine cs0 (n_rat_Sign (m224.mono (by decide))) ?_
                simp only [HH, gW, gD]
                refine primS (.bool false) (cs_lss_f (fun z => (Rat.lt_irrefl) ((sg_lt Y0).1 z))) ?_
                refine itF rfl ?_
                refine cs0 (n_rat_Sign (m224.mono (by decide))) ?_
                refine cs0 (n_rat_Sign (m224.mono (by decide))) ?_
                refine primS (.bool false) (ii_neq (sgn_z Y0 rfl) (sgn_z Y0 rfl) rfl) ?_
                refine itF rfl ?_
                refine cs0 (n_rat_Sign (m224.mono (by decide))) ?_
                simp only [HH, gW, gD]
                refine primS (.bool true) (cs_eql_t ((sg_eq Y0).2 rfl)) ?_
                refine itT rfl ?_
                exact ret_step rfl
              · skip
                have hc225 : PureCalls prog F.dens_seen [.agg (gW [r0, r1, r2, r3, r4, r5]), .agg (gW [r6, r7, r8, r9, r10, r11]), .agg (gW [r12, r13, r14, r15, r16, r17, r18, r19, r20, r21, r22, r23])] [.agg (gD [q175, q176, x3, q176, q181, x4, x3, x4, x5, q194, q195, q196, q200, q210]), .one (.bool true)] := by
                  refine symFunc_sound hmix tree_dens_seen (by kernel_rfl) rfl ?_
                  unfold ir_dens_seen
                  simp only [HH, gW, gD]
                  refine call_step (n_frame_Of_1 Ym2 Y0 Y1 (h3.mono (by decide)) (h4.mono (by decide)) (h5.mono (by decide)) e1 e3 e174 e175 e176 u177 u179 e181 u182 c2 c4) rfl ?_
                  simp only [HH, gW, gD]
                  refine primS (.bool false) rfl ?_
                  refine itF rfl ?_
                  refine cs1 (n_vec_Dot_0w h9 h10 h11 h9 h10 h11 (by decide) e184) ?_
                  refine cs1 (n_rat_Of (1) (1) (by decide) (by decide) (by decide) (by decide) (Y1.trans (by decide +kernel))) ?_
                  refine cs0 (n_rat_Same_t (m185.mono (by decide)) (m186.mono (by decide)) c187) ?_
                  simp only [HH, gW, gD]
                  refine primS (.bool false) rfl ?_
                  refine itF rfl ?_
                  refine cs3 (n_affine_Apply_0w h12 h13 h14 h15 h16 h17 h18 h19 h20 h21 h22 h23 h6 h7 h8 (by decide) e188 e189 e190) ?_
                  refine cs3 (n_vec_Sub_0w m191 m192 m193 h0 h1 h2 (by decide) e194 e195 e196) ?_
                  refine cs1 (n_vec_Dot_0w m197 m198 m199 h3 h4 h5 (by decide) e200) ?_
                  simp only [HH, gW, gD]
                  refine cs3 (n_affine_Area_0w h12 h13 h14 h15 h16 h17 h18 h19 h20 h21 h22 h23 h9 h10 h11 (by decide) e201 e202 e203) ?_
                  refine cs1 (n_vec_Dot_0w m204 m205 m206 m197 m198 m199 (by decide) e207) ?_
                  refine cs1 (n_rat_Abs_t Y0 (m208.mono (by decide)) e210 c209) ?_
                  simp only [HH, gW, gD]
                  refine cs0 (n_rat_Sign (m211.mono (by decide))) ?_
                  refine primS (.bool true) (cs_gtr_t ((sg_gt Y0).2 c212)) ?_
                  refine itT rfl ?_
                  refine cs0 (n_rat_Sign (m208.mono (by decide))) ?_
                  refine cs1 (n_affine_Det_0w h12 h13 h14 h15 h16 h17 h18 h19 h20 h21 h22 h23 (by decide) e213) ?_
                  simp only [HH, gW, gD]
                  refine cs0 (n_rat_Sign (m214.mono (by decide))) ?_
                  refine primS (.int .i64 (-1)) (ii_mul (sgn_m Y0 c209) (sgn_p Y0 c215 c220) rfl) ?_
                  refine primS (.bool true) rfl ?_
                  exact ret_step rfl
                have m228 : Num 1 (cr Zm2) Zm2 := Num.c Ym2 (by decide +kernel) (by decide +kernel)
                have m230 : Num 1 (cr Z0) Z0 := Num.c Y0 (by decide +kernel) (by decide +kernel)
                have m229 : Num 6291470 (cr q3) q3 := Num.eqn e3 (Sm.add (Sm.add (Sm.mul (Sm.sub m230.sm h3.sm) (Sm.sub m230.sm h3.sm)) (Sm.mul (Sm.sub m230.sm h4.sm) (Sm.sub m230.sm h4.sm))) (Sm.mul (Sm.sub m186.sm h5.sm) (Sm.sub m186.sm h5.sm)))
                have m227 : Num 6291471 (cr q174) q174 := Num.eqn e174 (Sm.div m228.sm m229.sm)
                have m226 : Num 8388629 (cr q175) q175 := Num.eqn e175 (Sm.add m186.sm (Sm.mul (Sm.mul m227.sm (Sm.sub m230.sm h3.sm)) (Sm.sub m230.sm h3.sm)))
                have m231 : Num 8388629 (cr q176) q176 := Num.eqn e176 (Sm.add m230.sm (Sm.mul (Sm.mul m227.sm (Sm.sub m230.sm h3.sm)) (Sm.sub m230.sm h4.sm)))
                have m232 : Num 1048576 (cr x3) x3 := Num.of h3.sm
                have m233 : Num 8388629 (cr q181) q181 := Num.eqn e181 (Sm.add m186.sm (Sm.mul (Sm.mul m227.sm (Sm.sub m230.sm h4.sm)) (Sm.sub m230.sm h4.sm)))
                have m234 : Num 1048576 (cr x4) x4 := Num.of h4.sm
                have m235 : Num 1048576 (cr x5) x5 := Num.of h5.sm
                obtain ⟨q236, e236⟩ := ex_eq ((((q194 * q175) + (q195 * q176)) + (q196 * x3)) / q200)
                have d236 := div_mul Y0 e236 (fun z => Rat.ne_of_lt c212 z.symm)
                obtain ⟨q237, e237⟩ := ex_eq ((((q194 * q176) + (q195 * q181)) + (q196 * x4)) / q200)
                have d237 := div_mul Y0 e237 (fun z => Rat.ne_of_lt c212 z.symm)
                have m238 : Num 71303238 (cr q236) q236 := Num.eqn e236 (Sm.div (Sm.add (Sm.add (Sm.mul m197.sm m226.sm) (Sm.mul m198.sm m231.sm)) (Sm.mul m199.sm m232.sm)) m211.sm)
                obtain ⟨q239, e239⟩ := ex_eq (dns q236)
                have m240 : Num 71303238 (cr q237) q237 := Num.eqn e237 (Sm.div (Sm.add (Sm.add (Sm.mul m197.sm m231.sm) (Sm.mul m198.sm m233.sm)) (Sm.mul m199.sm m234.sm)) m211.sm)
                obtain ⟨q241, e241⟩ := ex_eq (dns q237)
                have m243 : Num 427819440 (cr q239) q239 := Num.eqn e239 (Sm.dns m238.sm)
                have m244 : Num 427819440 (cr q241) q241 := Num.eqn e241 (Sm.dns m240.sm)
                have m245 : Num 72351773 (cr q210) q210 := Num.eqn e210 (Sm.neg m208.sm)
                obtain ⟨q246, e246⟩ := ex_eq ((q239 * q241) * q210)
                obtain ⟨q247, e247⟩ := ex_eq ((q200 * q200) * q200)
                have m248 : Num 927990653 (cr q246) q246 := Num.eqn e246 (Sm.mul (Sm.mul m243.sm m244.sm) m245.sm)
                have m249 : Num 84934698 (cr q247) q247 := Num.eqn e247 (Sm.mul (Sm.mul m211.sm m211.sm) m211.sm)
                have c250 : ¬(q247 = Z0) := (fun z => Rat.ne_of_lt (s_mul_pp Y0 e247 (s_mul_pp Y0 rfl c212 c212) c212) z.symm)
                obtain ⟨q251, e251⟩ := ex_eq (q246 / q247)
                have d251 := div_mul Y0 e251 c250
                have hc252 : PureCalls prog F.dens_Ahead [.agg (gW [r0, r1, r2, r3, r4, r5]), .agg (gW [r6, r7, r8, r9, r10, r11]), .agg (gW [r12, r13, r14, r15, r16, r17, r18, r19, r20, r21, r22, r23])] [.agg (gD [q251])] := by
                  refine symFunc_sound hmix tree_dens_Ahead (by kernel_rfl) rfl ?_
                  unfold ir_dens_Ahead
                  simp only [HH, gW, gD]
                  refine call_step hc225 rfl ?_
                  simp only [HH, gW, gD]
                  refine primS (.bool false) rfl ?_
                  refine itF rfl ?_
                  refine call_step (n_frame_Slopes_1w Y0 m226 m231 m232 m231 m233 m234 m232 m234 m235 m197 m198 m199 (by decide) e200 e236 e237 (fun z => Rat.ne_of_lt c212 z.symm)) rfl ?_
                  simp only [HH, gW, gD]
                  refine cs1 (n_warp_Density (k0 := q239) (m238.mono (by decide)) e239) ?_
                  refine cs1 (n_warp_Density (k0 := q241) (m240.mono (by decide)) e241) ?_
                  refine primS (rl [(cr q239), (cr q241), (cr q210)]) rfl ?_
                  refine cs1 (n_rat_Product_3 (k0 := q246) (m243.mono (by decide)) (m244.mono (by decide)) (m245.mono (by decide)) e246) ?_
                  simp only [HH, gW, gD]
                  refine cs1 (n_dens_cube_0 (m211.mono (by decide)) e247) ?_
                  refine cs1 (n_dens_over_1 Y0 (m248.mono (by decide)) (m249.mono (by decide)) e251 c250) ?_
                  exact ret_step rfl
                refine call_step hc252 rfl ?_
                simp only [HH, gW, gD]
                obtain ⟨q253, e253⟩ := ex_eq (((q194 * q194) + (q195 * q195)) + (q196 * q196))
                obtain ⟨q255, e255⟩ := ex_eq (q200 * q210)
                have m257 : Num 50331674 (cr q253) q253 := Num.eqn e253 (Sm.add (Sm.add (Sm.mul m197.sm m197.sm) (Sm.mul m198.sm m198.sm)) (Sm.mul m199.sm m199.sm))
                obtain ⟨q258, e258⟩ := ex_eq (q253 * q253)
                have m259 : Num 100663339 (cr q255) q255 := Num.eqn e255 (Sm.mul m211.sm m245.sm)
                have m260 : Num 100663348 (cr q258) q258 := Num.eqn e258 (Sm.mul m257.sm m257.sm)
                have c261 : (Z0 < q253) := (DensSlopes_al262 Y0 Y1 e188 e194 e189 e195 e190 e196 e253 e1 e3 e184 e201 e202 e203 e207 e200 e213 e247 c2 c4 c187 c209 c212 c215 c220 c250)
                have c263 : ¬(q258 = Z0) := (fun z => Rat.ne_of_lt (s_mul_pp Y0 e258 c261 c261) z.symm)
                obtain ⟨q264, e264⟩ := ex_eq (q255 / q258)
                have d264 := div_mul Y0 e264 c263
                have hc265 : PureCalls prog F.dens_Transfer [.agg (gW [r0, r1, r2, r3, r4, r5]), .agg (gW [r6, r7, r8, r9, r10, r11]), .agg (gW [r12, r13, r14, r15, r16, r17, r18, r19, r20, r21, r22, r23])] [.agg (gD [q264])] := by
                  refine symFunc_sound hmix tree_dens_Transfer (by kernel_rfl) rfl ?_
                  unfold ir_dens_Transfer
                  simp only [HH, gW, gD]
                  refine call_step hc225 rfl ?_
                  simp only [HH, gW, gD]
                  refine primS (.bool false) rfl ?_
                  refine itF rfl ?_
                  refine cs1 (n_vec_Dot_0w m197 m198 m199 m197 m198 m199 (by decide) e253) ?_
                  refine primS (rl [(cr q200), (cr q210)]) rfl ?_
                  refine cs1 (n_rat_Product_2 (k0 := q255) (m211.mono (by decide)) (m245.mono (by decide)) e255) ?_
                  refine primS (rl [(cr q253), (cr q253)]) rfl ?_
                  refine cs1 (n_rat_Product_2 (k0 := q258) (m257.mono (by decide)) (m257.mono (by decide)) e258) ?_
                  simp only [HH, gW, gD]
                  refine cs1 (n_dens_over_1 Y0 (m259.mono (by decide)) (m260.mono (by decide)) e264 c263) ?_
                  exact ret_step rfl
                refine call_step hc265 rfl ?_
                simp only [HH, gW, gD]
                refine cs0 n_penumbralaw16_fixed ?_
                refine primS (.bool false) rfl ?_
                refine itF rfl ?_
                have m266 : Num 1012925351 (cr q251) q251 := Num.eqn e251 (Sm.div m248.sm m249.sm)
                refine cs0 (n_rat_Sign (m266.mono (by decide))) ?_
                refine primS (.bool false) (cs_lss_f (fun z => (t_wk (s_div_pp Y0 e251 (s_mul_pp Y0 e246 (s_mul_pp Y0 rfl (s_dns (b := Z0) Y0 e239) (s_dns (b := Z0) Y0 e241)) (s_neg_n (b := Z0) Y0 e210 c209)) (s_mul_pp Y0 e247 (s_mul_pp Y0 rfl c212 c212) c212))) ((sg_lt Y0).1 z))) ?_
                refine itF rfl ?_
                have m267 : Num 201326687 (cr q264) q264 := Num.eqn e264 (Sm.div m259.sm m260.sm)
                refine cs0 (n_rat_Sign (m267.mono (by decide))) ?_
                simp only [HH, gW, gD]
                refine primS (.bool false) (cs_lss_f (fun z => (t_wk (s_div_pp Y0 e264 (s_mul_pp Y0 e255 c212 (s_neg_n (b := Z0) Y0 e210 c209)) (s_mul_pp Y0 e258 c261 c261))) ((sg_lt Y0).1 z))) ?_
                refine itF rfl ?_
                refine cs0 (n_rat_Sign (m266.mono (by decide))) ?_
                refine cs0 (n_rat_Sign (m267.mono (by decide))) ?_
                have c268 : ¬(q251 = Z0) := (fun z => Rat.ne_of_lt (s_div_pp Y0 e251 (s_mul_pp Y0 e246 (s_mul_pp Y0 rfl (s_dns (b := Z0) Y0 e239) (s_dns (b := Z0) Y0 e241)) (s_neg_n (b := Z0) Y0 e210 c209)) (s_mul_pp Y0 e247 (s_mul_pp Y0 rfl c212 c212) c212)) z.symm)
                have c269 : ¬(q264 = Z0) := (fun z => Rat.ne_of_lt (s_div_pp Y0 e264 (s_mul_pp Y0 e255 c212 (s_neg_n (b := Z0) Y0 e210 c209)) (s_mul_pp Y0 e258 c261 c261)) z.symm)
                refine primS (.bool false) (ii_neq (sgn_p Y0 (t_wk (s_div_pp Y0 e251 (s_mul_pp Y0 e246 (s_mul_pp Y0 rfl (s_dns (b := Z0) Y0 e239) (s_dns (b := Z0) Y0 e241)) (s_neg_n (b := Z0) Y0 e210 c209)) (s_mul_pp Y0 e247 (s_mul_pp Y0 rfl c212 c212) c212))) c268) (sgn_p Y0 (t_wk (s_div_pp Y0 e264 (s_mul_pp Y0 e255 c212 (s_neg_n (b := Z0) Y0 e210 c209)) (s_mul_pp Y0 e258 c261 c261))) c269) rfl) ?_
                refine itF rfl ?_
                refine cs0 (n_rat_Sign (m266.mono (by decide))) ?_
                simp only [HH, gW, gD]
                refine primS (.bool false) (cs_eql_f (fun z => c268 ((sg_eq Y0).1 z))) ?_
                refine itF rfl ?_
                refine call_step (n_frame_Of_1 Ym2 Y0 Y1 (h3.mono (by decide)) (h4.mono (by decide)) (h5.mono (by decide)) e1 e3 e174 e175 e176 u177 u179 e181 u182 c2 c4) rfl ?_
                simp only [HH, gW, gD]
                refine cs3 (n_affine_Apply_0w h12 h13 h14 h15 h16 h17 h18 h19 h20 h21 h22 h23 h6 h7 h8 (by decide) e188 e189 e190) ?_
                refine cs3 (n_vec_Sub_0w m191 m192 m193 h0 h1 h2 (by decide) e194 e195 e196) ?_
                refine call_step (n_frame_Slopes_1w Y0 m226 m231 m232 m231 m233 m234 m232 m234 m235 m197 m198 m199 (by decide) e200 e236 e237 (fun z => Rat.ne_of_lt c212 z.symm)) rfl ?_
                simp only [HH, gW, gD]
                refine cs1 (n_rat_Of (1) (1) (by decide) (by decide) (by decide) (by decide) (Y1.trans (by decide +kernel))) ?_
                refine primS (rl [(cr q236), (cr q236)]) rfl ?_
                obtain ⟨q271, e271⟩ := ex_eq (q236 * q236)
                refine cs1 (n_rat_Product_2 (k0 := q271) (m238.mono (by decide)) (m238.mono (by decide)) e271) ?_
                refine primS (rl [(cr q237), (cr q237)]) rfl ?_
                obtain ⟨q273, e273⟩ := ex_eq (q237 * q237)
                refine cs1 (n_rat_Product_2 (k0 := q273) (m240.mono (by decide)) (m240.mono (by decide)) e273) ?_
                simp only [HH, gW, gD]
                refine primS (rl [(cr Z1), (cr q271), (cr q273)]) rfl ?_
                have m275 : Num 142606476 (cr q271) q271 := Num.eqn e271 (Sm.mul m238.sm m238.sm)
                have m276 : Num 142606476 (cr q273) q273 := Num.eqn e273 (Sm.mul m240.sm m240.sm)
                obtain ⟨q277, e277⟩ := ex_eq ((Z1 + q271) + q273)
                refine cs1 (n_rat_Sum_3 (k0 := q277) (m186.mono (by decide)) (m275.mono (by decide)) (m276.mono (by decide)) e277) ?_
                refine itT rfl ?_
                refine itT rfl ?_
                refine cs0 (n_rat_Sign (m211.mono (by decide))) ?_
                refine primS (.bool true) (cs_gtr_t ((sg_gt Y0).2 c212)) ?_
                refine itT rfl ?_
                refine cs1 (n_warp_Density (k0 := q239) (m238.mono (by decide)) e239) ?_
                simp only [HH, gW, gD]
                refine cs1 (n_warp_Density (k0 := q241) (m240.mono (by decide)) e241) ?_
                refine primS (rl [(cr q264), (cr q277), (cr q277), (cr q239), (cr q241)]) rfl ?_
                have m279 : Num 285212955 (cr q277) q277 := Num.eqn e277 (Sm.add (Sm.add m186.sm m275.sm) m276.sm)
                have u280 : q251 = ((((q264 * q277) * q277) * q239) * q241) := (DensSlopes_al281 Ym2 Y0 Y1 e188 e194 e3 d174 e175 e189 e195 e176 e190 e196 e200 d236 e239 e181 d237 e241 e201 e202 e203 e207 e210 e246 e247 d251 e255 e253 e258 d264 e271 e273 e277 e1 e184 e213 c2 c4 c187 c209 c212 c215 c220 c250 c261 c263 c268 c269)
                refine cs1 (n_rat_Product_5 (k0 := q251) (m267.mono (by decide)) (m279.mono (by decide)) (m279.mono (by decide)) (m243.mono (by decide)) (m244.mono (by decide)) u280) ?_
                refine cs0 (n_penumbraref03_Is_t (m266.mono (by decide)) (m266.mono (by decide)) rfl) ?_
                simp only [HH, gW, gD]
                exact ret_step rfl
          · skip
            have hc282 : PureCalls prog F.dens_seen [.agg (gW [r0, r1, r2, r3, r4, r5]), .agg (gW [r6, r7, r8, r9, r10, r11]), .agg (gW [r12, r13, r14, r15, r16, r17, r18, r19, r20, r21, r22, r23])] [.agg (gD [q175, q176, x3, q176, q181, x4, x3, x4, x5, q194, q195, q196, q200, q210]), .one (.bool false)] := by
              refine symFunc_sound hmix tree_dens_seen (by kernel_rfl) rfl ?_
              unfold ir_dens_seen
              simp only [HH, gW, gD]
              refine call_step (n_frame_Of_1 Ym2 Y0 Y1 (h3.mono (by decide)) (h4.mono (by decide)) (h5.mono (by decide)) e1 e3 e174 e175 e176 u177 u179 e181 u182 c2 c4) rfl ?_
              simp only [HH, gW, gD]
              refine primS (.bool false) rfl ?_
              refine itF rfl ?_
              refine cs1 (n_vec_Dot_0w h9 h10 h11 h9 h10 h11 (by decide) e184) ?_
              refine cs1 (n_rat_Of (1) (1) (by decide) (by decide) (by decide) (by decide) (Y1.trans (by decide +kernel))) ?_
              refine cs0 (n_rat_Same_t (m185.mono (by decide)) (m186.mono (by decide)) c187) ?_
              simp only [HH, gW, gD]
              refine primS (.bool false) rfl ?_
              refine itF rfl ?_
              refine cs3 (n_affine_Apply_0w h12 h13 h14 h15 h16 h17 h18 h19 h20 h21 h22 h23 h6 h7 h8 (by decide) e188 e189 e190) ?_
              refine cs3 (n_vec_Sub_0w m191 m192 m193 h0 h1 h2 (by decide) e194 e195 e196) ?_
              refine cs1 (n_vec_Dot_0w m197 m198 m199 h3 h4 h5 (by decide) e200) ?_
              simp only [HH, gW, gD]
              refine cs3 (n_affine_Area_0w h12 h13 h14 h15 h16 h17 h18 h19 h20 h21 h22 h23 h9 h10 h11 (by decide) e201 e202 e203) ?_
              refine cs1 (n_vec_Dot_0w m204 m205 m206 m197 m198 m199 (by decide) e207) ?_
              refine cs1 (n_rat_Abs_t Y0 (m208.mono (by decide)) e210 c209) ?_
              simp only [HH, gW, gD]
              refine cs0 (n_rat_Sign (m211.mono (by decide))) ?_
              refine primS (.bool false) (cs_gtr_f (fun z => c212 ((sg_gt Y0).1 z))) ?_
              refine itF rfl ?_
              exact ret_step rfl
            have hc283 : PureCalls prog F.dens_Ahead [.agg (gW [r0, r1, r2, r3, r4, r5]), .agg (gW [r6, r7, r8, r9, r10, r11]), .agg (gW [r12, r13, r14, r15, r16, r17, r18, r19, r20, r21, r22, r23])] [.agg (gD [Z0])] := by
              refine symFunc_sound hmix tree_dens_Ahead (by kernel_rfl) rfl ?_
              unfold ir_dens_Ahead
              simp only [HH, gW, gD]
              refine call_step hc282 rfl ?_
              simp only [HH, gW, gD]
              refine primS (.bool true) rfl ?_
              refine itT rfl ?_
              refine cs1 (n_rat_Of (0) (1) (by decide) (by decide) (by decide) (by decide) (Y0.trans (by decide +kernel))) ?_
              exact ret_step rfl
            refine call_step hc283 rfl ?_
            simp only [HH, gW, gD]
            have hc284 : PureCalls prog F.dens_Transfer [.agg (gW [r0, r1, r2, r3, r4, r5]), .agg (gW [r6, r7, r8, r9, r10, r11]), .agg (gW [r12, r13, r14, r15, r16, r17, r18, r19, r20, r21, r22, r23])] [.agg (gD [Z0])] := by
              refine symFunc_sound hmix tree_dens_Transfer (by kernel_rfl) rfl ?_
              unfold ir_dens_Transfer
              simp only [HH, gW, gD]
              refine call_step hc282 rfl ?_
              simp only [HH, gW, gD]
              refine primS (.bool true) rfl ?_
              refine itT rfl ?_
              refine cs1 (n_rat_Of (0) (1) (by decide) (by decide) (by decide) (by decide) (Y0.trans (by decide +kernel))) ?_
              exact ret_step rfl
            refine call_step hc284 rfl ?_
            simp only [HH, gW, gD]
            refine cs0 n_penumbralaw16_fixed ?_
            refine primS (.bool false) rfl ?_
            refine itF rfl ?_
            have m285 : Num 1 (cr Z0) Z0 := Num.c Y0 (by decide +kernel) (by decide +kernel)
            refine cs0 (n_rat_Sign (m285.mono (by decide))) ?_
            refine primS (.bool false) (cs_lss_f (fun z => (Rat.lt_irrefl) ((sg_lt Y0).1 z))) ?_
            refine itF rfl ?_
            refine cs0 (n_rat_Sign (m285.mono (by decide))) ?_
            simp only [HH, gW, gD]
            refine primS (.bool false) (cs_lss_f (fun z => (Rat.lt_irrefl) ((sg_lt Y0).1 z))) ?_
            refine itF rfl ?_
            refine cs0 (n_rat_Sign (m285.mono (by decide))) ?_
            refine cs0 (n_rat_Sign (m285.mono (by decide))) ?_
            refine primS (.bool false) (ii_neq (sgn_z Y0 rfl) (sgn_z Y0 rfl) rfl) ?_
            refine itF rfl ?_
            refine cs0 (n_rat_Sign (m285.mono (by decide))) ?_
            simp only [HH, gW, gD]
            refine primS (.bool true) (cs_eql_t ((sg_eq Y0).2 rfl)) ?_
            refine itT rfl ?_
            exact ret_step rfl
        · skip
          have m286 : Num 28311566 (cr q200) q200 := Num.eqn e200 (Sm.add (Sm.add (Sm.mul m197.sm h3.sm) (Sm.mul m198.sm h4.sm)) (Sm.mul m199.sm h5.sm))
          by_cases c287 : Z0 < q200
          · skip
            obtain ⟨q288, e288⟩ := ex_eq (((x12 * ((x16 * x20) - (x17 * x19))) + (x13 * ((x17 * x18) - (x15 * x20)))) + (x14 * ((x15 * x19) - (x16 * x18))))
            have m289 : Num 15728645 (cr q288) q288 := Num.eqn e288 (Sm.add (Sm.add (Sm.mul h12.sm (Sm.sub (Sm.mul h16.sm h20.sm) (Sm.mul h17.sm h19.sm))) (Sm.mul h13.sm (Sm.sub (Sm.mul h17.sm h18.sm) (Sm.mul h15.sm h20.sm)))) (Sm.mul h14.sm (Sm.sub (Sm.mul h15.sm h19.sm) (Sm.mul h16.sm h18.sm))))
            by_cases c290 : q207 = Z0
            · skip
              have hc291 : PureCalls prog F.dens_seen [.agg (gW [r0, r1, r2, r3, r4, r5]), .agg (gW [r6, r7, r8, r9, r10, r11]), .agg (gW [r12, r13, r14, r15, r16, r17, r18, r19, r20, r21, r22, r23])] [.agg (gD [q175, q176, x3, q176, q181, x4, x3, x4, x5, q194, q195, q196, q200, q207]), .one (.bool false)] := by
                refine symFunc_sound hmix tree_dens_seen (by kernel_rfl) rfl ?_
                unfold ir_dens_seen
                simp only [HH, gW, gD]
                refine call_step (n_frame_Of_1 Ym2 Y0 Y1 (h3.mono (by decide)) (h4.mono (by decide)) (h5.mono (by decide)) e1 e3 e174 e175 e176 u177 u179 e181 u182 c2 c4) rfl ?_
                simp only [HH, gW, gD]
                refine primS (.bool false) rfl ?_
                refine itF rfl ?_
                refine cs1 (n_vec_Dot_0w h9 h10 h11 h9 h10 h11 (by decide) e184) ?_
                refine cs1 (n_rat_Of (1) (1) (by decide) (by decide) (by decide) (by decide) (Y1.trans (by decide +kernel))) ?_
                refine cs0 (n_rat_Same_t (m185.mono (by decide)) (m186.mono (by decide)) c187) ?_
                simp only [HH, gW, gD]
                refine primS (.bool false) rfl ?_
                refine itF rfl ?_
                refine cs3 (n_affine_Apply_0w h12 h13 h14 h15 h16 h17 h18 h19 h20 h21 h22 h23 h6 h7 h8 (by decide) e188 e189 e190) ?_
                refine cs3 (n_vec_Sub_0w m191 m192 m193 h0 h1 h2 (by decide) e194 e195 e196) ?_
                refine cs1 (n_vec_Dot_0w m197 m198 m199 h3 h4 h5 (by decide) e200) ?_
                simp only [HH, gW, gD]
                refine cs3 (n_affine_Area_0w h12 h13 h14 h15 h16 h17 h18 h19 h20 h21 h22 h23 h9 h10 h11 (by decide) e201 e202 e203) ?_
                refine cs1 (n_vec_Dot_0w m204 m205 m206 m197 m198 m199 (by decide) e207) ?_
                refine cs1 (n_rat_Abs_f Y0 (m208.mono (by decide)) c209) ?_
                simp only [HH, gW, gD]
                refine cs0 (n_rat_Sign (m286.mono (by decide))) ?_
                refine primS (.bool true) (cs_gtr_t ((sg_gt Y0).2 c287)) ?_
                refine itT rfl ?_
                refine cs0 (n_rat_Sign (m208.mono (by decide))) ?_
                refine cs1 (n_affine_Det_0w h12 h13 h14 h15 h16 h17 h18 h19 h20 h21 h22 h23 (by decide) e288) ?_
                simp only [HH, gW, gD]
                refine cs0 (n_rat_Sign (m289.mono (by decide))) ?_
                refine primS (.int .i64 (0)) (ii_mul0 (sgn_z Y0 c290)) ?_
                refine primS (.bool false) rfl ?_
                exact ret_step rfl
              have hc292 : PureCalls prog F.dens_Ahead [.agg (gW [r0, r1, r2, r3, r4, r5]), .agg (gW [r6, r7, r8, r9, r10, r11]), .agg (gW [r12, r13, r14, r15, r16, r17, r18, r19, r20, r21, r22, r23])] [.agg (gD [Z0])] := by
                refine symFunc_sound hmix tree_dens_Ahead (by kernel_rfl) rfl ?_
                unfold ir_dens_Ahead
                simp only [HH, gW, gD]
                refine call_step hc291 rfl ?_
                simp only [HH, gW, gD]
                refine primS (.bool true) rfl ?_
                refine itT rfl ?_
                refine cs1 (n_rat_Of (0) (1) (by decide) (by decide) (by decide) (by decide) (Y0.trans (by decide +kernel))) ?_
                exact ret_step rfl
              refine call_step hc292 rfl ?_
              simp only [HH, gW, gD]
              have hc293 : PureCalls prog F.dens_Transfer [.agg (gW [r0, r1, r2, r3, r4, r5]), .agg (gW [r6, r7, r8, r9, r10, r11]), .agg (gW [r12, r13, r14, r15, r16, r17, r18, r19, r20, r21, r22, r23])] [.agg (gD [Z0])] := by
                refine symFunc_sound hmix tree_dens_Transfer (by kernel_rfl) rfl ?_
                unfold ir_dens_Transfer
                simp only [HH, gW, gD]
                refine call_step hc291 rfl ?_
                simp only [HH, gW, gD]
                refine primS (.bool true) rfl ?_
                refine itT rfl ?_
                refine cs1 (n_rat_Of (0) (1) (by decide) (by decide) (by decide) (by decide) (Y0.trans (by decide +kernel))) ?_
                exact ret_step rfl
              refine call_step hc293 rfl ?_
              simp only [HH, gW, gD]
              refine cs0 n_penumbralaw16_fixed ?_
              refine primS (.bool false) rfl ?_
              refine itF rfl ?_
              have m294 : Num 1 (cr Z0) Z0 := Num.c Y0 (by decide +kernel) (by decide +kernel)
              refine cs0 (n_rat_Sign (m294.mono (by decide))) ?_
              refine primS (.bool false) (cs_lss_f (fun z => (Rat.lt_irrefl) ((sg_lt Y0).1 z))) ?_
              refine itF rfl ?_
              refine cs0 (n_rat_Sign (m294.mono (by decide))) ?_
              simp only [HH, gW, gD]
              refine primS (.bool false) (cs_lss_f (fun z => (Rat.lt_irrefl) ((sg_lt Y0).1 z))) ?_
              refine itF rfl ?_
              refine cs0 (n_rat_Sign (m294.mono (by decide))) ?_
              refine cs0 (n_rat_Sign (m294.mono (by decide))) ?_
              refine primS (.bool false) (ii_neq (sgn_z Y0 rfl) (sgn_z Y0 rfl) rfl) ?_
              refine itF rfl ?_
              refine cs0 (n_rat_Sign (m294.mono (by decide))) ?_
              simp only [HH, gW, gD]
              refine primS (.bool true) (cs_eql_t ((sg_eq Y0).2 rfl)) ?_
              refine itT rfl ?_
              exact ret_step rfl
            · skip
              by_cases c295 : q288 < Z0
              · skip
                have hc296 : PureCalls prog F.dens_seen [.agg (gW [r0, r1, r2, r3, r4, r5]), .agg (gW [r6, r7, r8, r9, r10, r11]), .agg (gW [r12, r13, r14, r15, r16, r17, r18, r19, r20, r21, r22, r23])] [.agg (gD [q175, q176, x3, q176, q181, x4, x3, x4, x5, q194, q195, q196, q200, q207]), .one (.bool true)] := by
                  refine symFunc_sound hmix tree_dens_seen (by kernel_rfl) rfl ?_
                  unfold ir_dens_seen
                  simp only [HH, gW, gD]
                  refine call_step (n_frame_Of_1 Ym2 Y0 Y1 (h3.mono (by decide)) (h4.mono (by decide)) (h5.mono (by decide)) e1 e3 e174 e175 e176 u177 u179 e181 u182 c2 c4) rfl ?_
                  simp only [HH, gW, gD]
                  refine primS (.bool false) rfl ?_
                  refine itF rfl ?_
                  refine cs1 (n_vec_Dot_0w h9 h10 h11 h9 h10 h11 (by decide) e184) ?_
                  refine cs1 (n_rat_Of (1) (1) (by decide) (by decide) (by decide) (by decide) (Y1.trans (by decide +kernel))) ?_
                  refine cs0 (n_rat_Same_t (m185.mono (by decide)) (m186.mono (by decide)) c187) ?_
                  simp only [HH, gW, gD]
                  refine primS (.bool false) rfl ?_
                  refine itF rfl ?_
                  refine cs3 (n_affine_Apply_0w h12 h13 h14 h15 h16 h17 h18 h19 h20 h21 h22 h23 h6 h7 h8 (by decide) e188 e189 e190) ?_
                  refine cs3 (n_vec_Sub_0w m191 m192 m193 h0 h1 h2 (by decide) e194 e195 e196) ?_
                  refine cs1 (n_vec_Dot_0w m197 m198 m199 h3 h4 h5 (by decide) e200) ?_
                  simp only [HH, gW, gD]
                  refine cs3 (n_affine_Area_0w h12 h13 h14 h15 h16 h17 h18 h19 h20 h21 h22 h23 h9 h10 h11 (by decide) e201 e202 e203) ?_
                  refine cs1 (n_vec_Dot_0w m204 m205 m206 m197 m198 m199 (by decide) e207) ?_
                  refine cs1 (n_rat_Abs_f Y0 (m208.mono (by decide)) c209) ?_
                  simp only [HH, gW, gD]
                  refine cs0 (n_rat_Sign (m286.mono (by decide))) ?_
                  refine primS (.bool true) (cs_gtr_t ((sg_gt Y0).2 c287)) ?_
                  refine itT rfl ?_
                  refine cs0 (n_rat_Sign (m208.mono (by decide))) ?_
                  refine cs1 (n_affine_Det_0w h12 h13 h14 h15 h16 h17 h18 h19 h20 h21 h22 h23 (by decide) e288) ?_
                  simp only [HH, gW, gD]
                  refine cs0 (n_rat_Sign (m289.mono (by decide))) ?_
                  refine primS (.int .i64 (-1)) (ii_mul (sgn_p Y0 c209 c290) (sgn_m Y0 c295) rfl) ?_
                  refine primS (.bool true) rfl ?_
                  exact ret_step rfl
                have m299 : Num 1 (cr Zm2) Zm2 := Num.c Ym2 (by decide +kernel) (by decide +kernel)
                have m301 : Num 1 (cr Z0) Z0 := Num.c Y0 (by decide +kernel) (by decide +kernel)
                have m300 : Num 6291470 (cr q3) q3 := Num.eqn e3 (Sm.add (Sm.add (Sm.mul (Sm.sub m301.sm h3.sm) (Sm.sub m301.sm h3.sm)) (Sm.mul (Sm.sub m301.sm h4.sm) (Sm.sub m301.sm h4.sm))) (Sm.mul (Sm.sub m186.sm h5.sm) (Sm.sub m186.sm h5.sm)))
                have m298 : Num 6291471 (cr q174) q174 := Num.eqn e174 (Sm.div m299.sm m300.sm)
                have m297 : Num 8388629 (cr q175) q175 := Num.eqn e175 (Sm.add m186.sm (Sm.mul (Sm.mul m298.sm (Sm.sub m301.sm h3.sm)) (Sm.sub m301.sm h3.sm)))
                have m302 : Num 8388629 (cr q176) q176 := Num.eqn e176 (Sm.add m301.sm (Sm.mul (Sm.mul m298.sm (Sm.sub m301.sm h3.sm)) (Sm.sub m301.sm h4.sm)))
                have m303 : Num 1048576 (cr x3) x3 := Num.of h3.sm
                have m304 : Num 8388629 (cr q181) q181 := Num.eqn e181 (Sm.add m186.sm (Sm.mul (Sm.mul m298.sm (Sm.sub m301.sm h4.sm)) (Sm.sub m301.sm h4.sm)))
                have m305 : Num 1048576 (cr x4) x4 := Num.of h4.sm
                have m306 : Num 1048576 (cr x5) x5 := Num.of h5.sm
                obtain ⟨q307, e307⟩ := ex_eq ((((q194 * q175) + (q195 * q176)) + (q196 * x3)) / q200)
                have d307 := div_mul Y0 e307 (fun z => Rat.ne_of_lt c287 z.symm)
                obtain ⟨q308, e308⟩ := ex_eq ((((q194 * q176) + (q195 * q181)) + (q196 * x4)) / q200)
                have d308 := div_mul Y0 e308 (fun z => Rat.ne_of_lt c287 z.symm)
                have m309 : Num 71303238 (cr q307) q307 := Num.eqn e307 (Sm.div (Sm.add (Sm.add (Sm.mul m197.sm m297.sm) (Sm.mul m198.sm m302.sm)) (Sm.mul m199.sm m303.sm)) m286.sm)
                obtain ⟨q310, e310⟩ := ex_eq (dns q307)
                have m311 : Num 71303238 (cr q308) q308 := Num.eqn e308 (Sm.div (Sm.add (Sm.add (Sm.mul m197.sm m302.sm) (Sm.mul m198.sm m304.sm)) (Sm.mul m199.sm m305.sm)) m286.sm)
                obtain ⟨q312, e312⟩ := ex_eq (dns q308)
                have m314 : Num 427819440 (cr q310) q310 := Num.eqn e310 (Sm.dns m309.sm)
                have m315 : Num 427819440 (cr q312) q312 := Num.eqn e312 (Sm.dns m311.sm)
                obtain ⟨q316, e316⟩ := ex_eq ((q310 * q312) * q207)
                obtain ⟨q317, e317⟩ := ex_eq ((q200 * q200) * q200)
                have m318 : Num 927990653 (cr q316) q316 := Num.eqn e316 (Sm.mul (Sm.mul m314.sm m315.sm) m208.sm)
                have m319 : Num 84934698 (cr q317) q317 := Num.eqn e317 (Sm.mul (Sm.mul m286.sm m286.sm) m286.sm)
                have c320 : ¬(q317 = Z0) := (fun z => Rat.ne_of_lt (s_mul_pp Y0 e317 (s_mul_pp Y0 rfl c287 c287) c287) z.symm)
                obtain ⟨q321, e321⟩ := ex_eq (q316 / q317)
                have d321 := div_mul Y0 e321 c320
                have hc322 : PureCalls prog F.dens_Ahead [.agg (gW [r0, r1, r2, r3, r4, r5]), .agg (gW [r6, r7, r8, r9, r10, r11]), .agg (gW [r12, r13, r14, r15, r16, r17, r18, r19, r20, r21, r22, r23])] [.agg (gD [q321])] := by
                  refine symFunc_sound hmix tree_dens_Ahead (by kernel_rfl) rfl ?_
                  unfold ir_dens_Ahead
                  simp only [HH, gW, gD]
                  refine call_step hc296 rfl ?_
                  simp only [HH, gW, gD]
                  refine primS (.bool false) rfl ?_
                  refine itF rfl ?_
                  refine call_step (n_frame_Slopes_1w Y0 m297 m302 m303 m302 m304 m305 m303 m305 m306 m197 m198 m199 (by decide) e200 e307 e308 (fun z => Rat.ne_of_lt c287 z.symm)) rfl ?_
                  simp only [HH, gW, gD]
                  refine cs1 (n_warp_Density (k0 := q310) (m309.mono (by decide)) e310) ?_
                  refine cs1 (n_warp_Density (k0 := q312) (m311.mono (by decide)) e312) ?_
                  refine primS (rl [(cr q310), (cr q312), (cr q207)]) rfl ?_
                  refine cs1 (n_rat_Product_3 (k0 := q316) (m314.mono (by decide)) (m315.mono (by decide)) (m208.mono (by decide)) e316) ?_
                  simp only [HH, gW, gD]
                  refine cs1 (n_dens_cube_0 (m286.mono (by decide)) e317) ?_
                  refine cs1 (n_dens_over_1 Y0 (m318.mono (by decide)) (m319.mono (by decide)) e321 c320) ?_
                  exact ret_step rfl
                refine call_step hc322 rfl ?_
                simp only [HH, gW, gD]
                obtain ⟨q323, e323⟩ := ex_eq (((q194 * q194) + (q195 * q195)) + (q196 * q196))
                obtain ⟨q325, e325⟩ := ex_eq (q200 * q207)
                have m327 : Num 50331674 (cr q323) q323 := Num.eqn e323 (Sm.add (Sm.add (Sm.mul m197.sm m197.sm) (Sm.mul m198.sm m198.sm)) (Sm.mul m199.sm m199.sm))
                obtain ⟨q328, e328⟩ := ex_eq (q323 * q323)
                have m329 : Num 100663339 (cr q325) q325 := Num.eqn e325 (Sm.mul m286.sm m208.sm)
                have m330 : Num 100663348 (cr q328) q328 := Num.eqn e328 (Sm.mul m327.sm m327.sm)
                have c331 : (Z0 < q323) := (DensSlopes_al332 Y0 Y1 e188 e194 e189 e195 e190 e196 e323 e1 e3 e184 e201 e202 e203 e207 e200 e288 e317 c2 c4 c187 c209 c287 c290 c295 c320)
                have c333 : ¬(q328 = Z0) := (fun z => Rat.ne_of_lt (s_mul_pp Y0 e328 c331 c331) z.symm)
                obtain ⟨q334, e334⟩ := ex_eq (q325 / q328)
                have d334 := div_mul Y0 e334 c333
                have hc335 : PureCalls prog F.dens_Transfer [.agg (gW [r0, r1, r2, r3, r4, r5]), .agg (gW [r6, r7, r8, r9, r10, r11]), .agg (gW [r12, r13, r14, r15, r16, r17, r18, r19, r20, r21, r22, r23])] [.agg (gD [q334])] := by
                  refine symFunc_sound hmix tree_dens_Transfer (by kernel_rfl) rfl ?_
                  unfold ir_dens_Transfer
                  simp only [HH, gW, gD]
                  refine call_step hc296 rfl ?_
                  simp only [HH, gW, gD]
                  refine primS (.bool false) rfl ?_
                  refine itF rfl ?_
                  refine cs1 (n_vec_Dot_0w m197 m198 m199 m197 m198 m199 (by decide) e323) ?_
                  refine primS (rl [(cr q200), (cr q207)]) rfl ?_
                  refine cs1 (n_rat_Product_2 (k0 := q325) (m286.mono (by decide)) (m208.mono (by decide)) e325) ?_
                  refine primS (rl [(cr q323), (cr q323)]) rfl ?_
                  refine cs1 (n_rat_Product_2 (k0 := q328) (m327.mono (by decide)) (m327.mono (by decide)) e328) ?_
                  simp only [HH, gW, gD]
                  refine cs1 (n_dens_over_1 Y0 (m329.mono (by decide)) (m330.mono (by decide)) e334 c333) ?_
                  exact ret_step rfl
                refine call_step hc335 rfl ?_
                simp only [HH, gW, gD]
                refine cs0 n_penumbralaw16_fixed ?_
                refine primS (.bool false) rfl ?_
                refine itF rfl ?_
                have m336 : Num 1012925351 (cr q321) q321 := Num.eqn e321 (Sm.div m318.sm m319.sm)
                refine cs0 (n_rat_Sign (m336.mono (by decide))) ?_
                refine primS (.bool false) (cs_lss_f (fun z => (t_wk (s_div_pp Y0 e321 (s_mul_pp Y0 e316 (s_mul_pp Y0 rfl (s_dns (b := Z0) Y0 e310) (s_dns (b := Z0) Y0 e312)) (t_lt c209 (fun z => c290 z.symm))) (s_mul_pp Y0 e317 (s_mul_pp Y0 rfl c287 c287) c287))) ((sg_lt Y0).1 z))) ?_
                refine itF rfl ?_
                have m337 : Num 201326687 (cr q334) q334 := Num.eqn e334 (Sm.div m329.sm m330.sm)
                refine cs0 (n_rat_Sign (m337.mono (by decide))) ?_
                simp only [HH, gW, gD]
                refine primS (.bool false) (cs_lss_f (fun z => (t_wk (s_div_pp Y0 e334 (s_mul_pp Y0 e325 c287 (t_lt c209 (fun z => c290 z.symm))) (s_mul_pp Y0 e328 c331 c331))) ((sg_lt Y0).1 z))) ?_
                refine itF rfl ?_
                refine cs0 (n_rat_Sign (m336.mono (by decide))) ?_
                refine cs0 (n_rat_Sign (m337.mono (by decide))) ?_
                have c338 : ¬(q321 = Z0) := (fun z => Rat.ne_of_lt (s_div_pp Y0 e321 (s_mul_pp Y0 e316 (s_mul_pp Y0 rfl (s_dns (b := Z0) Y0 e310) (s_dns (b := Z0) Y0 e312)) (t_lt c209 (fun z => c290 z.symm))) (s_mul_pp Y0 e317 (s_mul_pp Y0 rfl c287 c287) c287)) z.symm)
                have c339 : ¬(q334 = Z0) := (fun z => Rat.ne_of_lt (s_div_pp Y0 e334 (s_mul_pp Y0 e325 c287 (t_lt c209 (fun z => c290 z.symm))) (s_mul_pp Y0 e328 c331 c331)) z.symm)
                refine primS (.bool false) (ii_neq (sgn_p Y0 (t_wk (s_div_pp Y0 e321 (s_mul_pp Y0 e316 (s_mul_pp Y0 rfl (s_dns (b := Z0) Y0 e310) (s_dns (b := Z0) Y0 e312)) (t_lt c209 (fun z => c290 z.symm))) (s_mul_pp Y0 e317 (s_mul_pp Y0 rfl c287 c287) c287))) c338) (sgn_p Y0 (t_wk (s_div_pp Y0 e334 (s_mul_pp Y0 e325 c287 (t_lt c209 (fun z => c290 z.symm))) (s_mul_pp Y0 e328 c331 c331))) c339) rfl) ?_
                refine itF rfl ?_
                refine cs0 (n_rat_Sign (m336.mono (by decide))) ?_
                simp only [HH, gW, gD]
                refine primS (.bool false) (cs_eql_f (fun z => c338 ((sg_eq Y0).1 z))) ?_
                refine itF rfl ?_
                refine call_step (n_frame_Of_1 Ym2 Y0 Y1 (h3.mono (by decide)) (h4.mono (by decide)) (h5.mono (by decide)) e1 e3 e174 e175 e176 u177 u179 e181 u182 c2 c4) rfl ?_
                simp only [HH, gW, gD]
                refine cs3 (n_affine_Apply_0w h12 h13 h14 h15 h16 h17 h18 h19 h20 h21 h22 h23 h6 h7 h8 (by decide) e188 e189 e190) ?_
                refine cs3 (n_vec_Sub_0w m191 m192 m193 h0 h1 h2 (by decide) e194 e195 e196) ?_
                refine call_step (n_frame_Slopes_1w Y0 m297 m302 m303 m302 m304 m305 m303 m305 m306 m197 m198 m199 (by decide) e200 e307 e308 (fun z => Rat.ne_of_lt c287 z.symm)) rfl ?_
                simp only [HH, gW, gD]
                refine cs1 (n_rat_Of (1) (1) (by decide) (by decide) (by decide) (by decide) (Y1.trans (by decide +kernel))) ?_
                refine primS (rl [(cr q307), (cr q307)]) rfl ?_
                obtain ⟨q341, e341⟩ := ex_eq (q307 * q307)
                refine cs1 (n_rat_Product_2 (k0 := q341) (m309.mono (by decide)) (m309.mono (by decide)) e341) ?_
                refine primS (rl [(cr q308), (cr q308)]) rfl ?_
                obtain ⟨q343, e343⟩ := ex_eq (q308 * q308)
                refine cs1 (n_rat_Product_2 (k0 := q343) (m311.mono (by decide)) (m311.mono (by decide)) e343) ?_
                simp only [HH, gW, gD]
                refine primS (rl [(cr Z1), (cr q341), (cr q343)]) rfl ?_
                have m345 : Num 142606476 (cr q341) q341 := Num.eqn e341 (Sm.mul m309.sm m309.sm)
                have m346 : Num 142606476 (cr q343) q343 := Num.eqn e343 (Sm.mul m311.sm m311.sm)
                obtain ⟨q347, e347⟩ := ex_eq ((Z1 + q341) + q343)
                refine cs1 (n_rat_Sum_3 (k0 := q347) (m186.mono (by decide)) (m345.mono (by decide)) (m346.mono (by decide)) e347) ?_
                refine itT rfl ?_
                refine itT rfl ?_
                refine cs0 (n_rat_Sign (m286.mono (by decide))) ?_
                refine primS (.bool true) (cs_gtr_t ((sg_gt Y0).2 c287)) ?_
                refine itT rfl ?_
                refine cs1 (n_warp_Density (k0 := q310) (m309.mono (by decide)) e310) ?_
                simp only [HH, gW, gD]
                refine cs1 (n_warp_Density (k0 := q312) (m311.mono (by decide)) e312) ?_
                refine primS (rl [(cr q334), (cr q347), (cr q347), (cr q310), (cr q312)]) rfl ?_
                have m349 : Num 285212955 (cr q347) q347 := Num.eqn e347 (Sm.add (Sm.add m186.sm m345.sm) m346.sm)
                have u350 : q321 = ((((q334 * q347) * q347) * q310) * q312) := (DensSlopes_al351 Ym2 Y0 Y1 e188 e194 e3 d174 e175 e189 e195 e176 e190 e196 e200 d307 e310 e181 d308 e312 e201 e202 e203 e207 e316 e317 d321 e325 e323 e328 d334 e341 e343 e347 e1 e184 e288 c2 c4 c187 c209 c287 c290 c295 c320 c331 c333 c338 c339)
                refine cs1 (n_rat_Product_5 (k0 := q321) (m337.mono (by decide)) (m349.mono (by decide)) (m349.mono (by decide)) (m314.mono (by decide)) (m315.mono (by decide)) u350) ?_
                refine cs0 (n_penumbraref03_Is_t (m336.mono (by decide)) (m336.mono (by decide)) rfl) ?_
                simp only [HH, gW, gD]
                exact ret_step rfl
              · skip
                by_cases c352 : q288 = Z0
                · skip
                  have hc353 : PureCalls prog F.dens_seen [.agg (gW [r0, r1, r2, r3, r4, r5]), .agg (gW [r6, r7, r8, r9, r10, r11]), .agg (gW [r12, r13, r14, r15, r16, r17, r18, r19, r20, r21, r22, r23])] [.agg (gD [q175, q176, x3, q176, q181, x4, x3, x4, x5, q194, q195, q196, q200, q207]), .one (.bool false)] := by
                    refine symFunc_sound hmix tree_dens_seen (by kernel_rfl) rfl ?_
                    unfold ir_dens_seen
                    simp only [HH, gW, gD]
                    refine call_step (n_frame_Of_1 Ym2 Y0 Y1 (h3.mono (by decide)) (h4.mono (by decide)) (h5.mono (by decide)) e1 e3 e174 e175 e176 u177 u179 e181 u182 c2 c4) rfl ?_
                    simp only [HH, gW, gD]
                    refine primS (.bool false) rfl ?_
                    refine itF rfl ?_
                    refine cs1 (n_vec_Dot_0w h9 h10 h11 h9 h10 h11 (by decide) e184) ?_
                    refine cs1 (n_rat_Of (1) (1) (by decide) (by decide) (by decide) (by decide) (Y1.trans (by decide +kernel))) ?_
                    refine cs0 (n_rat_Same_t (m185.mono (by decide)) (m186.mono (by decide)) c187) ?_
                    simp only [HH, gW, gD]
                    refine primS (.bool false) rfl ?_
                    refine itF rfl ?_
                    refine cs3 (n_affine_Apply_0w h12 h13 h14 h15 h16 h17 h18 h19 h20 h21 h22 h23 h6 h7 h8 (by decide) e188 e189 e190) ?_
                    refine cs3 (n_vec_Sub_0w m191 m192 m193 h0 h1 h2 (by decide) e194 e195 e196) ?_
                    refine cs1 (n_vec_Dot_0w m197 m198 m199 h3 h4 h5 (by decide) e200) ?_
                    simp only [HH, gW, gD]
                    refine cs3 (n_affine_Area_0w h12 h13 h14 h15 h16 h17 h18 h19 h20 h21 h22 h23 h9 h10 h11 (by decide) e201 e202 e203) ?_
                    refine cs1 (n_vec_Dot_0w m204 m205 m206 m197 m198 m199 (by decide) e207) ?_
                    refine cs1 (n_rat_Abs_f Y0 (m208.mono (by decide)) c209) ?_
                    simp only [HH, gW, gD]
                    refine cs0 (n_rat_Sign (m286.mono (by decide))) ?_
                    refine primS (.bool true) (cs_gtr_t ((sg_gt Y0).2 c287)) ?_
                    refine itT rfl ?_
                    refine cs0 (n_rat_Sign (m208.mono (by decide))) ?_
                    refine cs1 (n_affine_Det_0w h12 h13 h14 h15 h16 h17 h18 h19 h20 h21 h22 h23 (by decide) e288) ?_
                    simp only [HH, gW, gD]
                    refine cs0 (n_rat_Sign (m289.mono (by decide))) ?_
                    refine primS (.int .i64 (0)) (ii_mul (sgn_p Y0 c209 c290) (sgn_z Y0 c352) rfl) ?_
                    refine primS (.bool false) rfl ?_
                    exact ret_step rfl
                  have hc354 : PureCalls prog F.dens_Ahead [.agg (gW [r0, r1, r2, r3, r4, r5]), .agg (gW [r6, r7, r8, r9, r10, r11]), .agg (gW [r12, r13, r14, r15, r16, r17, r18, r19, r20, r21, r22, r23])] [.agg (gD [Z0])] := by
                    refine symFunc_sound hmix tree_dens_Ahead (by kernel_rfl) rfl ?_
                    unfold ir_dens_Ahead
                    simp only [HH, gW, gD]
                    refine call_step hc353 rfl ?_
                    simp only [HH, gW, gD]
                    refine primS (.bool true) rfl ?_
                    refine itT rfl ?_
                    refine cs1 (n_rat_Of (0) (1) (by decide) (by decide) (by decide) (by decide) (Y0.trans (by decide +kernel))) ?_
                    exact ret_step rfl
                  refine call_step hc354 rfl ?_
                  simp only [HH, gW, gD]
                  have hc355 : PureCalls prog F.dens_Transfer [.agg (gW [r0, r1, r2, r3, r4, r5]), .agg (gW [r6, r7, r8, r9, r10, r11]), .agg (gW [r12, r13, r14, r15, r16, r17, r18, r19, r20, r21, r22, r23])] [.agg (gD [Z0])] := by
                    refine symFunc_sound hmix tree_dens_Transfer (by kernel_rfl) rfl ?_
                    unfold ir_dens_Transfer
                    simp only [HH, gW, gD]
                    refine call_step hc353 rfl ?_
                    simp only [HH, gW, gD]
                    refine primS (.bool true) rfl ?_
                    refine itT rfl ?_
                    refine cs1 (n_rat_Of (0) (1) (by decide) (by decide) (by decide) (by decide) (Y0.trans (by decide +kernel))) ?_
                    exact ret_step rfl
                  refine call_step hc355 rfl ?_
                  simp only [HH, gW, gD]
                  refine cs0 n_penumbralaw16_fixed ?_
                  refine primS (.bool false) rfl ?_
                  refine itF rfl ?_
                  have m356 : Num 1 (cr Z0) Z0 := Num.c Y0 (by decide +kernel) (by decide +kernel)
                  refine cs0 (n_rat_Sign (m356.mono (by decide))) ?_
                  refine primS (.bool false) (cs_lss_f (fun z => (Rat.lt_irrefl) ((sg_lt Y0).1 z))) ?_
                  refine itF rfl ?_
                  refine cs0 (n_rat_Sign (m356.mono (by decide))) ?_
                  simp only [HH, gW, gD]
                  refine primS (.bool false) (cs_lss_f (fun z => (Rat.lt_irrefl) ((sg_lt Y0).1 z))) ?_
                  refine itF rfl ?_
                  refine cs0 (n_rat_Sign (m356.mono (by decide))) ?_
                  refine cs0 (n_rat_Sign (m356.mono (by decide))) ?_
                  refine primS (.bool false) (ii_neq (sgn_z Y0 rfl) (sgn_z Y0 rfl) rfl) ?_
                  refine itF rfl ?_
                  refine cs0 (n_rat_Sign (m356.mono (by decide))) ?_
                  simp only [HH, gW, gD]
                  refine primS (.bool true) (cs_eql_t ((sg_eq Y0).2 rfl)) ?_
                  refine itT rfl ?_
                  exact ret_step rfl
                · skip
                  have hc357 : PureCalls prog F.dens_seen [.agg (gW [r0, r1, r2, r3, r4, r5]), .agg (gW [r6, r7, r8, r9, r10, r11]), .agg (gW [r12, r13, r14, r15, r16, r17, r18, r19, r20, r21, r22, r23])] [.agg (gD [q175, q176, x3, q176, q181, x4, x3, x4, x5, q194, q195, q196, q200, q207]), .one (.bool false)] := by
                    refine symFunc_sound hmix tree_dens_seen (by kernel_rfl) rfl ?_
                    unfold ir_dens_seen
                    simp only [HH, gW, gD]
                    refine call_step (n_frame_Of_1 Ym2 Y0 Y1 (h3.mono (by decide)) (h4.mono (by decide)) (h5.mono (by decide)) e1 e3 e174 e175 e176 u177 u179 e181 u182 c2 c4) rfl ?_
                    simp only [HH, gW, gD]
                    refine primS (.bool false) rfl ?_
                    refine itF rfl ?_
                    refine cs1 (n_vec_Dot_0w h9 h10 h11 h9 h10 h11 (by decide) e184) ?_
                    refine cs1 (n_rat_Of (1) (1) (by decide) (by decide) (by decide) (by decide) (Y1.trans (by decide +kernel))) ?_
                    refine cs0 (n_rat_Same_t (m185.mono (by decide)) (m186.mono (by decide)) c187) ?_
                    simp only [HH, gW, gD]
                    refine primS (.bool false) rfl ?_
                    refine itF rfl ?_
                    refine cs3 (n_affine_Apply_0w h12 h13 h14 h15 h16 h17 h18 h19 h20 h21 h22 h23 h6 h7 h8 (by decide) e188 e189 e190) ?_
                    refine cs3 (n_vec_Sub_0w m191 m192 m193 h0 h1 h2 (by decide) e194 e195 e196) ?_
                    refine cs1 (n_vec_Dot_0w m197 m198 m199 h3 h4 h5 (by decide) e200) ?_
                    simp only [HH, gW, gD]
                    refine cs3 (n_affine_Area_0w h12 h13 h14 h15 h16 h17 h18 h19 h20 h21 h22 h23 h9 h10 h11 (by decide) e201 e202 e203) ?_
                    refine cs1 (n_vec_Dot_0w m204 m205 m206 m197 m198 m199 (by decide) e207) ?_
                    refine cs1 (n_rat_Abs_f Y0 (m208.mono (by decide)) c209) ?_
                    simp only [HH, gW, gD]
                    refine cs0 (n_rat_Sign (m286.mono (by decide))) ?_
                    refine primS (.bool true) (cs_gtr_t ((sg_gt Y0).2 c287)) ?_
                    refine itT rfl ?_
                    refine cs0 (n_rat_Sign (m208.mono (by decide))) ?_
                    refine cs1 (n_affine_Det_0w h12 h13 h14 h15 h16 h17 h18 h19 h20 h21 h22 h23 (by decide) e288) ?_
                    simp only [HH, gW, gD]
                    refine cs0 (n_rat_Sign (m289.mono (by decide))) ?_
                    refine primS (.int .i64 (1)) (ii_mul (sgn_p Y0 c209 c290) (sgn_p Y0 c295 c352) rfl) ?_
                    refine primS (.bool false) rfl ?_
                    exact ret_step rfl
                  have hc358 : PureCalls prog F.dens_Ahead [.agg (gW [r0, r1, r2, r3, r4, r5]), .agg (gW [r6, r7, r8, r9, r10, r11]), .agg (gW [r12, r13, r14, r15, r16, r17, r18, r19, r20, r21, r22, r23])] [.agg (gD [Z0])] := by
                    refine symFunc_sound hmix tree_dens_Ahead (by kernel_rfl) rfl ?_
                    unfold ir_dens_Ahead
                    simp only [HH, gW, gD]
                    refine call_step hc357 rfl ?_
                    simp only [HH, gW, gD]
                    refine primS (.bool true) rfl ?_
                    refine itT rfl ?_
                    refine cs1 (n_rat_Of (0) (1) (by decide) (by decide) (by decide) (by decide) (Y0.trans (by decide +kernel))) ?_
                    exact ret_step rfl
                  refine call_step hc358 rfl ?_
                  simp only [HH, gW, gD]
                  have hc359 : PureCalls prog F.dens_Transfer [.agg (gW [r0, r1, r2, r3, r4, r5]), .agg (gW [r6, r7, r8, r9, r10, r11]), .agg (gW [r12, r13, r14, r15, r16, r17, r18, r19, r20, r21, r22, r23])] [.agg (gD [Z0])] := by
                    refine symFunc_sound hmix tree_dens_Transfer (by kernel_rfl) rfl ?_
                    unfold ir_dens_Transfer
                    simp only [HH, gW, gD]
                    refine call_step hc357 rfl ?_
                    simp only [HH, gW, gD]
                    refine primS (.bool true) rfl ?_
                    refine itT rfl ?_
                    refine cs1 (n_rat_Of (0) (1) (by decide) (by decide) (by decide) (by decide) (Y0.trans (by decide +kernel))) ?_
                    exact ret_step rfl
                  refine call_step hc359 rfl ?_
                  simp only [HH, gW, gD]
                  refine cs0 n_penumbralaw16_fixed ?_
                  refine primS (.bool false) rfl ?_
                  refine itF rfl ?_
                  have m360 : Num 1 (cr Z0) Z0 := Num.c Y0 (by decide +kernel) (by decide +kernel)
                  refine cs0 (n_rat_Sign (m360.mono (by decide))) ?_
                  refine primS (.bool false) (cs_lss_f (fun z => (Rat.lt_irrefl) ((sg_lt Y0).1 z))) ?_
                  refine itF rfl ?_
                  refine cs0 (n_rat_Sign (m360.mono (by decide))) ?_
                  simp only [HH, gW, gD]
                  refine primS (.bool false) (cs_lss_f (fun z => (Rat.lt_irrefl) ((sg_lt Y0).1 z))) ?_
                  refine itF rfl ?_
                  refine cs0 (n_rat_Sign (m360.mono (by decide))) ?_
                  refine cs0 (n_rat_Sign (m360.mono (by decide))) ?_
                  refine primS (.bool false) (ii_neq (sgn_z Y0 rfl) (sgn_z Y0 rfl) rfl) ?_
                  refine itF rfl ?_
                  refine cs0 (n_rat_Sign (m360.mono (by decide))) ?_
                  simp only [HH, gW, gD]
                  refine primS (.bool true) (cs_eql_t ((sg_eq Y0).2 rfl)) ?_
                  refine itT rfl ?_
                  exact ret_step rfl
          · skip
            have hc361 : PureCalls prog F.dens_seen [.agg (gW [r0, r1, r2, r3, r4, r5]), .agg (gW [r6, r7, r8, r9, r10, r11]), .agg (gW [r12, r13, r14, r15, r16, r17, r18, r19, r20, r21, r22, r23])] [.agg (gD [q175, q176, x3, q176, q181, x4, x3, x4, x5, q194, q195, q196, q200, q207]), .one (.bool false)] := by
              refine symFunc_sound hmix tree_dens_seen (by kernel_rfl) rfl ?_
              unfold ir_dens_seen
              simp only [HH, gW, gD]
              refine call_step (n_frame_Of_1 Ym2 Y0 Y1 (h3.mono (by decide)) (h4.mono (by decide)) (h5.mono (by decide)) e1 e3 e174 e175 e176 u177 u179 e181 u182 c2 c4) rfl ?_
              simp only [HH, gW, gD]
              refine primS (.bool false) rfl ?_
              refine itF rfl ?_
              refine cs1 (n_vec_Dot_0w h9 h10 h11 h9 h10 h11 (by decide) e184) ?_
              refine cs1 (n_rat_Of (1) (1) (by decide) (by decide) (by decide) (by decide) (Y1.trans (by decide +kernel))) ?_
              refine cs0 (n_rat_Same_t (m185.mono (by decide)) (m186.mono (by decide)) c187) ?_
              simp only [HH, gW, gD]
              refine primS (.bool false) rfl ?_
              refine itF rfl ?_
              refine cs3 (n_affine_Apply_0w h12 h13 h14 h15 h16 h17 h18 h19 h20 h21 h22 h23 h6 h7 h8 (by decide) e188 e189 e190) ?_
              refine cs3 (n_vec_Sub_0w m191 m192 m193 h0 h1 h2 (by decide) e194 e195 e196) ?_
              refine cs1 (n_vec_Dot_0w m197 m198 m199 h3 h4 h5 (by decide) e200) ?_
              simp only [HH, gW, gD]
              refine cs3 (n_affine_Area_0w h12 h13 h14 h15 h16 h17 h18 h19 h20 h21 h22 h23 h9 h10 h11 (by decide) e201 e202 e203) ?_
              refine cs1 (n_vec_Dot_0w m204 m205 m206 m197 m198 m199 (by decide) e207) ?_
              refine cs1 (n_rat_Abs_f Y0 (m208.mono (by decide)) c209) ?_
              simp only [HH, gW, gD]
              refine cs0 (n_rat_Sign (m286.mono (by decide))) ?_
              refine primS (.bool false) (cs_gtr_f (fun z => c287 ((sg_gt Y0).1 z))) ?_
              refine itF rfl ?_
              exact ret_step rfl
            have hc362 : PureCalls prog F.dens_Ahead [.agg (gW [r0, r1, r2, r3, r4, r5]), .agg (gW [r6, r7, r8, r9, r10, r11]), .agg (gW [r12, r13, r14, r15, r16, r17, r18, r19, r20, r21, r22, r23])] [.agg (gD [Z0])] := by
              refine symFunc_sound hmix tree_dens_Ahead (by kernel_rfl) rfl ?_
              unfold ir_dens_Ahead
              simp only [HH, gW, gD]
              refine call_step hc361 rfl ?_
              simp only [HH, gW, gD]
              refine primS (.bool true) rfl ?_
              refine itT rfl ?_
              refine cs1 (n_rat_Of (0) (1) (by decide) (by decide) (by decide) (by decide) (Y0.trans (by decide +kernel))) ?_
              exact ret_step rfl
            refine call_step hc362 rfl ?_
            simp only [HH, gW, gD]
            have hc363 : PureCalls prog F.dens_Transfer [.agg (gW [r0, r1, r2, r3, r4, r5]), .agg (gW [r6, r7, r8, r9, r10, r11]), .agg (gW [r12, r13, r14, r15, r16, r17, r18, r19, r20, r21, r22, r23])] [.agg (gD [Z0])] := by
              refine symFunc_sound hmix tree_dens_Transfer (by kernel_rfl) rfl ?_
              unfold ir_dens_Transfer
              simp only [HH, gW, gD]
              refine call_step hc361 rfl ?_
              simp only [HH, gW, gD]
              refine primS (.bool true) rfl ?_
              refine itT rfl ?_
              refine cs1 (n_rat_Of (0) (1) (by decide) (by decide) (by decide) (by decide) (Y0.trans (by decide +kernel))) ?_
              exact ret_step rfl
            refine call_step hc363 rfl ?_
            simp only [HH, gW, gD]
            refine cs0 n_penumbralaw16_fixed ?_
            refine primS (.bool false) rfl ?_
            refine itF rfl ?_
            have m364 : Num 1 (cr Z0) Z0 := Num.c Y0 (by decide +kernel) (by decide +kernel)
            refine cs0 (n_rat_Sign (m364.mono (by decide))) ?_
            refine primS (.bool false) (cs_lss_f (fun z => (Rat.lt_irrefl) ((sg_lt Y0).1 z))) ?_
            refine itF rfl ?_
            refine cs0 (n_rat_Sign (m364.mono (by decide))) ?_
            simp only [HH, gW, gD]
            refine primS (.bool false) (cs_lss_f (fun z => (Rat.lt_irrefl) ((sg_lt Y0).1 z))) ?_
            refine itF rfl ?_
            refine cs0 (n_rat_Sign (m364.mono (by decide))) ?_
            refine cs0 (n_rat_Sign (m364.mono (by decide))) ?_
            refine primS (.bool false) (ii_neq (sgn_z Y0 rfl) (sgn_z Y0 rfl) rfl) ?_
            refine itF rfl ?_
            refine cs0 (n_rat_Sign (m364.mono (by decide))) ?_
            simp only [HH, gW, gD]
            refine primS (.bool true) (cs_eql_t ((sg_eq Y0).2 rfl)) ?_
            refine itT rfl ?_
            exact ret_step rfl
      · skip
        have hc365 : PureCalls prog F.dens_seen [.agg (gW [r0, r1, r2, r3, r4, r5]), .agg (gW [r6, r7, r8, r9, r10, r11]), .agg (gW [r12, r13, r14, r15, r16, r17, r18, r19, r20, r21, r22, r23])] [.agg (gW [rz, rz, rz, rz, rz, rz, rz, rz, rz, rz, rz, rz, rz, rz]), .one (.bool false)] := by
          refine symFunc_sound hmix tree_dens_seen (by kernel_rfl) rfl ?_
          unfold ir_dens_seen
          simp only [HH, gW, gD]
          refine call_step (n_frame_Of_1 Ym2 Y0 Y1 (h3.mono (by decide)) (h4.mono (by decide)) (h5.mono (by decide)) e1 e3 e174 e175 e176 u177 u179 e181 u182 c2 c4) rfl ?_
          simp only [HH, gW, gD]
          refine primS (.bool false) rfl ?_
          refine itF rfl ?_
          refine cs1 (n_vec_Dot_0w h9 h10 h11 h9 h10 h11 (by decide) e184) ?_
          refine cs1 (n_rat_Of (1) (1) (by decide) (by decide) (by decide) (by decide) (Y1.trans (by decide +kernel))) ?_
          refine cs0 (n_rat_Same_f (m185.mono (by decide)) (m186.mono (by decide)) c187) ?_
          simp only [HH, gW, gD]
          refine primS (.bool true) rfl ?_
          refine itT rfl ?_
          exact ret_step rfl
        have hc366 : PureCalls prog F.dens_Ahead [.agg (gW [r0, r1, r2, r3, r4, r5]), .agg (gW [r6, r7, r8, r9, r10, r11]), .agg (gW [r12, r13, r14, r15, r16, r17, r18, r19, r20, r21, r22, r23])] [.agg (gD [Z0])] := by
          refine symFunc_sound hmix tree_dens_Ahead (by kernel_rfl) rfl ?_
          unfold ir_dens_Ahead
          simp only [HH, gW, gD]
          refine call_step hc365 rfl ?_
          simp only [HH, gW, gD]
          refine primS (.bool true) rfl ?_
          refine itT rfl ?_
          refine cs1 (n_rat_Of (0) (1) (by decide) (by decide) (by decide) (by decide) (Y0.trans (by decide +kernel))) ?_
          exact ret_step rfl
        refine call_step hc366 rfl ?_
        simp only [HH, gW, gD]
        have hc367 : PureCalls prog F.dens_Transfer [.agg (gW [r0, r1, r2, r3, r4, r5]), .agg (gW [r6, r7, r8, r9, r10, r11]), .agg (gW [r12, r13, r14, r15, r16, r17, r18, r19, r20, r21, r22, r23])] [.agg (gD [Z0])] := by
          refine symFunc_sound hmix tree_dens_Transfer (by kernel_rfl) rfl ?_
          unfold ir_dens_Transfer
          simp only [HH, gW, gD]
          refine call_step hc365 rfl ?_
          simp only [HH, gW, gD]
          refine primS (.bool true) rfl ?_
          refine itT rfl ?_
          refine cs1 (n_rat_Of (0) (1) (by decide) (by decide) (by decide) (by decide) (Y0.trans (by decide +kernel))) ?_
          exact ret_step rfl
        refine call_step hc367 rfl ?_
        simp only [HH, gW, gD]
        refine cs0 n_penumbralaw16_fixed ?_
        refine primS (.bool false) rfl ?_
        refine itF rfl ?_
        have m368 : Num 1 (cr Z0) Z0 := Num.c Y0 (by decide +kernel) (by decide +kernel)
        refine cs0 (n_rat_Sign (m368.mono (by decide))) ?_
        refine primS (.bool false) (cs_lss_f (fun z => (Rat.lt_irrefl) ((sg_lt Y0).1 z))) ?_
        refine itF rfl ?_
        refine cs0 (n_rat_Sign (m368.mono (by decide))) ?_
        simp only [HH, gW, gD]
        refine primS (.bool false) (cs_lss_f (fun z => (Rat.lt_irrefl) ((sg_lt Y0).1 z))) ?_
        refine itF rfl ?_
        refine cs0 (n_rat_Sign (m368.mono (by decide))) ?_
        refine cs0 (n_rat_Sign (m368.mono (by decide))) ?_
        refine primS (.bool false) (ii_neq (sgn_z Y0 rfl) (sgn_z Y0 rfl) rfl) ?_
        refine itF rfl ?_
        refine cs0 (n_rat_Sign (m368.mono (by decide))) ?_
        simp only [HH, gW, gD]
        refine primS (.bool true) (cs_eql_t ((sg_eq Y0).2 rfl)) ?_
        refine itT rfl ?_
        exact ret_step rfl
  · skip
    have hc369 : PureCalls prog F.dens_seen [.agg (gW [r0, r1, r2, r3, r4, r5]), .agg (gW [r6, r7, r8, r9, r10, r11]), .agg (gW [r12, r13, r14, r15, r16, r17, r18, r19, r20, r21, r22, r23])] [.agg (gW [rz, rz, rz, rz, rz, rz, rz, rz, rz, rz, rz, rz, rz, rz]), .one (.bool false)] := by
      refine symFunc_sound hmix tree_dens_seen (by kernel_rfl) rfl ?_
      unfold ir_dens_seen
      simp only [HH, gW, gD]
      refine call_step (n_frame_Of_2 Y0 Y1 (h3.mono (by decide)) (h4.mono (by decide)) (h5.mono (by decide)) e1 c2) rfl ?_
      simp only [HH, gW, gD]
      refine primS (.bool true) rfl ?_
      refine itT rfl ?_
      exact ret_step rfl
    have hc370 : PureCalls prog F.dens_Ahead [.agg (gW [r0, r1, r2, r3, r4, r5]), .agg (gW [r6, r7, r8, r9, r10, r11]), .agg (gW [r12, r13, r14, r15, r16, r17, r18, r19, r20, r21, r22, r23])] [.agg (gD [Z0])] := by
      refine symFunc_sound hmix tree_dens_Ahead (by kernel_rfl) rfl ?_
      unfold ir_dens_Ahead
      simp only [HH, gW, gD]
      refine call_step hc369 rfl ?_
      simp only [HH, gW, gD]
      refine primS (.bool true) rfl ?_
      refine itT rfl ?_
      refine cs1 (n_rat_Of (0) (1) (by decide) (by decide) (by decide) (by decide) (Y0.trans (by decide +kernel))) ?_
      exact ret_step rfl
    refine call_step hc370 rfl ?_
    simp only [HH, gW, gD]
    have hc371 : PureCalls prog F.dens_Transfer [.agg (gW [r0, r1, r2, r3, r4, r5]), .agg (gW [r6, r7, r8, r9, r10, r11]), .agg (gW [r12, r13, r14, r15, r16, r17, r18, r19, r20, r21, r22, r23])] [.agg (gD [Z0])] := by
      refine symFunc_sound hmix tree_dens_Transfer (by kernel_rfl) rfl ?_
      unfold ir_dens_Transfer
      simp only [HH, gW, gD]
      refine call_step hc369 rfl ?_
      simp only [HH, gW, gD]
      refine primS (.bool true) rfl ?_
      refine itT rfl ?_
      refine cs1 (n_rat_Of (0) (1) (by decide) (by decide) (by decide) (by decide) (Y0.trans (by decide +kernel))) ?_
      exact ret_step rfl
    refine call_step hc371 rfl ?_
    simp only [HH, gW, gD]
    refine cs0 n_penumbralaw16_fixed ?_
    refine primS (.bool false) rfl ?_
    refine itF rfl ?_
    have m372 : Num 1 (cr Z0) Z0 := Num.c Y0 (by decide +kernel) (by decide +kernel)
    refine cs0 (n_rat_Sign (m372.mono (by decide))) ?_
    refine primS (.bool false) (cs_lss_f (fun z => (Rat.lt_irrefl) ((sg_lt Y0).1 z))) ?_
    refine itF rfl ?_
    refine cs0 (n_rat_Sign (m372.mono (by decide))) ?_
    simp only [HH, gW, gD]
    refine primS (.bool false) (cs_lss_f (fun z => (Rat.lt_irrefl) ((sg_lt Y0).1 z))) ?_
    refine itF rfl ?_
    refine cs0 (n_rat_Sign (m372.mono (by decide))) ?_
    refine cs0 (n_rat_Sign (m372.mono (by decide))) ?_
    refine primS (.bool false) (ii_neq (sgn_z Y0 rfl) (sgn_z Y0 rfl) rfl) ?_
    refine itF rfl ?_
    refine cs0 (n_rat_Sign (m372.mono (by decide))) ?_
    simp only [HH, gW, gD]
    refine primS (.bool true) (cs_eql_t ((sg_eq Y0).2 rfl)) ?_
    refine itT rfl ?_
    exact ret_step rfl

end Go.Px.Na

/- QFrameRight: whatever the numbers, the law tells true. -/
import Derived.Test.YtbpadnlpkdmkmaaXFrameRight
set_option maxRecDepth 20000
set_option maxHeartbeats 40000000
set_option linter.unusedVariables false
set_option linter.unusedSimpArgs false
namespace Go.Px.Na
open Go.RowKit
open Go.Proofs.Try (prog)

theorem get9_step {P : Program} {As : List (List DV → Prop)} {Q : List AV → Prop} {ρ : List DV} {n : Nat} {k : IR} {l : List (RR × RR × RR)} {i : Int} {a b c : RR} (hx : ρ[n]? = some (rl3 l)) (h0 : 0 ≤ i) (h : l[i.toNat]? = some (a, b, c)) (K : IRwp P As (ρ ++ v3 a b c) k Q) :
    IRwp P As ρ (.prim (.get 9 0) [.var n, .int .i64 i] <| .prim (.get 9 1) [.var n, .int .i64 i] <| .prim (.get 9 2) [.var n, .int .i64 i] <| .prim (.get 9 3) [.var n, .int .i64 i] <| .prim (.get 9 4) [.var n, .int .i64 i] <| .prim (.get 9 5) [.var n, .int .i64 i] <| .prim (.get 9 6) [.var n, .int .i64 i] <| .prim (.get 9 7) [.var n, .int .i64 i] <| .prim (.get 9 8) [.var n, .int .i64 i] <| k) Q := by
  have e : ∀ s, A.ev (ρ ++ s) (.var n) = rl3 l := fun s => by
    have hn := (List.getElem?_eq_some_iff.1 hx).1
    simp only [A.ev, List.getD_eq_getElem?_getD, List.getElem?_append_left hn, hx, Option.getD_some]
  have e0 := e []
  rw [List.append_nil] at e0
  have st : ∀ (s : List DV) (o : Nat) (d : DV), o < 9 → (v3 a b c)[o]? = some d → Prim.den (.get 9 o) ([.var n, .int .i64 i].map (A.ev (ρ ++ s))) = some d := fun s o d ho hd => by
    simp only [List.map_cons, List.map_nil, e s]
    exact (d_get9 h0 h o ho).trans hd
  rw [← List.append_nil ρ]
  refine primS (.bool a.neg) (st _ 0 _ (by decide) rfl) ?_
  rw [List.append_assoc]
  refine primS (nl a.num) (st _ 1 _ (by decide) rfl) ?_
  rw [List.append_assoc]
  refine primS (nl a.den) (st _ 2 _ (by decide) rfl) ?_
  rw [List.append_assoc]
  refine primS (.bool b.neg) (st _ 3 _ (by decide) rfl) ?_
  rw [List.append_assoc]
  refine primS (nl b.num) (st _ 4 _ (by decide) rfl) ?_
  rw [List.append_assoc]
  refine primS (nl b.den) (st _ 5 _ (by decide) rfl) ?_
  rw [List.append_assoc]
  refine primS (.bool c.neg) (st _ 6 _ (by decide) rfl) ?_
  rw [List.append_assoc]
  refine primS (nl c.num) (st _ 7 _ (by decide) rfl) ?_
  rw [List.append_assoc]
  refine primS (nl c.den) (st _ 8 _ (by decide) rfl) ?_
  rw [List.append_assoc]
  exact K
theorem FrameRight_al14 {Z0 : Rat} (Y0 : Z0 = (0 : Rat)) {x0 : Rat} (z5 : (Z0 - x0) = Z0) : Z0 = x0 := by
  subst Y0
  grind

theorem FrameRight_al16 {Z0 : Rat} (Y0 : Z0 = (0 : Rat)) {x1 : Rat} (z6 : (Z0 - x1) = Z0) : Z0 = x1 := by
  subst Y0
  grind

theorem FrameRight_al18 {Z0 Z1 : Rat} (Y0 : Z0 = (0 : Rat)) (Y1 : Z1 = (1 : Rat)) {x2 : Rat} (z7 : (Z1 - x2) = Z0) : Z1 = x2 := by
  subst Y0 Y1
  grind

theorem FrameRight_al21 {Z0 Z1 : Rat} (Y0 : Z0 = (0 : Rat)) (Y1 : Z1 = (1 : Rat)) {x3 x4 x5 : Rat}  : x3 = (((x3 * Z1) + (x4 * Z0)) + (x5 * Z0)) := by
  subst Y0 Y1
  grind

theorem FrameRight_al23 {Z0 Z1 : Rat} (Y0 : Z0 = (0 : Rat)) (Y1 : Z1 = (1 : Rat)) {x4 x3 x5 : Rat}  : x4 = (((x3 * Z0) + (x4 * Z1)) + (x5 * Z0)) := by
  subst Y0 Y1
  grind

theorem FrameRight_al25 {Z0 Z1 : Rat} (Y0 : Z0 = (0 : Rat)) (Y1 : Z1 = (1 : Rat)) {x5 x3 x4 : Rat}  : x5 = (((x3 * Z0) + (x4 * Z0)) + (x5 * Z1)) := by
  subst Y0 Y1
  grind

theorem FrameRight_al30 {Z0 Z1 : Rat} (Y0 : Z0 = (0 : Rat)) (Y1 : Z1 = (1 : Rat)) {x6 x7 x8 : Rat}  : x6 = (((x6 * Z1) + (x7 * Z0)) + (x8 * Z0)) := by
  subst Y0 Y1
  grind

theorem FrameRight_al32 {Z0 Z1 : Rat} (Y0 : Z0 = (0 : Rat)) (Y1 : Z1 = (1 : Rat)) {x7 x6 x8 : Rat}  : x7 = (((x6 * Z0) + (x7 * Z1)) + (x8 * Z0)) := by
  subst Y0 Y1
  grind

theorem FrameRight_al34 {Z0 Z1 : Rat} (Y0 : Z0 = (0 : Rat)) (Y1 : Z1 = (1 : Rat)) {x8 x6 x7 : Rat}  : x8 = (((x6 * Z0) + (x7 * Z0)) + (x8 * Z1)) := by
  subst Y0 Y1
  grind

theorem FrameRight_al44 {Zm2 Z0 Z1 : Rat} (Ym2 : Zm2 = (-2 : Rat)) (Y0 : Z0 = (0 : Rat)) (Y1 : Z1 = (1 : Rat)) {x0 q40 q3 x1 x2 q1 : Rat} (e3 : q3 = ((((Z0 - x0) * (Z0 - x0)) + ((Z0 - x1) * (Z0 - x1))) + ((Z1 - x2) * (Z1 - x2)))) (d40 : q40 * q3 = Zm2) (e1 : q1 = (((x0 * x0) + (x1 * x1)) + (x2 * x2))) (c2 : q1 = Z1) (c4 : ¬q3 = Z0) : x0 = (Z0 + ((q40 * (Z0 - x0)) * (Z1 - x2))) := by
  subst Ym2 Y0 Y1 e3 e1
  grind

theorem FrameRight_al46 {Zm2 Z0 Z1 : Rat} (Ym2 : Zm2 = (-2 : Rat)) (Y0 : Z0 = (0 : Rat)) (Y1 : Z1 = (1 : Rat)) {q42 q40 q3 x0 x1 x2 q1 : Rat} (e3 : q3 = ((((Z0 - x0) * (Z0 - x0)) + ((Z0 - x1) * (Z0 - x1))) + ((Z1 - x2) * (Z1 - x2)))) (d40 : q40 * q3 = Zm2) (e42 : q42 = (Z0 + ((q40 * (Z0 - x0)) * (Z0 - x1)))) (e1 : q1 = (((x0 * x0) + (x1 * x1)) + (x2 * x2))) (c2 : q1 = Z1) (c4 : ¬q3 = Z0) : q42 = (Z0 + ((q40 * (Z0 - x1)) * (Z0 - x0))) := by
  subst Ym2 Y0 Y1 e3 e42 e1
  grind

theorem FrameRight_al49 {Zm2 Z0 Z1 : Rat} (Ym2 : Zm2 = (-2 : Rat)) (Y0 : Z0 = (0 : Rat)) (Y1 : Z1 = (1 : Rat)) {x1 q40 q3 x0 x2 q1 : Rat} (e3 : q3 = ((((Z0 - x0) * (Z0 - x0)) + ((Z0 - x1) * (Z0 - x1))) + ((Z1 - x2) * (Z1 - x2)))) (d40 : q40 * q3 = Zm2) (e1 : q1 = (((x0 * x0) + (x1 * x1)) + (x2 * x2))) (c2 : q1 = Z1) (c4 : ¬q3 = Z0) : x1 = (Z0 + ((q40 * (Z0 - x1)) * (Z1 - x2))) := by
  subst Ym2 Y0 Y1 e3 e1
  grind

theorem FrameRight_al60 {Zm2 Z0 Z1 : Rat} (Ym2 : Zm2 = (-2 : Rat)) (Y0 : Z0 = (0 : Rat)) (Y1 : Z1 = (1 : Rat)) {q41 q40 q3 x0 x1 x2 q42 q1 : Rat} (e3 : q3 = ((((Z0 - x0) * (Z0 - x0)) + ((Z0 - x1) * (Z0 - x1))) + ((Z1 - x2) * (Z1 - x2)))) (d40 : q40 * q3 = Zm2) (e41 : q41 = (Z1 + ((q40 * (Z0 - x0)) * (Z0 - x0)))) (e42 : q42 = (Z0 + ((q40 * (Z0 - x0)) * (Z0 - x1)))) (e1 : q1 = (((x0 * x0) + (x1 * x1)) + (x2 * x2))) (c2 : q1 = Z1) (c4 : ¬q3 = Z0) : Z1 = (((q41 * q41) + (q42 * q42)) + (x0 * x0)) := by
  subst Ym2 Y0 Y1 e3 e41 e42 e1
  grind

theorem FrameRight_al64 {Zm2 Z0 Z1 : Rat} (Ym2 : Zm2 = (-2 : Rat)) (Y0 : Z0 = (0 : Rat)) (Y1 : Z1 = (1 : Rat)) {q41 q40 q3 x0 x1 x2 q42 q47 q1 : Rat} (e3 : q3 = ((((Z0 - x0) * (Z0 - x0)) + ((Z0 - x1) * (Z0 - x1))) + ((Z1 - x2) * (Z1 - x2)))) (d40 : q40 * q3 = Zm2) (e41 : q41 = (Z1 + ((q40 * (Z0 - x0)) * (Z0 - x0)))) (e42 : q42 = (Z0 + ((q40 * (Z0 - x0)) * (Z0 - x1)))) (e47 : q47 = (Z1 + ((q40 * (Z0 - x1)) * (Z0 - x1)))) (e1 : q1 = (((x0 * x0) + (x1 * x1)) + (x2 * x2))) (c2 : q1 = Z1) (c4 : ¬q3 = Z0) : Z0 = (((q41 * q42) + (q42 * q47)) + (x0 * x1)) := by
  subst Ym2 Y0 Y1 e3 e41 e42 e47 e1
  grind

theorem FrameRight_al67 {Zm2 Z0 Z1 : Rat} (Ym2 : Zm2 = (-2 : Rat)) (Y0 : Z0 = (0 : Rat)) (Y1 : Z1 = (1 : Rat)) {q41 q40 q3 x0 x1 x2 q42 q1 : Rat} (e3 : q3 = ((((Z0 - x0) * (Z0 - x0)) + ((Z0 - x1) * (Z0 - x1))) + ((Z1 - x2) * (Z1 - x2)))) (d40 : q40 * q3 = Zm2) (e41 : q41 = (Z1 + ((q40 * (Z0 - x0)) * (Z0 - x0)))) (e42 : q42 = (Z0 + ((q40 * (Z0 - x0)) * (Z0 - x1)))) (e1 : q1 = (((x0 * x0) + (x1 * x1)) + (x2 * x2))) (c2 : q1 = Z1) (c4 : ¬q3 = Z0) : Z0 = (((q41 * x0) + (q42 * x1)) + (x0 * x2)) := by
  subst Ym2 Y0 Y1 e3 e41 e42 e1
  grind

theorem FrameRight_al69 {Zm2 Z0 Z1 : Rat} (Ym2 : Zm2 = (-2 : Rat)) (Y0 : Z0 = (0 : Rat)) (Y1 : Z1 = (1 : Rat)) {q42 q40 q3 x0 x1 x2 q41 q47 q1 : Rat} (e3 : q3 = ((((Z0 - x0) * (Z0 - x0)) + ((Z0 - x1) * (Z0 - x1))) + ((Z1 - x2) * (Z1 - x2)))) (d40 : q40 * q3 = Zm2) (e42 : q42 = (Z0 + ((q40 * (Z0 - x0)) * (Z0 - x1)))) (e41 : q41 = (Z1 + ((q40 * (Z0 - x0)) * (Z0 - x0)))) (e47 : q47 = (Z1 + ((q40 * (Z0 - x1)) * (Z0 - x1)))) (e1 : q1 = (((x0 * x0) + (x1 * x1)) + (x2 * x2))) (c2 : q1 = Z1) (c4 : ¬q3 = Z0) : Z0 = (((q42 * q41) + (q47 * q42)) + (x1 * x0)) := by
  subst Ym2 Y0 Y1 e3 e42 e41 e47 e1
  grind

theorem FrameRight_al71 {Zm2 Z0 Z1 : Rat} (Ym2 : Zm2 = (-2 : Rat)) (Y0 : Z0 = (0 : Rat)) (Y1 : Z1 = (1 : Rat)) {q42 q40 q3 x0 x1 x2 q47 q1 : Rat} (e3 : q3 = ((((Z0 - x0) * (Z0 - x0)) + ((Z0 - x1) * (Z0 - x1))) + ((Z1 - x2) * (Z1 - x2)))) (d40 : q40 * q3 = Zm2) (e42 : q42 = (Z0 + ((q40 * (Z0 - x0)) * (Z0 - x1)))) (e47 : q47 = (Z1 + ((q40 * (Z0 - x1)) * (Z0 - x1)))) (e1 : q1 = (((x0 * x0) + (x1 * x1)) + (x2 * x2))) (c2 : q1 = Z1) (c4 : ¬q3 = Z0) : Z1 = (((q42 * q42) + (q47 * q47)) + (x1 * x1)) := by
  subst Ym2 Y0 Y1 e3 e42 e47 e1
  grind

theorem FrameRight_al73 {Zm2 Z0 Z1 : Rat} (Ym2 : Zm2 = (-2 : Rat)) (Y0 : Z0 = (0 : Rat)) (Y1 : Z1 = (1 : Rat)) {q42 q40 q3 x0 x1 x2 q47 q1 : Rat} (e3 : q3 = ((((Z0 - x0) * (Z0 - x0)) + ((Z0 - x1) * (Z0 - x1))) + ((Z1 - x2) * (Z1 - x2)))) (d40 : q40 * q3 = Zm2) (e42 : q42 = (Z0 + ((q40 * (Z0 - x0)) * (Z0 - x1)))) (e47 : q47 = (Z1 + ((q40 * (Z0 - x1)) * (Z0 - x1)))) (e1 : q1 = (((x0 * x0) + (x1 * x1)) + (x2 * x2))) (c2 : q1 = Z1) (c4 : ¬q3 = Z0) : Z0 = (((q42 * x0) + (q47 * x1)) + (x1 * x2)) := by
  subst Ym2 Y0 Y1 e3 e42 e47 e1
  grind

theorem FrameRight_al75 {Zm2 Z0 Z1 : Rat} (Ym2 : Zm2 = (-2 : Rat)) (Y0 : Z0 = (0 : Rat)) (Y1 : Z1 = (1 : Rat)) {x0 q41 q40 q3 x1 x2 q42 q1 : Rat} (e3 : q3 = ((((Z0 - x0) * (Z0 - x0)) + ((Z0 - x1) * (Z0 - x1))) + ((Z1 - x2) * (Z1 - x2)))) (d40 : q40 * q3 = Zm2) (e41 : q41 = (Z1 + ((q40 * (Z0 - x0)) * (Z0 - x0)))) (e42 : q42 = (Z0 + ((q40 * (Z0 - x0)) * (Z0 - x1)))) (e1 : q1 = (((x0 * x0) + (x1 * x1)) + (x2 * x2))) (c2 : q1 = Z1) (c4 : ¬q3 = Z0) : Z0 = (((x0 * q41) + (x1 * q42)) + (x2 * x0)) := by
  subst Ym2 Y0 Y1 e3 e41 e42 e1
  grind

theorem FrameRight_al77 {Zm2 Z0 Z1 : Rat} (Ym2 : Zm2 = (-2 : Rat)) (Y0 : Z0 = (0 : Rat)) (Y1 : Z1 = (1 : Rat)) {x0 q42 q40 q3 x1 x2 q47 q1 : Rat} (e3 : q3 = ((((Z0 - x0) * (Z0 - x0)) + ((Z0 - x1) * (Z0 - x1))) + ((Z1 - x2) * (Z1 - x2)))) (d40 : q40 * q3 = Zm2) (e42 : q42 = (Z0 + ((q40 * (Z0 - x0)) * (Z0 - x1)))) (e47 : q47 = (Z1 + ((q40 * (Z0 - x1)) * (Z0 - x1)))) (e1 : q1 = (((x0 * x0) + (x1 * x1)) + (x2 * x2))) (c2 : q1 = Z1) (c4 : ¬q3 = Z0) : Z0 = (((x0 * q42) + (x1 * q47)) + (x2 * x1)) := by
  subst Ym2 Y0 Y1 e3 e42 e47 e1
  grind

theorem FrameRight_al86 {Zm2 Z0 Z1 : Rat} (Ym2 : Zm2 = (-2 : Rat)) (Y0 : Z0 = (0 : Rat)) (Y1 : Z1 = (1 : Rat)) {x3 q79 q41 q40 q3 x0 x1 x2 x4 q42 x5 q80 q47 q81 q1 : Rat} (e3 : q3 = ((((Z0 - x0) * (Z0 - x0)) + ((Z0 - x1) * (Z0 - x1))) + ((Z1 - x2) * (Z1 - x2)))) (d40 : q40 * q3 = Zm2) (e41 : q41 = (Z1 + ((q40 * (Z0 - x0)) * (Z0 - x0)))) (e42 : q42 = (Z0 + ((q40 * (Z0 - x0)) * (Z0 - x1)))) (e79 : q79 = (((x3 * q41) + (x4 * q42)) + (x5 * x0))) (e47 : q47 = (Z1 + ((q40 * (Z0 - x1)) * (Z0 - x1)))) (e80 : q80 = (((x3 * q42) + (x4 * q47)) + (x5 * x1))) (e81 : q81 = (((x3 * x0) + (x4 * x1)) + (x5 * x2))) (e1 : q1 = (((x0 * x0) + (x1 * x1)) + (x2 * x2))) (c2 : q1 = Z1) (c4 : ¬q3 = Z0) : x3 = (((q79 * q41) + (q80 * q42)) + (q81 * x0)) := by
  subst Ym2 Y0 Y1 e3 e41 e42 e79 e47 e80 e81 e1
  grind

theorem FrameRight_al88 {Zm2 Z0 Z1 : Rat} (Ym2 : Zm2 = (-2 : Rat)) (Y0 : Z0 = (0 : Rat)) (Y1 : Z1 = (1 : Rat)) {x4 q79 x3 q41 q40 q3 x0 x1 x2 q42 x5 q80 q47 q81 q1 : Rat} (e3 : q3 = ((((Z0 - x0) * (Z0 - x0)) + ((Z0 - x1) * (Z0 - x1))) + ((Z1 - x2) * (Z1 - x2)))) (d40 : q40 * q3 = Zm2) (e41 : q41 = (Z1 + ((q40 * (Z0 - x0)) * (Z0 - x0)))) (e42 : q42 = (Z0 + ((q40 * (Z0 - x0)) * (Z0 - x1)))) (e79 : q79 = (((x3 * q41) + (x4 * q42)) + (x5 * x0))) (e47 : q47 = (Z1 + ((q40 * (Z0 - x1)) * (Z0 - x1)))) (e80 : q80 = (((x3 * q42) + (x4 * q47)) + (x5 * x1))) (e81 : q81 = (((x3 * x0) + (x4 * x1)) + (x5 * x2))) (e1 : q1 = (((x0 * x0) + (x1 * x1)) + (x2 * x2))) (c2 : q1 = Z1) (c4 : ¬q3 = Z0) : x4 = (((q79 * q42) + (q80 * q47)) + (q81 * x1)) := by
  subst Ym2 Y0 Y1 e3 e41 e42 e79 e47 e80 e81 e1
  grind

theorem FrameRight_al90 {Zm2 Z0 Z1 : Rat} (Ym2 : Zm2 = (-2 : Rat)) (Y0 : Z0 = (0 : Rat)) (Y1 : Z1 = (1 : Rat)) {x5 q79 x3 q41 q40 q3 x0 x1 x2 x4 q42 q80 q47 q81 q1 : Rat} (e3 : q3 = ((((Z0 - x0) * (Z0 - x0)) + ((Z0 - x1) * (Z0 - x1))) + ((Z1 - x2) * (Z1 - x2)))) (d40 : q40 * q3 = Zm2) (e41 : q41 = (Z1 + ((q40 * (Z0 - x0)) * (Z0 - x0)))) (e42 : q42 = (Z0 + ((q40 * (Z0 - x0)) * (Z0 - x1)))) (e79 : q79 = (((x3 * q41) + (x4 * q42)) + (x5 * x0))) (e47 : q47 = (Z1 + ((q40 * (Z0 - x1)) * (Z0 - x1)))) (e80 : q80 = (((x3 * q42) + (x4 * q47)) + (x5 * x1))) (e81 : q81 = (((x3 * x0) + (x4 * x1)) + (x5 * x2))) (e1 : q1 = (((x0 * x0) + (x1 * x1)) + (x2 * x2))) (c2 : q1 = Z1) (c4 : ¬q3 = Z0) : x5 = (((q79 * x0) + (q80 * x1)) + (q81 * x2)) := by
  subst Ym2 Y0 Y1 e3 e41 e42 e79 e47 e80 e81 e1
  grind

theorem FrameRight_al102 {Zm2 Z0 Z1 : Rat} (Ym2 : Zm2 = (-2 : Rat)) (Y0 : Z0 = (0 : Rat)) (Y1 : Z1 = (1 : Rat)) {q100 q79 x3 q41 q40 q3 x0 x1 x2 x4 q42 x5 q94 x6 x7 x8 q80 q47 q95 q81 q96 q1 : Rat} (e3 : q3 = ((((Z0 - x0) * (Z0 - x0)) + ((Z0 - x1) * (Z0 - x1))) + ((Z1 - x2) * (Z1 - x2)))) (d40 : q40 * q3 = Zm2) (e41 : q41 = (Z1 + ((q40 * (Z0 - x0)) * (Z0 - x0)))) (e42 : q42 = (Z0 + ((q40 * (Z0 - x0)) * (Z0 - x1)))) (e79 : q79 = (((x3 * q41) + (x4 * q42)) + (x5 * x0))) (e94 : q94 = (((x6 * q41) + (x7 * q42)) + (x8 * x0))) (e47 : q47 = (Z1 + ((q40 * (Z0 - x1)) * (Z0 - x1)))) (e80 : q80 = (((x3 * q42) + (x4 * q47)) + (x5 * x1))) (e95 : q95 = (((x6 * q42) + (x7 * q47)) + (x8 * x1))) (e81 : q81 = (((x3 * x0) + (x4 * x1)) + (x5 * x2))) (e96 : q96 = (((x6 * x0) + (x7 * x1)) + (x8 * x2))) (e100 : q100 = (((q79 * q94) + (q80 * q95)) + (q81 * q96))) (e1 : q1 = (((x0 * x0) + (x1 * x1)) + (x2 * x2))) (c2 : q1 = Z1) (c4 : ¬q3 = Z0) : q100 = (((x3 * x6) + (x4 * x7)) + (x5 * x8)) := by
  subst Ym2 Y0 Y1 e3 e41 e42 e79 e94 e47 e80 e95 e81 e96 e100 e1
  grind

theorem pure_FrameRight {r0 r1 r2 r3 r4 r5 r6 r7 r8 : RR} (g0 : r0.ok 1048576) (g1 : r1.ok 1048576) (g2 : r2.ok 1048576) (g3 : r3.ok 1048576) (g4 : r4.ok 1048576) (g5 : r5.ok 1048576) (g6 : r6.ok 1048576) (g7 : r7.ok 1048576) (g8 : r8.ok 1048576) : PureCalls prog F.penumbralaw06_FrameRight [.agg ([.bool r0.neg, nl r0.num, nl r0.den, .bool r1.neg, nl r1.num, nl r1.den, .bool r2.neg, nl r2.num, nl r2.den]), .agg ([.bool r3.neg, nl r3.num, nl r3.den, .bool r4.neg, nl r4.num, nl r4.den, .bool r5.neg, nl r5.num, nl r5.den]), .agg ([.bool r6.neg, nl r6.num, nl r6.den, .bool r7.neg, nl r7.num, nl r7.den, .bool r8.neg, nl r8.num, nl r8.den])] [.one (.bool true)] := by
  obtain ⟨Zm2, Ym2⟩ := ex_eq (-2 : Rat)
  obtain ⟨Z0, Y0⟩ := ex_eq (0 : Rat)
  obtain ⟨Z1, Y1⟩ := ex_eq (1 : Rat)
  obtain ⟨x0, h0⟩ := Num.raw g0 (by decide)
  obtain ⟨x1, h1⟩ := Num.raw g1 (by decide)
  obtain ⟨x2, h2⟩ := Num.raw g2 (by decide)
  obtain ⟨x3, h3⟩ := Num.raw g3 (by decide)
  obtain ⟨x4, h4⟩ := Num.raw g4 (by decide)
  obtain ⟨x5, h5⟩ := Num.raw g5 (by decide)
  obtain ⟨x6, h6⟩ := Num.raw g6 (by decide)
  obtain ⟨x7, h7⟩ := Num.raw g7 (by decide)
  obtain ⟨x8, h8⟩ := Num.raw g8 (by decide)
  refine symFunc_sound hmix tree_penumbralaw06_FrameRight (by kernel_rfl) rfl ?_
  unfold ir_penumbralaw06_FrameRight
  simp only [fa_agg, fa_one, fa_nil, List.cons_append, List.nil_append, List.append_nil]
  obtain ⟨q1, e1⟩ := ex_eq (((x0 * x0) + (x1 * x1)) + (x2 * x2))
  by_cases c2 : q1 = Z1
  · skip
    obtain ⟨q3, e3⟩ := ex_eq ((((Z0 - x0) * (Z0 - x0)) + ((Z0 - x1) * (Z0 - x1))) + ((Z1 - x2) * (Z1 - x2)))
    by_cases c4 : q3 = Z0
    · skip
      have z5 : (Z0 - x0) = Z0 := sq3_0 Y0 (e3.symm.trans c4)
      have z6 : (Z0 - x1) = Z0 := sq3_1 Y0 (e3.symm.trans c4)
      have z7 : (Z1 - x2) = Z0 := sq3_2 Y0 (e3.symm.trans c4)
      refine call_step (n_frame_Of_0 (k0 := q1) (k1 := q3) Ym2 Y0 Y1 (h0.mono (by decide)) (h1.mono (by decide)) (h2.mono (by decide)) e1 e3 c2 c4) rfl ?_
      simp only [fa_agg, fa_one, fa_nil, List.cons_append, List.nil_append, List.append_nil]
      refine call_step n_penumbralaw06_fixed rfl ?_
      simp only [fa_agg, fa_one, fa_nil, List.cons_append, List.nil_append, List.append_nil]
      refine primS (.bool false) rfl ?_
      refine itF rfl ?_
      refine primS (.bool false) rfl ?_
      refine itF rfl ?_
      refine primS (rl3 [((cr Z1), (cr Z0), (cr Z0)), ((cr Z0), (cr Z1), (cr Z0)), ((cr Z0), (cr Z0), (cr Z1))]) rfl ?_
      refine call_step (n_penumbraref03_Zero Y0) rfl ?_
      simp only [fa_agg, fa_one, fa_nil, List.cons_append, List.nil_append, List.append_nil]
      refine call_step (n_penumbraref03_One Y1) rfl ?_
      simp only [fa_agg, fa_one, fa_nil, List.cons_append, List.nil_append, List.append_nil]
      refine primS (.bool true) (d_inb9 (by decide) (show (0 : Int) < ((3 : Nat) : Int) by decide)) ?_
      refine get9_step (n := 58) (l := [((cr Z1), (cr Z0), (cr Z0)), ((cr Z0), (cr Z1), (cr Z0)), ((cr Z0), (cr Z0), (cr Z1))]) (i := 0) (a := (cr Z1)) (b := (cr Z0)) (c := (cr Z0)) rfl (by decide) rfl ?_
      simp only [v3, List.cons_append, List.nil_append, List.append_nil]
      refine primS (.bool true) (d_inb9 (by decide) (show (0 : Int) < ((3 : Nat) : Int) by decide)) ?_
      refine get9_step (n := 58) (l := [((cr Z1), (cr Z0), (cr Z0)), ((cr Z0), (cr Z1), (cr Z0)), ((cr Z0), (cr Z0), (cr Z1))]) (i := 0) (a := (cr Z1)) (b := (cr Z0)) (c := (cr Z0)) rfl (by decide) rfl ?_
      simp only [v3, List.cons_append, List.nil_append, List.append_nil]
      have m9 : Num 1 (cr Z1) Z1 := Num.c Y1 (by decide +kernel) (by decide +kernel)
      have m10 : Num 1 (cr Z0) Z0 := Num.c Y0 (by decide +kernel) (by decide +kernel)
      refine call_step (n_vec_Dot_0 (k0 := Z1) (m9.mono (by decide)) (m10.mono (by decide)) (m10.mono (by decide)) (m9.mono (by decide)) (m10.mono (by decide)) (m10.mono (by decide)) (by rw [Y1, Y0] <;> decide +kernel)) rfl ?_
      simp only [fa_agg, fa_one, fa_nil, List.cons_append, List.nil_append, List.append_nil]
      refine call_step (n_penumbraref03_Is_t (m9.mono (by decide)) (m9.mono (by decide)) rfl) rfl ?_
      simp only [fa_agg, fa_one, fa_nil, List.cons_append, List.nil_append, List.append_nil]
      refine primS (.bool false) rfl ?_
      refine itF rfl ?_
      refine call_step (n_penumbraref03_Zero Y0) rfl ?_
      simp only [fa_agg, fa_one, fa_nil, List.cons_append, List.nil_append, List.append_nil]
      refine primS (.bool true) (d_inb9 (by decide) (show (0 : Int) < ((3 : Nat) : Int) by decide)) ?_
      refine get9_step (n := 58) (l := [((cr Z1), (cr Z0), (cr Z0)), ((cr Z0), (cr Z1), (cr Z0)), ((cr Z0), (cr Z0), (cr Z1))]) (i := 0) (a := (cr Z1)) (b := (cr Z0)) (c := (cr Z0)) rfl (by decide) rfl ?_
      simp only [v3, List.cons_append, List.nil_append, List.append_nil]
      refine primS (.bool true) (d_inb9 (by decide) (show (1 : Int) < ((3 : Nat) : Int) by decide)) ?_
      refine get9_step (n := 58) (l := [((cr Z1), (cr Z0), (cr Z0)), ((cr Z0), (cr Z1), (cr Z0)), ((cr Z0), (cr Z0), (cr Z1))]) (i := 1) (a := (cr Z0)) (b := (cr Z1)) (c := (cr Z0)) rfl (by decide) rfl ?_
      simp only [v3, List.cons_append, List.nil_append, List.append_nil]
      refine call_step (n_vec_Dot_0 (k0 := Z0) (m9.mono (by decide)) (m10.mono (by decide)) (m10.mono (by decide)) (m10.mono (by decide)) (m9.mono (by decide)) (m10.mono (by decide)) (by rw [Y0, Y1] <;> decide +kernel)) rfl ?_
      simp only [fa_agg, fa_one, fa_nil, List.cons_append, List.nil_append, List.append_nil]
      refine call_step (n_penumbraref03_Is_t (m10.mono (by decide)) (m10.mono (by decide)) rfl) rfl ?_
      simp only [fa_agg, fa_one, fa_nil, List.cons_append, List.nil_append, List.append_nil]
      refine primS (.bool false) rfl ?_
      refine itF rfl ?_
      refine call_step (n_penumbraref03_Zero Y0) rfl ?_
      simp only [fa_agg, fa_one, fa_nil, List.cons_append, List.nil_append, List.append_nil]
      refine primS (.bool true) (d_inb9 (by decide) (show (0 : Int) < ((3 : Nat) : Int) by decide)) ?_
      refine get9_step (n := 58) (l := [((cr Z1), (cr Z0), (cr Z0)), ((cr Z0), (cr Z1), (cr Z0)), ((cr Z0), (cr Z0), (cr Z1))]) (i := 0) (a := (cr Z1)) (b := (cr Z0)) (c := (cr Z0)) rfl (by decide) rfl ?_
      simp only [v3, List.cons_append, List.nil_append, List.append_nil]
      refine primS (.bool true) (d_inb9 (by decide) (show (2 : Int) < ((3 : Nat) : Int) by decide)) ?_
      refine get9_step (n := 58) (l := [((cr Z1), (cr Z0), (cr Z0)), ((cr Z0), (cr Z1), (cr Z0)), ((cr Z0), (cr Z0), (cr Z1))]) (i := 2) (a := (cr Z0)) (b := (cr Z0)) (c := (cr Z1)) rfl (by decide) rfl ?_
      simp only [v3, List.cons_append, List.nil_append, List.append_nil]
      refine call_step (n_vec_Dot_0 (k0 := Z0) (m9.mono (by decide)) (m10.mono (by decide)) (m10.mono (by decide)) (m10.mono (by decide)) (m10.mono (by decide)) (m9.mono (by decide)) (by rw [Y0, Y1] <;> decide +kernel)) rfl ?_
      simp only [fa_agg, fa_one, fa_nil, List.cons_append, List.nil_append, List.append_nil]
      refine call_step (n_penumbraref03_Is_t (m10.mono (by decide)) (m10.mono (by decide)) rfl) rfl ?_
      simp only [fa_agg, fa_one, fa_nil, List.cons_append, List.nil_append, List.append_nil]
      refine primS (.bool false) rfl ?_
      refine itF rfl ?_
      refine call_step (n_penumbraref03_Zero Y0) rfl ?_
      simp only [fa_agg, fa_one, fa_nil, List.cons_append, List.nil_append, List.append_nil]
      refine primS (.bool true) (d_inb9 (by decide) (show (1 : Int) < ((3 : Nat) : Int) by decide)) ?_
      refine get9_step (n := 58) (l := [((cr Z1), (cr Z0), (cr Z0)), ((cr Z0), (cr Z1), (cr Z0)), ((cr Z0), (cr Z0), (cr Z1))]) (i := 1) (a := (cr Z0)) (b := (cr Z1)) (c := (cr Z0)) rfl (by decide) rfl ?_
      simp only [v3, List.cons_append, List.nil_append, List.append_nil]
      refine primS (.bool true) (d_inb9 (by decide) (show (0 : Int) < ((3 : Nat) : Int) by decide)) ?_
      refine get9_step (n := 58) (l := [((cr Z1), (cr Z0), (cr Z0)), ((cr Z0), (cr Z1), (cr Z0)), ((cr Z0), (cr Z0), (cr Z1))]) (i := 0) (a := (cr Z1)) (b := (cr Z0)) (c := (cr Z0)) rfl (by decide) rfl ?_
      simp only [v3, List.cons_append, List.nil_append, List.append_nil]
      refine call_step (n_vec_Dot_0 (k0 := Z0) (m10.mono (by decide)) (m9.mono (by decide)) (m10.mono (by decide)) (m9.mono (by decide)) (m10.mono (by decide)) (m10.mono (by decide)) (by rw [Y0, Y1] <;> decide +kernel)) rfl ?_
      simp only [fa_agg, fa_one, fa_nil, List.cons_append, List.nil_append, List.append_nil]
      refine call_step (n_penumbraref03_Is_t (m10.mono (by decide)) (m10.mono (by decide)) rfl) rfl ?_
      simp only [fa_agg, fa_one, fa_nil, List.cons_append, List.nil_append, List.append_nil]
      refine primS (.bool false) rfl ?_
      refine itF rfl ?_
      refine call_step (n_penumbraref03_Zero Y0) rfl ?_
      simp only [fa_agg, fa_one, fa_nil, List.cons_append, List.nil_append, List.append_nil]
      refine call_step (n_penumbraref03_One Y1) rfl ?_
      simp only [fa_agg, fa_one, fa_nil, List.cons_append, List.nil_append, List.append_nil]
      refine primS (.bool true) (d_inb9 (by decide) (show (1 : Int) < ((3 : Nat) : Int) by decide)) ?_
      refine get9_step (n := 58) (l := [((cr Z1), (cr Z0), (cr Z0)), ((cr Z0), (cr Z1), (cr Z0)), ((cr Z0), (cr Z0), (cr Z1))]) (i := 1) (a := (cr Z0)) (b := (cr Z1)) (c := (cr Z0)) rfl (by decide) rfl ?_
      simp only [v3, List.cons_append, List.nil_append, List.append_nil]
      refine primS (.bool true) (d_inb9 (by decide) (show (1 : Int) < ((3 : Nat) : Int) by decide)) ?_
      refine get9_step (n := 58) (l := [((cr Z1), (cr Z0), (cr Z0)), ((cr Z0), (cr Z1), (cr Z0)), ((cr Z0), (cr Z0), (cr Z1))]) (i := 1) (a := (cr Z0)) (b := (cr Z1)) (c := (cr Z0)) rfl (by decide) rfl ?_
      simp only [v3, List.cons_append, List.nil_append, List.append_nil]
      refine call_step (n_vec_Dot_0 (k0 := Z1) (m10.mono (by decide)) (m9.mono (by decide)) (m10.mono (by decide)) (m10.mono (by decide)) (m9.mono (by decide)) (m10.mono (by decide)) (by rw [Y1, Y0] <;> decide +kernel)) rfl ?_
      simp only [fa_agg, fa_one, fa_nil, List.cons_append, List.nil_append, List.append_nil]
      refine call_step (n_penumbraref03_Is_t (m9.mono (by decide)) (m9.mono (by decide)) rfl) rfl ?_
      simp only [fa_agg, fa_one, fa_nil, List.cons_append, List.nil_append, List.append_nil]
      refine primS (.bool false) rfl ?_
      refine itF rfl ?_
      refine call_step (n_penumbraref03_Zero Y0) rfl ?_
      simp only [fa_agg, fa_one, fa_nil, List.cons_append, List.nil_append, List.append_nil]
      refine primS (.bool true) (d_inb9 (by decide) (show (1 : Int) < ((3 : Nat) : Int) by decide)) ?_
      refine get9_step (n := 58) (l := [((cr Z1), (cr Z0), (cr Z0)), ((cr Z0), (cr Z1), (cr Z0)), ((cr Z0), (cr Z0), (cr Z1))]) (i := 1) (a := (cr Z0)) (b := (cr Z1)) (c := (cr Z0)) rfl (by decide) rfl ?_
      simp only [v3, List.cons_append, List.nil_append, List.append_nil]
      refine primS (.bool true) (d_inb9 (by decide) (show (2 : Int) < ((3 : Nat) : Int) by decide)) ?_
      refine get9_step (n := 58) (l := [((cr Z1), (cr Z0), (cr Z0)), ((cr Z0), (cr Z1), (cr Z0)), ((cr Z0), (cr Z0), (cr Z1))]) (i := 2) (a := (cr Z0)) (b := (cr Z0)) (c := (cr Z1)) rfl (by decide) rfl ?_
      simp only [v3, List.cons_append, List.nil_append, List.append_nil]
      refine call_step (n_vec_Dot_0 (k0 := Z0) (m10.mono (by decide)) (m9.mono (by decide)) (m10.mono (by decide)) (m10.mono (by decide)) (m10.mono (by decide)) (m9.mono (by decide)) (by rw [Y0, Y1] <;> decide +kernel)) rfl ?_
      simp only [fa_agg, fa_one, fa_nil, List.cons_append, List.nil_append, List.append_nil]
      refine call_step (n_penumbraref03_Is_t (m10.mono (by decide)) (m10.mono (by decide)) rfl) rfl ?_
      simp only [fa_agg, fa_one, fa_nil, List.cons_append, List.nil_append, List.append_nil]
      refine primS (.bool false) rfl ?_
      refine itF rfl ?_
      refine call_step (n_penumbraref03_Zero Y0) rfl ?_
      simp only [fa_agg, fa_one, fa_nil, List.cons_append, List.nil_append, List.append_nil]
      refine primS (.bool true) (d_inb9 (by decide) (show (2 : Int) < ((3 : Nat) : Int) by decide)) ?_
      refine get9_step (n := 58) (l := [((cr Z1), (cr Z0), (cr Z0)), ((cr Z0), (cr Z1), (cr Z0)), ((cr Z0), (cr Z0), (cr Z1))]) (i := 2) (a := (cr Z0)) (b := (cr Z0)) (c := (cr Z1)) rfl (by decide) rfl ?_
      simp only [v3, List.cons_append, List.nil_append, List.append_nil]
      refine primS (.bool true) (d_inb9 (by decide) (show (0 : Int) < ((3 : Nat) : Int) by decide)) ?_
      refine get9_step (n := 58) (l := [((cr Z1), (cr Z0), (cr Z0)), ((cr Z0), (cr Z1), (cr Z0)), ((cr Z0), (cr Z0), (cr Z1))]) (i := 0) (a := (cr Z1)) (b := (cr Z0)) (c := (cr Z0)) rfl (by decide) rfl ?_
      simp only [v3, List.cons_append, List.nil_append, List.append_nil]
      refine call_step (n_vec_Dot_0 (k0 := Z0) (m10.mono (by decide)) (m10.mono (by decide)) (m9.mono (by decide)) (m9.mono (by decide)) (m10.mono (by decide)) (m10.mono (by decide)) (by rw [Y0, Y1] <;> decide +kernel)) rfl ?_
      simp only [fa_agg, fa_one, fa_nil, List.cons_append, List.nil_append, List.append_nil]
      refine call_step (n_penumbraref03_Is_t (m10.mono (by decide)) (m10.mono (by decide)) rfl) rfl ?_
      simp only [fa_agg, fa_one, fa_nil, List.cons_append, List.nil_append, List.append_nil]
      refine primS (.bool false) rfl ?_
      refine itF rfl ?_
      refine call_step (n_penumbraref03_Zero Y0) rfl ?_
      simp only [fa_agg, fa_one, fa_nil, List.cons_append, List.nil_append, List.append_nil]
      refine primS (.bool true) (d_inb9 (by decide) (show (2 : Int) < ((3 : Nat) : Int) by decide)) ?_
      refine get9_step (n := 58) (l := [((cr Z1), (cr Z0), (cr Z0)), ((cr Z0), (cr Z1), (cr Z0)), ((cr Z0), (cr Z0), (cr Z1))]) (i := 2) (a := (cr Z0)) (b := (cr Z0)) (c := (cr Z1)) rfl (by decide) rfl ?_
      simp only [v3, List.cons_append, List.nil_append, List.append_nil]
      refine primS (.bool true) (d_inb9 (by decide) (show (1 : Int) < ((3 : Nat) : Int) by decide)) ?_
      refine get9_step (n := 58) (l := [((cr Z1), (cr Z0), (cr Z0)), ((cr Z0), (cr Z1), (cr Z0)), ((cr Z0), (cr Z0), (cr Z1))]) (i := 1) (a := (cr Z0)) (b := (cr Z1)) (c := (cr Z0)) rfl (by decide) rfl ?_
      simp only [v3, List.cons_append, List.nil_append, List.append_nil]
      refine call_step (n_vec_Dot_0 (k0 := Z0) (m10.mono (by decide)) (m10.mono (by decide)) (m9.mono (by decide)) (m10.mono (by decide)) (m9.mono (by decide)) (m10.mono (by decide)) (by rw [Y0, Y1] <;> decide +kernel)) rfl ?_
      simp only [fa_agg, fa_one, fa_nil, List.cons_append, List.nil_append, List.append_nil]
      refine call_step (n_penumbraref03_Is_t (m10.mono (by decide)) (m10.mono (by decide)) rfl) rfl ?_
      simp only [fa_agg, fa_one, fa_nil, List.cons_append, List.nil_append, List.append_nil]
      refine primS (.bool false) rfl ?_
      refine itF rfl ?_
      refine call_step (n_penumbraref03_Zero Y0) rfl ?_
      simp only [fa_agg, fa_one, fa_nil, List.cons_append, List.nil_append, List.append_nil]
      refine call_step (n_penumbraref03_One Y1) rfl ?_
      simp only [fa_agg, fa_one, fa_nil, List.cons_append, List.nil_append, List.append_nil]
      refine primS (.bool true) (d_inb9 (by decide) (show (2 : Int) < ((3 : Nat) : Int) by decide)) ?_
      refine get9_step (n := 58) (l := [((cr Z1), (cr Z0), (cr Z0)), ((cr Z0), (cr Z1), (cr Z0)), ((cr Z0), (cr Z0), (cr Z1))]) (i := 2) (a := (cr Z0)) (b := (cr Z0)) (c := (cr Z1)) rfl (by decide) rfl ?_
      simp only [v3, List.cons_append, List.nil_append, List.append_nil]
      refine primS (.bool true) (d_inb9 (by decide) (show (2 : Int) < ((3 : Nat) : Int) by decide)) ?_
      refine get9_step (n := 58) (l := [((cr Z1), (cr Z0), (cr Z0)), ((cr Z0), (cr Z1), (cr Z0)), ((cr Z0), (cr Z0), (cr Z1))]) (i := 2) (a := (cr Z0)) (b := (cr Z0)) (c := (cr Z1)) rfl (by decide) rfl ?_
      simp only [v3, List.cons_append, List.nil_append, List.append_nil]
      refine call_step (n_vec_Dot_0 (k0 := Z1) (m10.mono (by decide)) (m10.mono (by decide)) (m9.mono (by decide)) (m10.mono (by decide)) (m10.mono (by decide)) (m9.mono (by decide)) (by rw [Y1, Y0] <;> decide +kernel)) rfl ?_
      simp only [fa_agg, fa_one, fa_nil, List.cons_append, List.nil_append, List.append_nil]
      refine call_step (n_penumbraref03_Is_t (m9.mono (by decide)) (m9.mono (by decide)) rfl) rfl ?_
      simp only [fa_agg, fa_one, fa_nil, List.cons_append, List.nil_append, List.append_nil]
      refine primS (.bool false) rfl ?_
      refine itF rfl ?_
      refine call_step (n_vec_Read_0 (h0.mono (by decide)) (h1.mono (by decide)) (h2.mono (by decide))) rfl ?_
      simp only [fa_agg, fa_one, fa_nil, List.cons_append, List.nil_append, List.append_nil]
      have m11 : Num 1048576 (cr x0) x0 := Num.of h0.sm
      have m12 : Num 1048576 (cr x1) x1 := Num.of h1.sm
      have m13 : Num 1048576 (cr x2) x2 := Num.of h2.sm
      have c15 : Z0 = x0 := (FrameRight_al14 Y0 z5)
      have c17 : Z0 = x1 := (FrameRight_al16 Y0 z6)
      have c19 : Z1 = x2 := (FrameRight_al18 Y0 Y1 z7)
      refine call_step (n_penumbraref05_Is_0 (m10.mono (by decide)) (m10.mono (by decide)) (m9.mono (by decide)) (m11.mono (by decide)) (m12.mono (by decide)) (m13.mono (by decide)) c15 c17 c19) rfl ?_
      simp only [fa_agg, fa_one, fa_nil, List.cons_append, List.nil_append, List.append_nil]
      refine itT rfl ?_
      have u20 : x3 = (((x3 * Z1) + (x4 * Z0)) + (x5 * Z0)) := (FrameRight_al21 Y0 Y1)
      have u22 : x4 = (((x3 * Z0) + (x4 * Z1)) + (x5 * Z0)) := (FrameRight_al23 Y0 Y1)
      have u24 : x5 = (((x3 * Z0) + (x4 * Z0)) + (x5 * Z1)) := (FrameRight_al25 Y0 Y1)
      refine call_step (n_frame_In_0 (k0 := x3) (k1 := x4) (k2 := x5) (m9.mono (by decide)) (m10.mono (by decide)) (m10.mono (by decide)) (m10.mono (by decide)) (m9.mono (by decide)) (m10.mono (by decide)) (m10.mono (by decide)) (m10.mono (by decide)) (m9.mono (by decide)) (h3.mono (by decide)) (h4.mono (by decide)) (h5.mono (by decide)) u20 u22 u24) rfl ?_
      simp only [fa_agg, fa_one, fa_nil, List.cons_append, List.nil_append, List.append_nil]
      have m26 : Num 1048576 (cr x3) x3 := Num.of h3.sm
      have m27 : Num 1048576 (cr x4) x4 := Num.of h4.sm
      have m28 : Num 1048576 (cr x5) x5 := Num.of h5.sm
      refine call_step (n_frame_Out_0 (k0 := x3) (k1 := x4) (k2 := x5) (m9.mono (by decide)) (m10.mono (by decide)) (m10.mono (by decide)) (m10.mono (by decide)) (m9.mono (by decide)) (m10.mono (by decide)) (m10.mono (by decide)) (m10.mono (by decide)) (m9.mono (by decide)) (m26.mono (by decide)) (m27.mono (by decide)) (m28.mono (by decide)) u20 u22 u24) rfl ?_
      simp only [fa_agg, fa_one, fa_nil, List.cons_append, List.nil_append, List.append_nil]
      refine call_step (n_vec_Read_0 (h3.mono (by decide)) (h4.mono (by decide)) (h5.mono (by decide))) rfl ?_
      simp only [fa_agg, fa_one, fa_nil, List.cons_append, List.nil_append, List.append_nil]
      refine call_step (n_penumbraref05_Is_0 (m26.mono (by decide)) (m27.mono (by decide)) (m28.mono (by decide)) (m26.mono (by decide)) (m27.mono (by decide)) (m28.mono (by decide)) rfl rfl rfl) rfl ?_
      simp only [fa_agg, fa_one, fa_nil, List.cons_append, List.nil_append, List.append_nil]
      refine itT rfl ?_
      refine call_step (n_frame_Out_0 (k0 := x3) (k1 := x4) (k2 := x5) (m9.mono (by decide)) (m10.mono (by decide)) (m10.mono (by decide)) (m10.mono (by decide)) (m9.mono (by decide)) (m10.mono (by decide)) (m10.mono (by decide)) (m10.mono (by decide)) (m9.mono (by decide)) (h3.mono (by decide)) (h4.mono (by decide)) (h5.mono (by decide)) u20 u22 u24) rfl ?_
      simp only [fa_agg, fa_one, fa_nil, List.cons_append, List.nil_append, List.append_nil]
      refine call_step (n_frame_In_0 (k0 := x3) (k1 := x4) (k2 := x5) (m9.mono (by decide)) (m10.mono (by decide)) (m10.mono (by decide)) (m10.mono (by decide)) (m9.mono (by decide)) (m10.mono (by decide)) (m10.mono (by decide)) (m10.mono (by decide)) (m9.mono (by decide)) (m26.mono (by decide)) (m27.mono (by decide)) (m28.mono (by decide)) u20 u22 u24) rfl ?_
      simp only [fa_agg, fa_one, fa_nil, List.cons_append, List.nil_append, List.append_nil]
      refine call_step (n_vec_Read_0 (h3.mono (by decide)) (h4.mono (by decide)) (h5.mono (by decide))) rfl ?_
      simp only [fa_agg, fa_one, fa_nil, List.cons_append, List.nil_append, List.append_nil]
      refine call_step (n_penumbraref05_Is_0 (m26.mono (by decide)) (m27.mono (by decide)) (m28.mono (by decide)) (m26.mono (by decide)) (m27.mono (by decide)) (m28.mono (by decide)) rfl rfl rfl) rfl ?_
      simp only [fa_agg, fa_one, fa_nil, List.cons_append, List.nil_append, List.append_nil]
      refine itT rfl ?_
      refine call_step (n_frame_In_0 (k0 := x3) (k1 := x4) (k2 := x5) (m9.mono (by decide)) (m10.mono (by decide)) (m10.mono (by decide)) (m10.mono (by decide)) (m9.mono (by decide)) (m10.mono (by decide)) (m10.mono (by decide)) (m10.mono (by decide)) (m9.mono (by decide)) (h3.mono (by decide)) (h4.mono (by decide)) (h5.mono (by decide)) u20 u22 u24) rfl ?_
      simp only [fa_agg, fa_one, fa_nil, List.cons_append, List.nil_append, List.append_nil]
      have u29 : x6 = (((x6 * Z1) + (x7 * Z0)) + (x8 * Z0)) := (FrameRight_al30 Y0 Y1)
      have u31 : x7 = (((x6 * Z0) + (x7 * Z1)) + (x8 * Z0)) := (FrameRight_al32 Y0 Y1)
      have u33 : x8 = (((x6 * Z0) + (x7 * Z0)) + (x8 * Z1)) := (FrameRight_al34 Y0 Y1)
      refine call_step (n_frame_In_0 (k0 := x6) (k1 := x7) (k2 := x8) (m9.mono (by decide)) (m10.mono (by decide)) (m10.mono (by decide)) (m10.mono (by decide)) (m9.mono (by decide)) (m10.mono (by decide)) (m10.mono (by decide)) (m10.mono (by decide)) (m9.mono (by decide)) (h6.mono (by decide)) (h7.mono (by decide)) (h8.mono (by decide)) u29 u31 u33) rfl ?_
      simp only [fa_agg, fa_one, fa_nil, List.cons_append, List.nil_append, List.append_nil]
      have m35 : Num 1048576 (cr x6) x6 := Num.of h6.sm
      have m36 : Num 1048576 (cr x7) x7 := Num.of h7.sm
      have m37 : Num 1048576 (cr x8) x8 := Num.of h8.sm
      obtain ⟨q38, e38⟩ := ex_eq (((x3 * x6) + (x4 * x7)) + (x5 * x8))
      refine call_step (n_vec_Dot_0 (k0 := q38) (m26.mono (by decide)) (m27.mono (by decide)) (m28.mono (by decide)) (m35.mono (by decide)) (m36.mono (by decide)) (m37.mono (by decide)) e38) rfl ?_
      simp only [fa_agg, fa_one, fa_nil, List.cons_append, List.nil_append, List.append_nil]
      refine call_step (n_vec_Dot_0 (k0 := q38) (h3.mono (by decide)) (h4.mono (by decide)) (h5.mono (by decide)) (h6.mono (by decide)) (h7.mono (by decide)) (h8.mono (by decide)) e38) rfl ?_
      simp only [fa_agg, fa_one, fa_nil, List.cons_append, List.nil_append, List.append_nil]
      have m39 : Num 6291458 (cr q38) q38 := Num.eqn e38 (Sm.add (Sm.add (Sm.mul m26.sm m35.sm) (Sm.mul m27.sm m36.sm)) (Sm.mul m28.sm m37.sm))
      refine call_step (n_penumbraref03_Is_t (m39.mono (by decide)) (m39.mono (by decide)) rfl) rfl ?_
      simp only [fa_agg, fa_one, fa_nil, List.cons_append, List.nil_append, List.append_nil]
      exact ret_step rfl
    · skip
      obtain ⟨q40, e40⟩ := ex_eq (Zm2 / q3)
      have d40 := div_mul Y0 e40 c4
      obtain ⟨q41, e41⟩ := ex_eq (Z1 + ((q40 * (Z0 - x0)) * (Z0 - x0)))
      obtain ⟨q42, e42⟩ := ex_eq (Z0 + ((q40 * (Z0 - x0)) * (Z0 - x1)))
      have u43 : x0 = (Z0 + ((q40 * (Z0 - x0)) * (Z1 - x2))) := (FrameRight_al44 Ym2 Y0 Y1 e3 d40 e1 c2 c4)
      have u45 : q42 = (Z0 + ((q40 * (Z0 - x1)) * (Z0 - x0))) := (FrameRight_al46 Ym2 Y0 Y1 e3 d40 e42 e1 c2 c4)
      obtain ⟨q47, e47⟩ := ex_eq (Z1 + ((q40 * (Z0 - x1)) * (Z0 - x1)))
      have u48 : x1 = (Z0 + ((q40 * (Z0 - x1)) * (Z1 - x2))) := (FrameRight_al49 Ym2 Y0 Y1 e3 d40 e1 c2 c4)
      refine call_step (n_frame_Of_1 (k0 := q1) (k1 := q3) (k2 := q40) (k3 := q41) (k4 := q42) (k5 := x0) (k6 := q42) (k7 := q47) (k8 := x1) Ym2 Y0 Y1 (h0.mono (by decide)) (h1.mono (by decide)) (h2.mono (by decide)) e1 e3 e40 e41 e42 u43 u45 e47 u48 c2 c4) rfl ?_
      simp only [fa_agg, fa_one, fa_nil, List.cons_append, List.nil_append, List.append_nil]
      refine call_step n_penumbralaw06_fixed rfl ?_
      simp only [fa_agg, fa_one, fa_nil, List.cons_append, List.nil_append, List.append_nil]
      refine primS (.bool false) rfl ?_
      refine itF rfl ?_
      refine primS (.bool false) rfl ?_
      refine itF rfl ?_
      refine primS (rl3 [((cr q41), (cr q42), (cr x0)), ((cr q42), (cr q47), (cr x1)), ((cr x0), (cr x1), (cr x2))]) rfl ?_
      refine call_step (n_penumbraref03_Zero Y0) rfl ?_
      simp only [fa_agg, fa_one, fa_nil, List.cons_append, List.nil_append, List.append_nil]
      refine call_step (n_penumbraref03_One Y1) rfl ?_
      simp only [fa_agg, fa_one, fa_nil, List.cons_append, List.nil_append, List.append_nil]
      refine primS (.bool true) (d_inb9 (by decide) (show (0 : Int) < ((3 : Nat) : Int) by decide)) ?_
      refine get9_step (n := 58) (l := [((cr q41), (cr q42), (cr x0)), ((cr q42), (cr q47), (cr x1)), ((cr x0), (cr x1), (cr x2))]) (i := 0) (a := (cr q41)) (b := (cr q42)) (c := (cr x0)) rfl (by decide) rfl ?_
      simp only [v3, List.cons_append, List.nil_append, List.append_nil]
      refine primS (.bool true) (d_inb9 (by decide) (show (0 : Int) < ((3 : Nat) : Int) by decide)) ?_
      refine get9_step (n := 58) (l := [((cr q41), (cr q42), (cr x0)), ((cr q42), (cr q47), (cr x1)), ((cr x0), (cr x1), (cr x2))]) (i := 0) (a := (cr q41)) (b := (cr q42)) (c := (cr x0)) rfl (by decide) rfl ?_
      simp only [v3, List.cons_append, List.nil_append, List.append_nil]
      have m52 : Num 1 (cr Z1) Z1 := Num.c Y1 (by decide +kernel) (by decide +kernel)
      have m54 : Num 1 (cr Zm2) Zm2 := Num.c Ym2 (by decide +kernel) (by decide +kernel)
      have m56 : Num 1 (cr Z0) Z0 := Num.c Y0 (by decide +kernel) (by decide +kernel)
      have m55 : Num 6291470 (cr q3) q3 := Num.eqn e3 (Sm.add (Sm.add (Sm.mul (Sm.sub m56.sm h0.sm) (Sm.sub m56.sm h0.sm)) (Sm.mul (Sm.sub m56.sm h1.sm) (Sm.sub m56.sm h1.sm))) (Sm.mul (Sm.sub m52.sm h2.sm) (Sm.sub m52.sm h2.sm)))
      have m53 : Num 6291471 (cr q40) q40 := Num.eqn e40 (Sm.div m54.sm m55.sm)
      have m51 : Num 8388629 (cr q41) q41 := Num.eqn e41 (Sm.add m52.sm (Sm.mul (Sm.mul m53.sm (Sm.sub m56.sm h0.sm)) (Sm.sub m56.sm h0.sm)))
      have m57 : Num 8388629 (cr q42) q42 := Num.eqn e42 (Sm.add m56.sm (Sm.mul (Sm.mul m53.sm (Sm.sub m56.sm h0.sm)) (Sm.sub m56.sm h1.sm)))
      have m58 : Num 1048576 (cr x0) x0 := Num.of h0.sm
      have u59 : Z1 = (((q41 * q41) + (q42 * q42)) + (x0 * x0)) := (FrameRight_al60 Ym2 Y0 Y1 e3 d40 e41 e42 e1 c2 c4)
      refine call_step (n_vec_Dot_0 (k0 := Z1) (m51.mono (by decide)) (m57.mono (by decide)) (m58.mono (by decide)) (m51.mono (by decide)) (m57.mono (by decide)) (m58.mono (by decide)) u59) rfl ?_
      simp only [fa_agg, fa_one, fa_nil, List.cons_append, List.nil_append, List.append_nil]
      refine call_step (n_penumbraref03_Is_t (m52.mono (by decide)) (m52.mono (by decide)) rfl) rfl ?_
      simp only [fa_agg, fa_one, fa_nil, List.cons_append, List.nil_append, List.append_nil]
      refine primS (.bool false) rfl ?_
      refine itF rfl ?_
      refine call_step (n_penumbraref03_Zero Y0) rfl ?_
      simp only [fa_agg, fa_one, fa_nil, List.cons_append, List.nil_append, List.append_nil]
      refine primS (.bool true) (d_inb9 (by decide) (show (0 : Int) < ((3 : Nat) : Int) by decide)) ?_
      refine get9_step (n := 58) (l := [((cr q41), (cr q42), (cr x0)), ((cr q42), (cr q47), (cr x1)), ((cr x0), (cr x1), (cr x2))]) (i := 0) (a := (cr q41)) (b := (cr q42)) (c := (cr x0)) rfl (by decide) rfl ?_
      simp only [v3, List.cons_append, List.nil_append, List.append_nil]
      refine primS (.bool true) (d_inb9 (by decide) (show (1 : Int) < ((3 : Nat) : Int) by decide)) ?_
      refine get9_step (n := 58) (l := [((cr q41), (cr q42), (cr x0)), ((cr q42), (cr q47), (cr x1)), ((cr x0), (cr x1), (cr x2))]) (i := 1) (a := (cr q42)) (b := (cr q47)) (c := (cr x1)) rfl (by decide) rfl ?_
      simp only [v3, List.cons_append, List.nil_append, List.append_nil]
      have m61 : Num 8388629 (cr q47) q47 := Num.eqn e47 (Sm.add m52.sm (Sm.mul (Sm.mul m53.sm (Sm.sub m56.sm h1.sm)) (Sm.sub m56.sm h1.sm)))
      have m62 : Num 1048576 (cr x1) x1 := Num.of h1.sm
      have u63 : Z0 = (((q41 * q42) + (q42 * q47)) + (x0 * x1)) := (FrameRight_al64 Ym2 Y0 Y1 e3 d40 e41 e42 e47 e1 c2 c4)
      refine call_step (n_vec_Dot_0 (k0 := Z0) (m51.mono (by decide)) (m57.mono (by decide)) (m58.mono (by decide)) (m57.mono (by decide)) (m61.mono (by decide)) (m62.mono (by decide)) u63) rfl ?_
      simp only [fa_agg, fa_one, fa_nil, List.cons_append, List.nil_append, List.append_nil]
      refine call_step (n_penumbraref03_Is_t (m56.mono (by decide)) (m56.mono (by decide)) rfl) rfl ?_
      simp only [fa_agg, fa_one, fa_nil, List.cons_append, List.nil_append, List.append_nil]
      refine primS (.bool false) rfl ?_
      refine itF rfl ?_
      refine call_step (n_penumbraref03_Zero Y0) rfl ?_
      simp only [fa_agg, fa_one, fa_nil, List.cons_append, List.nil_append, List.append_nil]
      refine primS (.bool true) (d_inb9 (by decide) (show (0 : Int) < ((3 : Nat) : Int) by decide)) ?_
      refine get9_step (n := 58) (l := [((cr q41), (cr q42), (cr x0)), ((cr q42), (cr q47), (cr x1)), ((cr x0), (cr x1), (cr x2))]) (i := 0) (a := (cr q41)) (b := (cr q42)) (c := (cr x0)) rfl (by decide) rfl ?_
      simp only [v3, List.cons_append, List.nil_append, List.append_nil]
      refine primS (.bool true) (d_inb9 (by decide) (show (2 : Int) < ((3 : Nat) : Int) by decide)) ?_
      refine get9_step (n := 58) (l := [((cr q41), (cr q42), (cr x0)), ((cr q42), (cr q47), (cr x1)), ((cr x0), (cr x1), (cr x2))]) (i := 2) (a := (cr x0)) (b := (cr x1)) (c := (cr x2)) rfl (by decide) rfl ?_
      simp only [v3, List.cons_append, List.nil_append, List.append_nil]
      have m65 : Num 1048576 (cr x2) x2 := Num.of h2.sm
      have u66 : Z0 = (((q41 * x0) + (q42 * x1)) + (x0 * x2)) := (FrameRight_al67 Ym2 Y0 Y1 e3 d40 e41 e42 e1 c2 c4)
      refine call_step (n_vec_Dot_0 (k0 := Z0) (m51.mono (by decide)) (m57.mono (by decide)) (m58.mono (by decide)) (m58.mono (by decide)) (m62.mono (by decide)) (m65.mono (by decide)) u66) rfl ?_
      simp only [fa_agg, fa_one, fa_nil, List.cons_append, List.nil_append, List.append_nil]
      refine call_step (n_penumbraref03_Is_t (m56.mono (by decide)) (m56.mono (by decide)) rfl) rfl ?_
      simp only [fa_agg, fa_one, fa_nil, List.cons_append, List.nil_append, List.append_nil]
      refine primS (.bool false) rfl ?_
      refine itF rfl ?_
      refine call_step (n_penumbraref03_Zero Y0) rfl ?_
      simp only [fa_agg, fa_one, fa_nil, List.cons_append, List.nil_append, List.append_nil]
      refine primS (.bool true) (d_inb9 (by decide) (show (1 : Int) < ((3 : Nat) : Int) by decide)) ?_
      refine get9_step (n := 58) (l := [((cr q41), (cr q42), (cr x0)), ((cr q42), (cr q47), (cr x1)), ((cr x0), (cr x1), (cr x2))]) (i := 1) (a := (cr q42)) (b := (cr q47)) (c := (cr x1)) rfl (by decide) rfl ?_
      simp only [v3, List.cons_append, List.nil_append, List.append_nil]
      refine primS (.bool true) (d_inb9 (by decide) (show (0 : Int) < ((3 : Nat) : Int) by decide)) ?_
      refine get9_step (n := 58) (l := [((cr q41), (cr q42), (cr x0)), ((cr q42), (cr q47), (cr x1)), ((cr x0), (cr x1), (cr x2))]) (i := 0) (a := (cr q41)) (b := (cr q42)) (c := (cr x0)) rfl (by decide) rfl ?_
      simp only [v3, List.cons_append, List.nil_append, List.append_nil]
      have u68 : Z0 = (((q42 * q41) + (q47 * q42)) + (x1 * x0)) := (FrameRight_al69 Ym2 Y0 Y1 e3 d40 e42 e41 e47 e1 c2 c4)
      refine call_step (n_vec_Dot_0 (k0 := Z0) (m57.mono (by decide)) (m61.mono (by decide)) (m62.mono (by decide)) (m51.mono (by decide)) (m57.mono (by decide)) (m58.mono (by decide)) u68) rfl ?_
      simp only [fa_agg, fa_one, fa_nil, List.cons_append, List.nil_append, List.append_nil]
      refine call_step (n_penumbraref03_Is_t (m56.mono (by decide)) (m56.mono (by decide)) rfl) rfl ?_
      simp only [fa_agg, fa_one, fa_nil, List.cons_append, List.nil_append, List.append_nil]
      refine primS (.bool false) rfl ?_
      refine itF rfl ?_
      refine call_step (n_penumbraref03_Zero Y0) rfl ?_
      simp only [fa_agg, fa_one, fa_nil, List.cons_append, List.nil_append, List.append_nil]
      refine call_step (n_penumbraref03_One Y1) rfl ?_
      simp only [fa_agg, fa_one, fa_nil, List.cons_append, List.nil_append, List.append_nil]
      refine primS (.bool true) (d_inb9 (by decide) (show (1 : Int) < ((3 : Nat) : Int) by decide)) ?_
      refine get9_step (n := 58) (l := [((cr q41), (cr q42), (cr x0)), ((cr q42), (cr q47), (cr x1)), ((cr x0), (cr x1), (cr x2))]) (i := 1) (a := (cr q42)) (b := (cr q47)) (c := (cr x1)) rfl (by decide) rfl ?_
      simp only [v3, List.cons_append, List.nil_append, List.append_nil]
      refine primS (.bool true) (d_inb9 (by decide) (show (1 : Int) < ((3 : Nat) : Int) by decide)) ?_
      refine get9_step (n := 58) (l := [((cr q41), (cr q42), (cr x0)), ((cr q42), (cr q47), (cr x1)), ((cr x0), (cr x1), (cr x2))]) (i := 1) (a := (cr q42)) (b := (cr q47)) (c := (cr x1)) rfl (by decide) rfl ?_
      simp only [v3, List.cons_append, List.nil_append, List.append_nil]
      have u70 : Z1 = (((q42 * q42) + (q47 * q47)) + (x1 * x1)) := (FrameRight_al71 Ym2 Y0 Y1 e3 d40 e42 e47 e1 c2 c4)
      refine call_step (n_vec_Dot_0 (k0 := Z1) (m57.mono (by decide)) (m61.mono (by decide)) (m62.mono (by decide)) (m57.mono (by decide)) (m61.mono (by decide)) (m62.mono (by decide)) u70) rfl ?_
      simp only [fa_agg, fa_one, fa_nil, List.cons_append, List.nil_append, List.append_nil]
      refine call_step (n_penumbraref03_Is_t (m52.mono (by decide)) (m52.mono (by decide)) rfl) rfl ?_
      simp only [fa_agg, fa_one, fa_nil, List.cons_append, List.nil_append, List.append_nil]
      refine primS (.bool false) rfl ?_
      refine itF rfl ?_
      refine call_step (n_penumbraref03_Zero Y0) rfl ?_
      simp only [fa_agg, fa_one, fa_nil, List.cons_append, List.nil_append, List.append_nil]
      refine primS (.bool true) (d_inb9 (by decide) (show (1 : Int) < ((3 : Nat) : Int) by decide)) ?_
      refine get9_step (n := 58) (l := [((cr q41), (cr q42), (cr x0)), ((cr q42), (cr q47), (cr x1)), ((cr x0), (cr x1), (cr x2))]) (i := 1) (a := (cr q42)) (b := (cr q47)) (c := (cr x1)) rfl (by decide) rfl ?_
      simp only [v3, List.cons_append, List.nil_append, List.append_nil]
      refine primS (.bool true) (d_inb9 (by decide) (show (2 : Int) < ((3 : Nat) : Int) by decide)) ?_
      refine get9_step (n := 58) (l := [((cr q41), (cr q42), (cr x0)), ((cr q42), (cr q47), (cr x1)), ((cr x0), (cr x1), (cr x2))]) (i := 2) (a := (cr x0)) (b := (cr x1)) (c := (cr x2)) rfl (by decide) rfl ?_
      simp only [v3, List.cons_append, List.nil_append, List.append_nil]
      have u72 : Z0 = (((q42 * x0) + (q47 * x1)) + (x1 * x2)) := (FrameRight_al73 Ym2 Y0 Y1 e3 d40 e42 e47 e1 c2 c4)
      refine call_step (n_vec_Dot_0 (k0 := Z0) (m57.mono (by decide)) (m61.mono (by decide)) (m62.mono (by decide)) (m58.mono (by decide)) (m62.mono (by decide)) (m65.mono (by decide)) u72) rfl ?_
      simp only [fa_agg, fa_one, fa_nil, List.cons_append, List.nil_append, List.append_nil]
      refine call_step (n_penumbraref03_Is_t (m56.mono (by decide)) (m56.mono (by decide)) rfl) rfl ?_
      simp only [fa_agg, fa_one, fa_nil, List.cons_append, List.nil_append, List.append_nil]
      refine primS (.bool false) rfl ?_
      refine itF rfl ?_
      refine call_step (n_penumbraref03_Zero Y0) rfl ?_
      simp only [fa_agg, fa_one, fa_nil, List.cons_append, List.nil_append, List.append_nil]
      refine primS (.bool true) (d_inb9 (by decide) (show (2 : Int) < ((3 : Nat) : Int) by decide)) ?_
      refine get9_step (n := 58) (l := [((cr q41), (cr q42), (cr x0)), ((cr q42), (cr q47), (cr x1)), ((cr x0), (cr x1), (cr x2))]) (i := 2) (a := (cr x0)) (b := (cr x1)) (c := (cr x2)) rfl (by decide) rfl ?_
      simp only [v3, List.cons_append, List.nil_append, List.append_nil]
      refine primS (.bool true) (d_inb9 (by decide) (show (0 : Int) < ((3 : Nat) : Int) by decide)) ?_
      refine get9_step (n := 58) (l := [((cr q41), (cr q42), (cr x0)), ((cr q42), (cr q47), (cr x1)), ((cr x0), (cr x1), (cr x2))]) (i := 0) (a := (cr q41)) (b := (cr q42)) (c := (cr x0)) rfl (by decide) rfl ?_
      simp only [v3, List.cons_append, List.nil_append, List.append_nil]
      have u74 : Z0 = (((x0 * q41) + (x1 * q42)) + (x2 * x0)) := (FrameRight_al75 Ym2 Y0 Y1 e3 d40 e41 e42 e1 c2 c4)
      refine call_step (n_vec_Dot_0 (k0 := Z0) (m58.mono (by decide)) (m62.mono (by decide)) (m65.mono (by decide)) (m51.mono (by decide)) (m57.mono (by decide)) (m58.mono (by decide)) u74) rfl ?_
      simp only [fa_agg, fa_one, fa_nil, List.cons_append, List.nil_append, List.append_nil]
      refine call_step (n_penumbraref03_Is_t (m56.mono (by decide)) (m56.mono (by decide)) rfl) rfl ?_
      simp only [fa_agg, fa_one, fa_nil, List.cons_append, List.nil_append, List.append_nil]
      refine primS (.bool false) rfl ?_
      refine itF rfl ?_
      refine call_step (n_penumbraref03_Zero Y0) rfl ?_
      simp only [fa_agg, fa_one, fa_nil, List.cons_append, List.nil_append, List.append_nil]
      refine primS (.bool true) (d_inb9 (by decide) (show (2 : Int) < ((3 : Nat) : Int) by decide)) ?_
      refine get9_step (n := 58) (l := [((cr q41), (cr q42), (cr x0)), ((cr q42), (cr q47), (cr x1)), ((cr x0), (cr x1), (cr x2))]) (i := 2) (a := (cr x0)) (b := (cr x1)) (c := (cr x2)) rfl (by decide) rfl ?_
      simp only [v3, List.cons_append, List.nil_append, List.append_nil]
      refine primS (.bool true) (d_inb9 (by decide) (show (1 : Int) < ((3 : Nat) : Int) by decide)) ?_
      refine get9_step (n := 58) (l := [((cr q41), (cr q42), (cr x0)), ((cr q42), (cr q47), (cr x1)), ((cr x0), (cr x1), (cr x2))]) (i := 1) (a := (cr q42)) (b := (cr q47)) (c := (cr x1)) rfl (by decide) rfl ?_
      simp only [v3, List.cons_append, List.nil_append, List.append_nil]
      have u76 : Z0 = (((x0 * q42) + (x1 * q47)) + (x2 * x1)) := (FrameRight_al77 Ym2 Y0 Y1 e3 d40 e42 e47 e1 c2 c4)
      refine call_step (n_vec_Dot_0 (k0 := Z0) (m58.mono (by decide)) (m62.mono (by decide)) (m65.mono (by decide)) (m57.mono (by decide)) (m61.mono (by decide)) (m62.mono (by decide)) u76) rfl ?_
      simp only [fa_agg, fa_one, fa_nil, List.cons_append, List.nil_append, List.append_nil]
      refine call_step (n_penumbraref03_Is_t (m56.mono (by decide)) (m56.mono (by decide)) rfl) rfl ?_
      simp only [fa_agg, fa_one, fa_nil, List.cons_append, List.nil_append, List.append_nil]
      refine primS (.bool false) rfl ?_
      refine itF rfl ?_
      refine call_step (n_penumbraref03_Zero Y0) rfl ?_
      simp only [fa_agg, fa_one, fa_nil, List.cons_append, List.nil_append, List.append_nil]
      refine call_step (n_penumbraref03_One Y1) rfl ?_
      simp only [fa_agg, fa_one, fa_nil, List.cons_append, List.nil_append, List.append_nil]
      refine primS (.bool true) (d_inb9 (by decide) (show (2 : Int) < ((3 : Nat) : Int) by decide)) ?_
      refine get9_step (n := 58) (l := [((cr q41), (cr q42), (cr x0)), ((cr q42), (cr q47), (cr x1)), ((cr x0), (cr x1), (cr x2))]) (i := 2) (a := (cr x0)) (b := (cr x1)) (c := (cr x2)) rfl (by decide) rfl ?_
      simp only [v3, List.cons_append, List.nil_append, List.append_nil]
      refine primS (.bool true) (d_inb9 (by decide) (show (2 : Int) < ((3 : Nat) : Int) by decide)) ?_
      refine get9_step (n := 58) (l := [((cr q41), (cr q42), (cr x0)), ((cr q42), (cr q47), (cr x1)), ((cr x0), (cr x1), (cr x2))]) (i := 2) (a := (cr x0)) (b := (cr x1)) (c := (cr x2)) rfl (by decide) rfl ?_
      simp only [v3, List.cons_append, List.nil_append, List.append_nil]
      refine call_step (n_vec_Dot_0 (k0 := q1) (m58.mono (by decide)) (m62.mono (by decide)) (m65.mono (by decide)) (m58.mono (by decide)) (m62.mono (by decide)) (m65.mono (by decide)) e1) rfl ?_
      simp only [fa_agg, fa_one, fa_nil, List.cons_append, List.nil_append, List.append_nil]
      have m78 : Num 6291458 (cr q1) q1 := Num.eqn e1 (Sm.add (Sm.add (Sm.mul h0.sm h0.sm) (Sm.mul h1.sm h1.sm)) (Sm.mul h2.sm h2.sm))
      refine call_step (n_penumbraref03_Is_t (m78.mono (by decide)) (m52.mono (by decide)) c2) rfl ?_
      simp only [fa_agg, fa_one, fa_nil, List.cons_append, List.nil_append, List.append_nil]
      refine primS (.bool false) rfl ?_
      refine itF rfl ?_
      refine call_step (n_vec_Read_0 (h0.mono (by decide)) (h1.mono (by decide)) (h2.mono (by decide))) rfl ?_
      simp only [fa_agg, fa_one, fa_nil, List.cons_append, List.nil_append, List.append_nil]
      refine call_step (n_penumbraref05_Is_0 (m58.mono (by decide)) (m62.mono (by decide)) (m65.mono (by decide)) (m58.mono (by decide)) (m62.mono (by decide)) (m65.mono (by decide)) rfl rfl rfl) rfl ?_
      simp only [fa_agg, fa_one, fa_nil, List.cons_append, List.nil_append, List.append_nil]
      refine itT rfl ?_
      obtain ⟨q79, e79⟩ := ex_eq (((x3 * q41) + (x4 * q42)) + (x5 * x0))
      obtain ⟨q80, e80⟩ := ex_eq (((x3 * q42) + (x4 * q47)) + (x5 * x1))
      obtain ⟨q81, e81⟩ := ex_eq (((x3 * x0) + (x4 * x1)) + (x5 * x2))
      refine call_step (n_frame_In_0 (k0 := q79) (k1 := q80) (k2 := q81) (m51.mono (by decide)) (m57.mono (by decide)) (m58.mono (by decide)) (m57.mono (by decide)) (m61.mono (by decide)) (m62.mono (by decide)) (m58.mono (by decide)) (m62.mono (by decide)) (m65.mono (by decide)) (h3.mono (by decide)) (h4.mono (by decide)) (h5.mono (by decide)) e79 e80 e81) rfl ?_
      simp only [fa_agg, fa_one, fa_nil, List.cons_append, List.nil_append, List.append_nil]
      have m82 : Num 20971564 (cr q79) q79 := Num.eqn e79 (Sm.add (Sm.add (Sm.mul h3.sm m51.sm) (Sm.mul h4.sm m57.sm)) (Sm.mul h5.sm m58.sm))
      have m83 : Num 20971564 (cr q80) q80 := Num.eqn e80 (Sm.add (Sm.add (Sm.mul h3.sm m57.sm) (Sm.mul h4.sm m61.sm)) (Sm.mul h5.sm m62.sm))
      have m84 : Num 6291458 (cr q81) q81 := Num.eqn e81 (Sm.add (Sm.add (Sm.mul h3.sm m58.sm) (Sm.mul h4.sm m62.sm)) (Sm.mul h5.sm m65.sm))
      have u85 : x3 = (((q79 * q41) + (q80 * q42)) + (q81 * x0)) := (FrameRight_al86 Ym2 Y0 Y1 e3 d40 e41 e42 e79 e47 e80 e81 e1 c2 c4)
      have u87 : x4 = (((q79 * q42) + (q80 * q47)) + (q81 * x1)) := (FrameRight_al88 Ym2 Y0 Y1 e3 d40 e41 e42 e79 e47 e80 e81 e1 c2 c4)
      have u89 : x5 = (((q79 * x0) + (q80 * x1)) + (q81 * x2)) := (FrameRight_al90 Ym2 Y0 Y1 e3 d40 e41 e42 e79 e47 e80 e81 e1 c2 c4)
      refine call_step (n_frame_Out_0 (k0 := x3) (k1 := x4) (k2 := x5) (m51.mono (by decide)) (m57.mono (by decide)) (m58.mono (by decide)) (m57.mono (by decide)) (m61.mono (by decide)) (m62.mono (by decide)) (m58.mono (by decide)) (m62.mono (by decide)) (m65.mono (by decide)) (m82.mono (by decide)) (m83.mono (by decide)) (m84.mono (by decide)) u85 u87 u89) rfl ?_
      simp only [fa_agg, fa_one, fa_nil, List.cons_append, List.nil_append, List.append_nil]
      refine call_step (n_vec_Read_0 (h3.mono (by decide)) (h4.mono (by decide)) (h5.mono (by decide))) rfl ?_
      simp only [fa_agg, fa_one, fa_nil, List.cons_append, List.nil_append, List.append_nil]
      have m91 : Num 1048576 (cr x3) x3 := Num.of h3.sm
      have m92 : Num 1048576 (cr x4) x4 := Num.of h4.sm
      have m93 : Num 1048576 (cr x5) x5 := Num.of h5.sm
      refine call_step (n_penumbraref05_Is_0 (m91.mono (by decide)) (m92.mono (by decide)) (m93.mono (by decide)) (m91.mono (by decide)) (m92.mono (by decide)) (m93.mono (by decide)) rfl rfl rfl) rfl ?_
      simp only [fa_agg, fa_one, fa_nil, List.cons_append, List.nil_append, List.append_nil]
      refine itT rfl ?_
      refine call_step (n_frame_Out_0 (k0 := q79) (k1 := q80) (k2 := q81) (m51.mono (by decide)) (m57.mono (by decide)) (m58.mono (by decide)) (m57.mono (by decide)) (m61.mono (by decide)) (m62.mono (by decide)) (m58.mono (by decide)) (m62.mono (by decide)) (m65.mono (by decide)) (h3.mono (by decide)) (h4.mono (by decide)) (h5.mono (by decide)) e79 e80 e81) rfl ?_
      simp only [fa_agg, fa_one, fa_nil, List.cons_append, List.nil_append, List.append_nil]
      refine call_step (n_frame_In_0 (k0 := x3) (k1 := x4) (k2 := x5) (m51.mono (by decide)) (m57.mono (by decide)) (m58.mono (by decide)) (m57.mono (by decide)) (m61.mono (by decide)) (m62.mono (by decide)) (m58.mono (by decide)) (m62.mono (by decide)) (m65.mono (by decide)) (m82.mono (by decide)) (m83.mono (by decide)) (m84.mono (by decide)) u85 u87 u89) rfl ?_
      simp only [fa_agg, fa_one, fa_nil, List.cons_append, List.nil_append, List.append_nil]
      refine call_step (n_vec_Read_0 (h3.mono (by decide)) (h4.mono (by decide)) (h5.mono (by decide))) rfl ?_
      simp only [fa_agg, fa_one, fa_nil, List.cons_append, List.nil_append, List.append_nil]
      refine call_step (n_penumbraref05_Is_0 (m91.mono (by decide)) (m92.mono (by decide)) (m93.mono (by decide)) (m91.mono (by decide)) (m92.mono (by decide)) (m93.mono (by decide)) rfl rfl rfl) rfl ?_
      simp only [fa_agg, fa_one, fa_nil, List.cons_append, List.nil_append, List.append_nil]
      refine itT rfl ?_
      refine call_step (n_frame_In_0 (k0 := q79) (k1 := q80) (k2 := q81) (m51.mono (by decide)) (m57.mono (by decide)) (m58.mono (by decide)) (m57.mono (by decide)) (m61.mono (by decide)) (m62.mono (by decide)) (m58.mono (by decide)) (m62.mono (by decide)) (m65.mono (by decide)) (h3.mono (by decide)) (h4.mono (by decide)) (h5.mono (by decide)) e79 e80 e81) rfl ?_
      simp only [fa_agg, fa_one, fa_nil, List.cons_append, List.nil_append, List.append_nil]
      obtain ⟨q94, e94⟩ := ex_eq (((x6 * q41) + (x7 * q42)) + (x8 * x0))
      obtain ⟨q95, e95⟩ := ex_eq (((x6 * q42) + (x7 * q47)) + (x8 * x1))
      obtain ⟨q96, e96⟩ := ex_eq (((x6 * x0) + (x7 * x1)) + (x8 * x2))
      refine call_step (n_frame_In_0 (k0 := q94) (k1 := q95) (k2 := q96) (m51.mono (by decide)) (m57.mono (by decide)) (m58.mono (by decide)) (m57.mono (by decide)) (m61.mono (by decide)) (m62.mono (by decide)) (m58.mono (by decide)) (m62.mono (by decide)) (m65.mono (by decide)) (h6.mono (by decide)) (h7.mono (by decide)) (h8.mono (by decide)) e94 e95 e96) rfl ?_
      simp only [fa_agg, fa_one, fa_nil, List.cons_append, List.nil_append, List.append_nil]
      have m97 : Num 20971564 (cr q94) q94 := Num.eqn e94 (Sm.add (Sm.add (Sm.mul h6.sm m51.sm) (Sm.mul h7.sm m57.sm)) (Sm.mul h8.sm m58.sm))
      have m98 : Num 20971564 (cr q95) q95 := Num.eqn e95 (Sm.add (Sm.add (Sm.mul h6.sm m57.sm) (Sm.mul h7.sm m61.sm)) (Sm.mul h8.sm m62.sm))
      have m99 : Num 6291458 (cr q96) q96 := Num.eqn e96 (Sm.add (Sm.add (Sm.mul h6.sm m58.sm) (Sm.mul h7.sm m62.sm)) (Sm.mul h8.sm m65.sm))
      obtain ⟨q100, e100⟩ := ex_eq (((q79 * q94) + (q80 * q95)) + (q81 * q96))
      refine call_step (n_vec_Dot_0 (k0 := q100) (m82.mono (by decide)) (m83.mono (by decide)) (m84.mono (by decide)) (m97.mono (by decide)) (m98.mono (by decide)) (m99.mono (by decide)) e100) rfl ?_
      simp only [fa_agg, fa_one, fa_nil, List.cons_append, List.nil_append, List.append_nil]
      have u101 : q100 = (((x3 * x6) + (x4 * x7)) + (x5 * x8)) := (FrameRight_al102 Ym2 Y0 Y1 e3 d40 e41 e42 e79 e94 e47 e80 e95 e81 e96 e100 e1 c2 c4)
      refine call_step (n_vec_Dot_0 (k0 := q100) (h3.mono (by decide)) (h4.mono (by decide)) (h5.mono (by decide)) (h6.mono (by decide)) (h7.mono (by decide)) (h8.mono (by decide)) u101) rfl ?_
      simp only [fa_agg, fa_one, fa_nil, List.cons_append, List.nil_append, List.append_nil]
      have m103 : Num 96469174 (cr q100) q100 := Num.eqn e100 (Sm.add (Sm.add (Sm.mul m82.sm m97.sm) (Sm.mul m83.sm m98.sm)) (Sm.mul m84.sm m99.sm))
      refine call_step (n_penumbraref03_Is_t (m103.mono (by decide)) (m103.mono (by decide)) rfl) rfl ?_
      simp only [fa_agg, fa_one, fa_nil, List.cons_append, List.nil_append, List.append_nil]
      exact ret_step rfl
  · skip
    refine call_step (n_frame_Of_2 (k0 := q1) Y0 Y1 (h0.mono (by decide)) (h1.mono (by decide)) (h2.mono (by decide)) e1 c2) rfl ?_
    simp only [fa_agg, fa_one, fa_nil, List.cons_append, List.nil_append, List.append_nil]
    refine call_step n_penumbralaw06_fixed rfl ?_
    simp only [fa_agg, fa_one, fa_nil, List.cons_append, List.nil_append, List.append_nil]
    refine primS (.bool false) rfl ?_
    refine itF rfl ?_
    refine primS (.bool true) rfl ?_
    refine itT rfl ?_
    refine call_step n_penumbralaw06_fixed rfl ?_
    simp only [fa_agg, fa_one, fa_nil, List.cons_append, List.nil_append, List.append_nil]
    refine itT rfl ?_
    refine call_step (n_vec_Dot_0 (k0 := q1) (h0.mono (by decide)) (h1.mono (by decide)) (h2.mono (by decide)) (h0.mono (by decide)) (h1.mono (by decide)) (h2.mono (by decide)) e1) rfl ?_
    simp only [fa_agg, fa_one, fa_nil, List.cons_append, List.nil_append, List.append_nil]
    refine call_step (n_rat_Of (1) (1) (by decide) (by decide) (by decide) (by decide) (Y1.trans (by decide +kernel))) rfl ?_
    simp only [fa_agg, fa_one, fa_nil, List.cons_append, List.nil_append, List.append_nil]
    have m104 : Num 6291458 (cr q1) q1 := Num.eqn e1 (Sm.add (Sm.add (Sm.mul h0.sm h0.sm) (Sm.mul h1.sm h1.sm)) (Sm.mul h2.sm h2.sm))
    have m105 : Num 1 (cr Z1) Z1 := Num.c Y1 (by decide +kernel) (by decide +kernel)
    refine call_step (n_rat_Same_f (m104.mono (by decide)) (m105.mono (by decide)) c2) rfl ?_
    simp only [fa_agg, fa_one, fa_nil, List.cons_append, List.nil_append, List.append_nil]
    refine primS (.bool true) rfl ?_
    exact ret_step rfl

end Go.Px.Na

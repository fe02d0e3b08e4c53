/- Ls: the signs of products, quotients and sums. -/
import Derived.Test.YtgnhhdgepnfnmaaGreatLq
set_option linter.unusedVariables false
set_option linter.unusedSimpArgs false
namespace Go.Px.Na
open Go.RowKit

/-- Numbers as they lie, and as they are worth: names for long lists. -/
def gW : List RR → List DV
  | [] => []
  | r :: l => .bool r.neg :: nl r.num :: nl r.den :: gW l
def gD : List Rat → List DV
  | [] => []
  | x :: l => .bool (decide (x.num < 0)) :: nn x.num.natAbs :: nn x.den :: gD l
variable {P : Program} {As : List (List DV → Prop)} {ρ : List DV} {Q : List AV → Prop}
theorem n_penumbraref03_Abs_o {r0 : RR} {x0 k0 : Rat} (h0 : Num LL r0 x0) (e : k0 = x0.abs) : PureCalls Go.Proofs.Tryz.prog F.penumbraref03_Abs [.agg ([.bool r0.neg, nl r0.num, nl r0.den])] [.agg ([.bool (decide ((k0).num < 0)), nn (k0).num.natAbs, nn (k0).den])] := by rw [e, ← h0.2.1]; exact kr_absR h0.1
theorem cs0 {g : FuncId} {args : List Arg} {k : IR} {d : DV} (h : PureCalls P g (args.map (Arg.ev ρ)) [.one d]) (hk : IRwp P As (ρ ++ [d]) k Q) : IRwp P As ρ (.call g args [.one] k) Q := call_step h rfl hk
theorem cs1 {g : FuncId} {args : List Arg} {k : IR} {x : Rat} (h : PureCalls P g (args.map (Arg.ev ρ)) [.agg (gD [x])]) (hk : IRwp P As (ρ ++ gD [x]) k Q) : IRwp P As ρ (.call g args [.agg 3] k) Q := call_step h rfl hk
theorem cs2 {g : FuncId} {args : List Arg} {k : IR} {x : Rat} {d : DV} (h : PureCalls P g (args.map (Arg.ev ρ)) [.agg (gD [x]), .one d]) (hk : IRwp P As (ρ ++ (gD [x] ++ [d])) k Q) : IRwp P As ρ (.call g args [.agg 3, .one] k) Q := call_step h rfl hk
theorem cs3 {g : FuncId} {args : List Arg} {k : IR} {x y z : Rat} (h : PureCalls P g (args.map (Arg.ev ρ)) [.agg (gD [x, y, z])]) (hk : IRwp P As (ρ ++ gD [x, y, z]) k Q) : IRwp P As ρ (.call g args [.agg 9] k) Q := call_step h rfl hk
/-- What flattens arguments and results. -/
theorem HH : type_of% (And.intro @fa_agg (And.intro @fa_one (And.intro @fa_nil (And.intro (@List.cons_append DV) (And.intro (@List.nil_append DV) (@List.append_nil DV)))))) := And.intro @fa_agg (And.intro @fa_one (And.intro @fa_nil (And.intro (@List.cons_append DV) (And.intro (@List.nil_append DV) (@List.append_nil DV)))))

theorem s_mul_pp {Z0 q a b : Rat} (y : Z0 = 0) (e : q = a * b) (h : Z0 < a) (k : Z0 < b) : Z0 < q := by
  subst y e
  have t := Rat.mul_pos (a := a) (b := b) (by grind) (by grind)
  grind
theorem s_mul_np {Z0 q a b : Rat} (y : Z0 = 0) (e : q = a * b) (h : a < Z0) (k : Z0 < b) : q < Z0 := by
  subst y e
  have t := Rat.mul_pos (a := -a) (b := b) (by grind) (by grind)
  grind
theorem s_mul_pn {Z0 q a b : Rat} (y : Z0 = 0) (e : q = a * b) (h : Z0 < a) (k : b < Z0) : q < Z0 := by
  subst y e
  have t := Rat.mul_pos (a := a) (b := -b) (by grind) (by grind)
  grind
theorem s_mul_nn {Z0 q a b : Rat} (y : Z0 = 0) (e : q = a * b) (h : a < Z0) (k : b < Z0) : Z0 < q := by
  subst y e
  have t := Rat.mul_pos (a := -a) (b := -b) (by grind) (by grind)
  grind
theorem s_mul_0x {Z0 q a b : Rat} (y : Z0 = 0) (e : q = a * b) (h : a = Z0) : q = Z0 := by
  subst y e
  rw [h]; exact Rat.zero_mul _
theorem s_mul_x0 {Z0 q a b : Rat} (y : Z0 = 0) (e : q = a * b) (h : b = Z0) : q = Z0 := by
  subst y e
  rw [h]; exact Rat.mul_zero _
theorem s_mul_ww {Z0 q a b : Rat} (y : Z0 = 0) (e : q = a * b) (h : ¬a < Z0) (k : ¬b < Z0) : ¬q < Z0 := by
  subst y e
  have t := Rat.mul_nonneg (a := a) (b := b) (by grind) (by grind)
  grind
theorem s_div_pp {Z0 q a b : Rat} (y : Z0 = 0) (e : q = a / b) (h : Z0 < a) (k : Z0 < b) : Z0 < q := by
  subst y e
  rw [Rat.div_def]
  have u : 0 < b⁻¹ := Rat.inv_pos.2 k
  have t := Rat.mul_pos (a := a) (b := b⁻¹) (by grind) (by grind)
  grind
theorem s_div_np {Z0 q a b : Rat} (y : Z0 = 0) (e : q = a / b) (h : a < Z0) (k : Z0 < b) : q < Z0 := by
  subst y e
  rw [Rat.div_def]
  have u : 0 < b⁻¹ := Rat.inv_pos.2 k
  have t := Rat.mul_pos (a := -a) (b := b⁻¹) (by grind) (by grind)
  grind
theorem s_div_pn {Z0 q a b : Rat} (y : Z0 = 0) (e : q = a / b) (h : Z0 < a) (k : b < Z0) : q < Z0 := by
  subst y e
  rw [Rat.div_def]
  have u : b⁻¹ < 0 := by
    have w := Rat.mul_inv_cancel b (by grind)
    exact Classical.byContradiction fun z => by
      have t := Rat.mul_nonneg (a := -b) (b := b⁻¹) (by grind) (by grind)
      grind
  have t := Rat.mul_pos (a := a) (b := -b⁻¹) (by grind) (by grind)
  grind
theorem s_div_nn {Z0 q a b : Rat} (y : Z0 = 0) (e : q = a / b) (h : a < Z0) (k : b < Z0) : Z0 < q := by
  subst y e
  rw [Rat.div_def]
  have u : b⁻¹ < 0 := by
    have w := Rat.mul_inv_cancel b (by grind)
    exact Classical.byContradiction fun z => by
      have t := Rat.mul_nonneg (a := -b) (b := b⁻¹) (by grind) (by grind)
      grind
  have t := Rat.mul_pos (a := -a) (b := -b⁻¹) (by grind) (by grind)
  grind
theorem s_div_0x {Z0 q a b : Rat} (y : Z0 = 0) (e : q = a / b) (h : a = Z0) : q = Z0 := by
  subst y e
  rw [h]; rw [Rat.div_def]; exact Rat.zero_mul _
theorem s_div_x0 {Z0 q a b : Rat} (y : Z0 = 0) (e : q = a / b) (h : b = Z0) : q = Z0 := by
  subst y e
  rw [h]; rw [Rat.div_def, Rat.inv_zero]; exact Rat.mul_zero _
theorem s_div_ww {Z0 q a b : Rat} (y : Z0 = 0) (e : q = a / b) (h : ¬a < Z0) (k : ¬b < Z0) : ¬q < Z0 := by
  subst y e
  rw [Rat.div_def]
  have u : 0 ≤ b⁻¹ := by
    by_cases z : b = 0
    · rw [z, Rat.inv_zero]; exact Rat.le_refl
    · exact Rat.le_of_lt (Rat.inv_pos.2 (by grind))
  have t := Rat.mul_nonneg (a := a) (b := b⁻¹) (by grind) (by grind)
  grind
theorem s_mul_f {Z0 q a b : Rat} (y : Z0 = 0) (e : q = a * b) (h : ¬a = Z0) (k : ¬b = Z0) : ¬q = Z0 := by
  subst y e
  intro z
  rcases Rat.mul_eq_zero.1 z with z | z
  · exact h z
  · exact k z
theorem s_add_pp {Z0 q a b : Rat} (y : Z0 = 0) (e : q = a + b) (h : Z0 < a) (k : Z0 < b) : Z0 < q := by
  subst y e
  grind
theorem s_add_pw {Z0 q a b : Rat} (y : Z0 = 0) (e : q = a + b) (h : Z0 < a) (k : ¬b < Z0) : Z0 < q := by
  subst y e
  grind
theorem s_add_wp {Z0 q a b : Rat} (y : Z0 = 0) (e : q = a + b) (h : ¬a < Z0) (k : Z0 < b) : Z0 < q := by
  subst y e
  grind
theorem s_add_ww {Z0 q a b : Rat} (y : Z0 = 0) (e : q = a + b) (h : ¬a < Z0) (k : ¬b < Z0) : ¬q < Z0 := by
  subst y e
  grind
theorem s_add_nn {Z0 q a b : Rat} (y : Z0 = 0) (e : q = a + b) (h : a < Z0) (k : b < Z0) : q < Z0 := by
  subst y e
  grind
theorem s_add_00 {Z0 q a b : Rat} (y : Z0 = 0) (e : q = a + b) (h : a = Z0) (k : b = Z0) : q = Z0 := by
  subst y e
  grind
theorem s_neg_p {Z0 q a b : Rat} (y : Z0 = 0) (e : q = -a) (h : Z0 < a) : q < Z0 := by
  subst y e
  grind
theorem s_neg_n {Z0 q a b : Rat} (y : Z0 = 0) (e : q = -a) (h : a < Z0) : Z0 < q := by
  subst y e
  grind
theorem s_neg_0 {Z0 q a b : Rat} (y : Z0 = 0) (e : q = -a) (h : a = Z0) : q = Z0 := by
  subst y e
  grind
theorem s_sq_w {Z0 q a b : Rat} (y : Z0 = 0) (e : q = a * a)  : ¬q < Z0 := by
  subst y e
  have := sq_nn a
  grind
theorem s_sq_p {Z0 q a b : Rat} (y : Z0 = 0) (e : q = a * a) (h : ¬a = Z0) : Z0 < q := by
  subst y e
  have t := sq_nn a
  rcases Rat.le_iff_lt_or_eq.1 t with u | u
  · exact u
  · exact absurd (sq_z u.symm) h
theorem s_abs_w {Z0 q a b : Rat} (y : Z0 = 0) (e : q = a.abs)  : ¬q < Z0 := by
  subst y e
  have := abs_nn a
  grind
theorem s_abs_p {Z0 q a b : Rat} (y : Z0 = 0) (e : q = a.abs) (h : ¬a = Z0) : Z0 < q := by
  subst y e
  by_cases t : a < 0
  · rw [Rat.abs_of_nonpos (Rat.le_of_lt t)]; grind
  · rw [Rat.abs_of_nonneg (by grind)]; grind
theorem s_abs_0 {Z0 q a b : Rat} (y : Z0 = 0) (e : q = a.abs) (h : a = Z0) : q = Z0 := by
  subst y e
  rw [h]; rfl
theorem s_dns {Z0 q a b : Rat} (y : Z0 = 0) (e : q = dns a)  : Z0 < q := by
  subst y e
  exact dns_pos rfl rfl
theorem t_wk {Z0 a : Rat} (h : Z0 < a) : ¬a < Z0 := fun k => by grind
theorem t_wz {Z0 a : Rat} (h : a = Z0) : ¬a < Z0 := fun k => by grind
end Go.Px.Na

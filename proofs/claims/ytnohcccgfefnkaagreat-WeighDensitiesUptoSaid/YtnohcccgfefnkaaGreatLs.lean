/- Ls: the signs of products, quotients and sums. -/
import Derived.Test.YtnohcccgfefnkaaGreatLq
set_option linter.unusedVariables false
set_option linter.unusedSimpArgs false
namespace Go.Px.Na
open Go.RowKit

/-- Numbers as they lie, and as they are worth: names for long lists. -/
def gW : List RR → List DV
  | [] => []
  | r :: l => .bool r.neg :: nl r.num :: nl r.den :: gW l
def gD : List Rat → List DV
  | [] => []
  | x :: l => .bool (decide (x.num < 0)) :: nn x.num.natAbs :: nn x.den :: gD l
variable {P : Program} {As : List (List DV → Prop)} {ρ : List DV} {Q : List AV → Prop}
theorem n_penumbraref03_Abs_o {r0 : RR} {x0 k0 : Rat} (h0 : Num LL r0 x0) (e : k0 = x0.abs) : PureCalls Go.Proofs.Tryz.prog F.penumbraref03_Abs [.agg ([.bool r0.neg, nl r0.num, nl r0.den])] [.agg ([.bool (decide ((k0).num < 0)), nn (k0).num.natAbs, nn (k0).den])] := by rw [e, ← h0.2.1]; exact kr_absR h0.1
theorem cs1 {g : FuncId} {args : List Arg} {k : IR} {x : Rat} (h : PureCalls P g (args.map (Arg.ev ρ)) [.agg (gD [x])]) (hk : IRwp P As (ρ ++ gD [x]) k Q) : IRwp P As ρ (.call g args [.agg 3] k) Q := call_step h rfl hk
theorem cs2 {g : FuncId} {args : List Arg} {k : IR} {x : Rat} {d : DV} (h : PureCalls P g (args.map (Arg.ev ρ)) [.agg (gD [x]), .one d]) (hk : IRwp P As (ρ ++ (gD [x] ++ [d])) k Q) : IRwp P As ρ (.call g args [.agg 3, .one] k) Q := call_step h rfl hk
theorem cs3 {g : FuncId} {args : List Arg} {k : IR} {x y z : Rat} (h : PureCalls P g (args.map (Arg.ev ρ)) [.agg (gD [x, y, z])]) (hk : IRwp P As (ρ ++ gD [x, y, z]) k Q) : IRwp P As ρ (.call g args [.agg 9] k) Q := call_step h rfl hk
/-- What flattens arguments and results. -/
theorem HH : type_of% (And.intro @fa_agg (And.intro @fa_one (And.intro @fa_nil (And.intro (@List.cons_append DV) (And.intro (@List.nil_append DV) (@List.append_nil DV)))))) := And.intro @fa_agg (And.intro @fa_one (And.intro @fa_nil (And.intro (@List.cons_append DV) (And.intro (@List.nil_append DV) (@List.append_nil DV)))))

theorem s_mul_pp {Z0 q a b : Rat} (y : Z0 = 0) (e : q = a * b) (h : Z0 < a) (k : Z0 < b) : Z0 < q := by
  subst y e
  have t := Rat.mul_pos (a := a) (b := b) (by grind) (by grind)
  grind
theorem s_mul_np {Z0 q a b : Rat} (y : Z0 = 0) (e : q = a * b) (h : a < Z0) (k : Z0 < b) : q < Z0 := by
  subst y e
  have t := Rat.mul_pos (a := -a) (b := b) (by grind) (by grind)
  grind
theorem s_mul_pn {Z0 q a b : Rat} (y : Z0 = 0) (e : q = a * b) (h : Z0 < a) (k : b < Z0) : q < Z0 := by
  subst y e
  have t := Rat.mul_pos (a := a) (b := -b) (by grind) (by grind)
  grind
theorem s_mul_nn {Z0 q a b : Rat} (y : Z0 = 0) (e : q = a * b) (h : a < Z0) (k : b < Z0) : Z0 < q := by
  subst y e
  have t := Rat.mul_pos (a := -a) (b := -b) (by grind) (by grind)
  grind
end Go.Px.Na

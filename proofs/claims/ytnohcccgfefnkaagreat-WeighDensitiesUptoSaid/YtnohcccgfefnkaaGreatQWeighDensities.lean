/- QWeighDensities: how likely each way finds any path is as the document says. -/
import Derived.Test.YtnohcccgfefnkaaGreatWh
import Derived.Test.YtnohcccgfefnkaaGreatWd
set_option maxRecDepth 20000
set_option maxHeartbeats 40000000
set_option linter.unusedVariables false
set_option linter.unusedSimpArgs false
namespace Go.Px
open Go.RowKit
def ir_penumbralaw18_WeighDensities : IR :=
 .call F.weigh_Densities [.agg [.var 0, .var 1, .var 2, .var 3, .var 4, .var 5, .var 6, .var 7, .var 8, .var 9, .var 10, .var 11, .var 12, .var 13, .var 14, .var 15, .var 16, .var 17, .var 18, .var 19, .var 20, .var 21, .var 22, .var 23, .var 24, .var 25, .var 26, .var 27, .var 28, .var 29, .var 30, .var 31, .var 32, .var 33, .var 34, .var 35, .var 36, .var 37, .var 38, .var 39, .var 40, .var 41, .var 42, .var 43, .var 44, .var 45, .var 46, .var 47, .var 48, .var 49, .var 50, .var 51, .var 52, .var 53, .var 54, .var 55, .var 56, .var 57, .var 58, .var 59, .var 60, .var 61, .var 62, .var 63, .var 64, .var 65, .var 66, .var 67, .var 68, .var 69, .var 70]] [.one, .one] <|
 .call F.penumbraref18_Densities [.agg [.var 0, .var 1, .var 2, .var 3, .var 4, .var 5, .var 6, .var 7, .var 8, .var 9, .var 10, .var 11, .var 12, .var 13, .var 14, .var 15, .var 16, .var 17, .var 18, .var 19, .var 20, .var 21, .var 22, .var 23, .var 24, .var 25, .var 26, .var 27, .var 28, .var 29, .var 30, .var 31, .var 32, .var 33, .var 34, .var 35, .var 36, .var 37, .var 38, .var 39, .var 40, .var 41, .var 42, .var 43, .var 44, .var 45, .var 46, .var 47, .var 48, .var 49, .var 50, .var 51, .var 52, .var 53, .var 54, .var 55, .var 56, .var 57, .var 58, .var 59, .var 60, .var 61, .var 62, .var 63, .var 64, .var 65, .var 66, .var 67, .var 68, .var 69, .var 70]] [.one, .one] <|
 .call F.penumbralaw18_fixed [] [.one] <|
 .ite (.var 75) (
  .call F.penumbraref09_Same [.one (.var 71), .one (.var 73)] [.one] <|
  .ite (.var 76) (
   .call F.penumbraref09_Same [.one (.var 72), .one (.var 74)] [.one] <|
   .ret [.one (.var 77)]) (
   .ret [.one (.bol false)])) (
  .ret [.one (.bol false)])

theorem tree_penumbralaw18_WeighDensities : symFunc Go.Proofs.Tryz.prog H0 400 F.penumbralaw18_WeighDensities [.agg 71] = some ir_penumbralaw18_WeighDensities := by kernel_rfl
end Go.Px
namespace Go.Px.Na
open Go.RowKit
open Go.Proofs.Tryz (prog)
section
variable {r : RP} {p : Pa}
theorem fr_Dens (h : NP 1048576 r p) : PureCalls prog F.penumbraref18_Densities [.agg r.c] [.one (rw' p.J), .one (rw' p.M)] := by
  have k := fr_Densities h
  rw [show rl (if p.may then p.rowQ (p.n + 1) else []) = rw' p.J by unfold rw' Pa.J Pa.rowQ; split <;> simp [Function.comp_def], show rl (if p.may then p.rowM (p.n - 1) else []) = rw' p.M by unfold rw' Pa.M Pa.rowM; split <;> simp [Function.comp_def]] at k
  exact k
theorem pure_WeighDensities (h : NP 1048576 r p) (hm : Num 1048576 r.merge p.merge) : PureCalls prog F.penumbralaw18_WeighDensities [.agg r.c] [.one (.bool true)] := by
  refine symFunc_sound hmix tree_penumbralaw18_WeighDensities (by kernel_rfl) rfl ?_
  unfold ir_penumbralaw18_WeighDensities
  have k := f_Densities h
  have kr := fr_Dens h
  have hS := h.sm
  have a1 := J_len (p := p)
  have a2 := M_len (p := p)
  simp only [RP.c, RP.tl, RE.c, RCam.c] at k kr ⊢
  simp only [JJ]
  refine call_step k rfl ?_
  try simp only [JJ]
  refine call_step kr rfl ?_
  try simp only [JJ]
  refine call_step f_fixed18 rfl ?_
  try simp only [JJ]
  refine itT rfl ?_
  refine call_step (f_Same_t (l := p.J) (fun x hx => (hS.J x hx).mono (by decide)) (by omega)) rfl ?_
  try simp only [JJ]
  refine itT rfl ?_
  refine call_step (f_Same_t (l := p.M) (fun x hx => (hS.M x hx).mono (by decide)) (by omega)) rfl ?_
  try simp only [JJ]
  exact ret_step rfl
end
end Go.Px.Na

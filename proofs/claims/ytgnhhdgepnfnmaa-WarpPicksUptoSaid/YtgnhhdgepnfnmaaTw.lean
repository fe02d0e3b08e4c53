/- Tw: rows of whole numbers, as data that comes in. -/
import Derived.Test.YtgnhhdgepnfnmaaWp
import Derived.Test.YtgnhhdgepnfnmaaTn
set_option maxRecDepth 10000
set_option linter.unusedSimpArgs false
set_option linter.unusedVariables false
namespace Go.Px.Na
open Go.RowKit
open Go.Proofs.Try (prog)
theorem ints_list : ∀ (l : List (List DV)), (∀ x ∈ l, Dint .i64 x ∧ x.length = 1) → ∃ ws : List Int, ws.length = l.length ∧ l.flatten = ws.map (DV.int .i64) ∧ ∀ w ∈ ws, -9223372036854775808 ≤ w ∧ w < 9223372036854775808
  | [], _ => ⟨[], rfl, rfl, fun w hw => by cases hw⟩
  | x :: r, h => by
    obtain ⟨ws, h1, h2, h3⟩ := ints_list r fun y hy => h y (by simp [hy])
    obtain ⟨⟨n, rfl, n0, n1⟩, _⟩ := h x (by simp)
    have e1 : IntKind.i64.min = -9223372036854775808 := by decide
    have e2 : IntKind.i64.max = 9223372036854775807 := by decide
    refine ⟨n :: ws, by simp [h1], by simp [h2], fun w hw => ?_⟩
    rcases List.mem_cons.1 hw with rfl | hw
    · omega
    · exact h3 w hw
theorem ints_of {ds : List DV} (h : Dsl 1 (Dint .i64) ds) : ∃ ws : List Int, ds = [il ws] ∧ ws.length ≤ 1048576 ∧ ∀ w ∈ ws, -9223372036854775808 ≤ w ∧ w < 9223372036854775808 := by
  obtain ⟨l, rfl, hl, hn⟩ := h
  obtain ⟨ws, h1, h2, h3⟩ := ints_list l hl
  refine ⟨ws, ?_, by omega, h3⟩
  unfold il
  rw [h1, h2]
theorem cellsi : prog.cellsOf 3 = 1 := by kernel_rfl
theorem g_ints : Par.good prog ⟨49, false, Dsl 1 (Dint .i64)⟩ :=
  ⟨tok_slice Go.Proofs.Try.underlying49 (tok_int Go.Proofs.Try.underlying3) cellsi (by decide), sp_slice Go.Proofs.Try.underlying49 (sp_int Go.Proofs.Try.underlying3) (by rw [cellsi]; omega), .inr (.inr ⟨_, Go.Proofs.Try.underlying49⟩)⟩
end Go.Px.Na

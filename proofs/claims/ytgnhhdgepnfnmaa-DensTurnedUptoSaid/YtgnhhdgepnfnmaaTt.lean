/- Tt: rows of spots, as data that comes in. -/
import Derived.Test.YtgnhhdgepnfnmaaMi
import Derived.Test.YtgnhhdgepnfnmaaTn
set_option maxRecDepth 10000
set_option linter.unusedSimpArgs false
set_option linter.unusedVariables false
namespace Go.Px.Na
open Go.RowKit
open Go.Proofs.Try (prog)
theorem spots_list : ∀ (l : List (List DV)), (∀ x ∈ l, Dnum 6 x ∧ x.length = 18) → ∃ ss : List SP6, ss.length = l.length ∧ l.flatten = (ss.map spd).flatten ∧ ∀ s ∈ ss, spok s
  | [], _ => ⟨[], rfl, rfl, fun w hw => by cases hw⟩
  | x :: r, h => by
    obtain ⟨ss, h1, h2, h3⟩ := spots_list r fun y hy => h y (by simp [hy])
    obtain ⟨r0, r1, r2, r3, r4, r5, rfl, g0, g1, g2, g3, g4, g5⟩ := num6 (h x (by simp)).1
    refine ⟨(r0, r1, r2, r3, r4, r5) :: ss, by simp [h1], ?_, fun w hw => ?_⟩
    · rw [List.flatten_cons, List.map_cons, List.flatten_cons, h2]
      rfl
    · rcases List.mem_cons.1 hw with rfl | hw
      · exact ⟨g0, g1, g2, g3, g4, g5⟩
      · exact h3 w hw
theorem spots_of {ds : List DV} (h : Dsl 18 (Dnum 6) ds) : ∃ ss : List SP6, ds = [spl ss] ∧ ∀ s ∈ ss, spok s := by
  obtain ⟨l, rfl, hl, hn⟩ := h
  obtain ⟨ss, h1, h2, h3⟩ := spots_list l hl
  refine ⟨ss, ?_, h3⟩
  unfold spl
  rw [h1, h2]
theorem g_spots : Par.good prog ⟨60, false, Dsl 18 (Dnum 6)⟩ :=
  ⟨tok_slice Go.Proofs.Try.underlying60 t_Spot cells59 (by decide), sp_slice Go.Proofs.Try.underlying60 s_Spot (by rw [cells59]; omega), .inr (.inr ⟨_, Go.Proofs.Try.underlying60⟩)⟩
end Go.Px.Na

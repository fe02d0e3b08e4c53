/- Tk: points, trees of points, as data that comes in. -/
import Derived.Test.YtejnnginkadecaaGreatKa
import Derived.Test.YtejnnginkadecaaGreatGb
import Derived.Test.YtejnnginkadecaaGreatTn
set_option maxRecDepth 10000
set_option linter.unusedSimpArgs false
set_option linter.unusedVariables false
namespace Go.Px.Na
open Go.RowKit
open Go.Proofs.Tryz (prog)
theorem pts_list : ∀ (l : List (List DV)), (∀ x ∈ l, Dnum 3 x ∧ x.length = 9) → ∃ rs : List RV, rs.length = l.length ∧ l.flatten = rs.flatMap (fun r => gW r.l) ∧ ∀ r ∈ rs, r.x.ok 1048576 ∧ r.y.ok 1048576 ∧ r.z.ok 1048576
  | [], _ => ⟨[], rfl, rfl, fun r h => by cases h⟩
  | x :: r, h => by
    obtain ⟨rs, h1, h2, h3⟩ := pts_list r fun y hy => h y (by simp [hy])
    obtain ⟨r0, r1, r2, rfl, g0, g1, g2⟩ := num3 (h x (by simp)).1
    refine ⟨⟨r0, r1, r2⟩ :: rs, by simp [h1], by rw [List.flatten_cons, List.flatMap_cons, h2]; rfl, fun r hr => ?_⟩
    rcases List.mem_cons.1 hr with rfl | hr
    · exact ⟨g0, g1, g2⟩
    · exact h3 r hr
theorem pts_of {ds : List DV} (h : Dsl 9 (Dnum 3) ds) : ∃ (rs : List RV) (ps : List V3), ds = [vl rs] ∧ ps.length ≤ 1048576 ∧ NVs 1048576 rs ps := by
  obtain ⟨l, rfl, hl, hn⟩ := h
  obtain ⟨rs, h1, h2, h3⟩ := pts_list l hl
  refine ⟨rs, rs.map fun r => ⟨r.x.v, r.y.v, r.z.v⟩, ?_, by simp; omega, by simp, fun i r p hr hp => ?_⟩
  · unfold vl; rw [h1, h2]
  · rw [List.getElem?_map, hr] at hp
    cases hp
    obtain ⟨a, b, c⟩ := h3 r (List.mem_of_getElem? hr)
    exact ⟨⟨a, rfl, by decide⟩, ⟨b, rfl, by decide⟩, ⟨c, rfl, by decide⟩⟩
theorem cellsi : prog.cellsOf 3 = 1 := by kernel_rfl
theorem t_pts : TOK prog 22 (Dsl 9 (Dnum 3)) := tok_slice Go.Proofs.Tryz.underlying22 t_Vec cells27 (by decide)
theorem s_pts : SP prog 22 := sp_slice Go.Proofs.Tryz.underlying22 s_Vec (by rw [cells27]; omega)
theorem g_pts : Par.good prog ⟨22, false, Dsl 9 (Dnum 3)⟩ := ⟨t_pts, s_pts, .inr (.inr ⟨_, Go.Proofs.Tryz.underlying22⟩)⟩
def Dnode (ds : List DV) : Prop := Parts [Dint .i64, Dint .i64, Dint .i64, Dint .i64] ds
theorem cellsN : prog.cellsOf 63 = 4 := by kernel_rfl
theorem cellsSN : prog.cellsOf 29 = 1 := by kernel_rfl
theorem cellsKd : prog.cellsOf 31 = 1 := by kernel_rfl
theorem t_node : TOK prog 63 Dnode := tok_struct Go.Proofs.Tryz.underlying63 (Ds := [Dint .i64, Dint .i64, Dint .i64, Dint .i64])
  ⟨rfl, tok_int Go.Proofs.Tryz.underlying3, by simp only [cellsi], tok_int Go.Proofs.Tryz.underlying3, by simp only [cellsi], tok_int Go.Proofs.Tryz.underlying3, by simp only [cellsi], tok_int Go.Proofs.Tryz.underlying3, trivial⟩ (by simp only [total, cellsi, cellsN])
theorem s_node : SP prog 63 := sp_struct Go.Proofs.Tryz.underlying63 fun i f h => by
  match i with
  | 0 => simp at h; subst h; exact sp_int Go.Proofs.Tryz.underlying3
  | 1 => simp at h; subst h; exact sp_int Go.Proofs.Tryz.underlying3
  | 2 => simp at h; subst h; exact sp_int Go.Proofs.Tryz.underlying3
  | 3 => simp at h; subst h; exact sp_int Go.Proofs.Tryz.underlying3
  | i + 4 => simp at h
theorem t_nodes : TOK prog 29 (Dsl 4 Dnode) := tok_slice Go.Proofs.Tryz.underlying29 t_node cellsN (by decide)
theorem s_nodes : SP prog 29 := sp_slice Go.Proofs.Tryz.underlying29 s_node (by rw [cellsN]; omega)
def Dkd (ds : List DV) : Prop := Parts [Dsl 4 Dnode] ds
theorem g_kd : Par.good prog ⟨31, true, Dkd⟩ := ⟨tok_struct Go.Proofs.Tryz.underlying31 (Ds := [Dsl 4 Dnode]) ⟨rfl, t_nodes, trivial⟩ (by simp only [total, cellsSN, cellsKd]), sp_struct Go.Proofs.Tryz.underlying31 fun i f h => by
  match i with
  | 0 => simp at h; subst h; exact s_nodes
  | i + 1 => simp at h, .inl ⟨_, Go.Proofs.Tryz.underlying31⟩⟩
theorem vec_of {ds : List DV} (h : Dnum 3 ds) : ∃ (rc : RV) (c : V3), ds = gW rc.l ∧ NV 1048576 rc c := by
  obtain ⟨r0, r1, r2, rfl, g0, g1, g2⟩ := num3 h
  exact ⟨⟨r0, r1, r2⟩, ⟨r0.v, r1.v, r2.v⟩, rfl, ⟨⟨g0, rfl, by decide⟩, ⟨g1, rfl, by decide⟩, ⟨g2, rfl, by decide⟩⟩⟩
end Go.Px.Na

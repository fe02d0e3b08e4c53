/- Tg: points, grids, plays, as data that comes in. -/
import Derived.Test.YtgnhhdgepnfnmaaGb
import Derived.Test.YtgnhhdgepnfnmaaTn
set_option maxRecDepth 10000
set_option linter.unusedSimpArgs false
set_option linter.unusedVariables false
namespace Go.Px.Na
open Go.RowKit
open Go.Proofs.Try (prog)
theorem ints_list : ∀ (l : List (List DV)), (∀ x ∈ l, Dint .i64 x ∧ x.length = 1) → ∃ ws : List Int, ws.length = l.length ∧ l.flatten = ws.map (DV.int .i64)
  | [], _ => ⟨[], rfl, rfl⟩
  | x :: r, h => by
    obtain ⟨ws, h1, h2⟩ := ints_list r fun y hy => h y (by simp [hy])
    obtain ⟨⟨n, rfl, n0, n1⟩, _⟩ := h x (by simp)
    exact ⟨n :: ws, by simp [h1], by simp [h2]⟩
theorem ints_of {ds : List DV} (h : Dsl 1 (Dint .i64) ds) : ∃ ws : List Int, ds = [il ws] ∧ ws.length ≤ 1048576 := by
  obtain ⟨l, rfl, hl, hn⟩ := h
  obtain ⟨ws, h1, h2⟩ := ints_list l hl
  refine ⟨ws, ?_, by omega⟩
  unfold il
  rw [h1, h2]
theorem pts_list : ∀ (l : List (List DV)), (∀ x ∈ l, Dnum 3 x ∧ x.length = 9) → ∃ rs : List RV, rs.length = l.length ∧ l.flatten = rs.flatMap (fun r => gW r.l) ∧ ∀ r ∈ rs, r.x.ok 1048576 ∧ r.y.ok 1048576 ∧ r.z.ok 1048576
  | [], _ => ⟨[], rfl, rfl, fun r h => by cases h⟩
  | x :: r, h => by
    obtain ⟨rs, h1, h2, h3⟩ := pts_list r fun y hy => h y (by simp [hy])
    obtain ⟨r0, r1, r2, rfl, g0, g1, g2⟩ := num3 (h x (by simp)).1
    refine ⟨⟨r0, r1, r2⟩ :: rs, by simp [h1], by rw [List.flatten_cons, List.flatMap_cons, h2]; rfl, fun r hr => ?_⟩
    rcases List.mem_cons.1 hr with rfl | hr
    · exact ⟨g0, g1, g2⟩
    · exact h3 r hr
theorem pts_of {ds : List DV} (h : Dsl 9 (Dnum 3) ds) : ∃ (rs : List RV) (ps : List V3), ds = [vl rs] ∧ ps.length ≤ 1048576 ∧ NVs 1048576 rs ps := by
  obtain ⟨l, rfl, hl, hn⟩ := h
  obtain ⟨rs, h1, h2, h3⟩ := pts_list l hl
  refine ⟨rs, rs.map fun r => ⟨r.x.v, r.y.v, r.z.v⟩, ?_, by simp; omega, by simp, fun i r p hr hp => ?_⟩
  · unfold vl; rw [h1, h2]
  · rw [List.getElem?_map, hr] at hp
    cases hp
    obtain ⟨a, b, c⟩ := h3 r (List.mem_of_getElem? hr)
    exact ⟨⟨a, rfl, by decide⟩, ⟨b, rfl, by decide⟩, ⟨c, rfl, by decide⟩⟩
theorem cellsi : prog.cellsOf 3 = 1 := by kernel_rfl
theorem cellsI : prog.cellsOf 49 = 1 := by kernel_rfl
theorem cellsP : prog.cellsOf 84 = 1 := by kernel_rfl
theorem t_ints : TOK prog 49 (Dsl 1 (Dint .i64)) := tok_slice Go.Proofs.Try.underlying49 (tok_int Go.Proofs.Try.underlying3) cellsi (by decide)
theorem s_ints : SP prog 49 := sp_slice Go.Proofs.Try.underlying49 (sp_int Go.Proofs.Try.underlying3) (by rw [cellsi]; omega)
theorem t_pts : TOK prog 84 (Dsl 9 (Dnum 3)) := tok_slice Go.Proofs.Try.underlying84 t_Vec cells57 (by decide)
theorem s_pts : SP prog 84 := sp_slice Go.Proofs.Try.underlying84 s_Vec (by rw [cells57]; omega)
theorem g_pts : Par.good prog ⟨84, false, Dsl 9 (Dnum 3)⟩ := ⟨t_pts, s_pts, .inr (.inr ⟨_, Go.Proofs.Try.underlying84⟩)⟩
def Dgrid (ds : List DV) : Prop := Parts [Dsl 1 (Dint .i64), Dsl 1 (Dint .i64)] ds
theorem cellsG : prog.cellsOf 83 = 2 := by kernel_rfl
theorem g_grid : Par.good prog ⟨83, true, Dgrid⟩ := ⟨tok_struct Go.Proofs.Try.underlying83 (Ds := [Dsl 1 (Dint .i64), Dsl 1 (Dint .i64)]) ⟨rfl, t_ints, by simp only [cellsI], t_ints, trivial⟩ (by simp only [total, cellsI, cellsG]), sp_struct Go.Proofs.Try.underlying83 fun i f h => by
  match i with
  | 0 => simp at h; subst h; exact s_ints
  | 1 => simp at h; subst h; exact s_ints
  | i + 2 => simp at h, .inl ⟨_, Go.Proofs.Try.underlying83⟩⟩
theorem grid_of {ds : List DV} (h : Dgrid ds) : ∃ a b : List Int, ds = [il a, il b] ∧ a.length ≤ 1048576 ∧ b.length ≤ 1048576 := by
  obtain ⟨_, _, rfl, h1, _, _, rfl, h2, rfl⟩ := h
  obtain ⟨a, rfl, ha⟩ := ints_of h1
  obtain ⟨b, rfl, hb⟩ := ints_of h2
  exact ⟨a, b, rfl, ha, hb⟩
def Dgame (ds : List DV) : Prop := Parts [Dsl 9 (Dnum 3), Dnum 1, Dint .i64, Dint .i64, Dsl 1 (Dint .i64)] ds
theorem cellsQ : prog.cellsOf 86 = 7 := by kernel_rfl
theorem g_game : Par.good prog ⟨86, true, Dgame⟩ := ⟨tok_struct Go.Proofs.Try.underlying86 (Ds := [Dsl 9 (Dnum 3), Dnum 1, Dint .i64, Dint .i64, Dsl 1 (Dint .i64)])
  ⟨rfl, t_pts, by simp only [cellsP, cells24, cellsi, cellsI], t_rat1, by simp only [cellsP, cells24, cellsi, cellsI], tok_int Go.Proofs.Try.underlying3, by simp only [cellsP, cells24, cellsi, cellsI], tok_int Go.Proofs.Try.underlying3, by simp only [cellsP, cells24, cellsi, cellsI], t_ints, trivial⟩
  (by simp only [total, cellsP, cells24, cellsi, cellsI, cellsQ]), sp_struct Go.Proofs.Try.underlying86 fun i f h => by
  match i with
  | 0 => simp at h; subst h; exact s_pts
  | 1 => simp at h; subst h; exact s_rat
  | 2 => simp at h; subst h; exact sp_int Go.Proofs.Try.underlying3
  | 3 => simp at h; subst h; exact sp_int Go.Proofs.Try.underlying3
  | 4 => simp at h; subst h; exact s_ints
  | i + 5 => simp at h, .inl ⟨_, Go.Proofs.Try.underlying86⟩⟩
theorem game_of {ds : List DV} (h : Dgame ds) : ∃ (rs : List RV) (ps : List V3) (r : RR) (s : Rat) (n W : Int) (picks : List Int), ds = [vl rs, .bool r.neg, nl r.num, nl r.den, .int .i64 n, .int .i64 W, il picks] ∧ NVs 1048576 rs ps ∧ Num 1048576 r s ∧ ps.length ≤ 1048576 ∧ picks.length ≤ 1048576 := by
  obtain ⟨_, _, rfl, h1, _, _, rfl, h2, _, _, rfl, h3, _, _, rfl, h4, _, _, rfl, h5, rfl⟩ := h
  obtain ⟨rs, ps, rfl, hN, hp⟩ := pts_of h1
  obtain ⟨r, rfl, hr⟩ := num1 h2
  obtain ⟨n, rfl, _⟩ := h3
  obtain ⟨W, rfl, _⟩ := h4
  obtain ⟨picks, rfl, hpk⟩ := ints_of h5
  exact ⟨rs, ps, r, r.v, n, W, picks, rfl, hp, ⟨hr, rfl, by decide⟩, hN, hpk⟩
end Go.Px.Na

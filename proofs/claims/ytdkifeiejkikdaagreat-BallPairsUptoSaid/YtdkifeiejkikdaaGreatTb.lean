/- Tb: points, balls, as data that comes in. -/
import Derived.Test.YtdkifeiejkikdaaGreatGb
import Derived.Test.YtdkifeiejkikdaaGreatTn
set_option maxRecDepth 10000
set_option linter.unusedSimpArgs false
set_option linter.unusedVariables false
namespace Go.Px.Na
open Go.RowKit
open Go.Proofs.Tryz (prog)
theorem ints_list : ∀ (l : List (List DV)), (∀ x ∈ l, Dint .i64 x ∧ x.length = 1) → ∃ ws : List Int, ws.length = l.length ∧ l.flatten = ws.map (DV.int .i64)
  | [], _ => ⟨[], rfl, rfl⟩
  | x :: r, h => by
    obtain ⟨ws, h1, h2⟩ := ints_list r fun y hy => h y (by simp [hy])
    obtain ⟨⟨n, rfl, n0, n1⟩, _⟩ := h x (by simp)
    exact ⟨n :: ws, by simp [h1], by simp [h2]⟩
theorem ints_of {ds : List DV} (h : Dsl 1 (Dint .i64) ds) : ∃ ws : List Int, ds = [il ws] ∧ ws.length ≤ 1048576 := by
  obtain ⟨l, rfl, hl, hn⟩ := h
  obtain ⟨ws, h1, h2⟩ := ints_list l hl
  refine ⟨ws, ?_, by omega⟩
  unfold il
  rw [h1, h2]
theorem pts_list : ∀ (l : List (List DV)), (∀ x ∈ l, Dnum 3 x ∧ x.length = 9) → ∃ rs : List RV, rs.length = l.length ∧ l.flatten = rs.flatMap (fun r => gW r.l) ∧ ∀ r ∈ rs, r.x.ok 1048576 ∧ r.y.ok 1048576 ∧ r.z.ok 1048576
  | [], _ => ⟨[], rfl, rfl, fun r h => by cases h⟩
  | x :: r, h => by
    obtain ⟨rs, h1, h2, h3⟩ := pts_list r fun y hy => h y (by simp [hy])
    obtain ⟨r0, r1, r2, rfl, g0, g1, g2⟩ := num3 (h x (by simp)).1
    refine ⟨⟨r0, r1, r2⟩ :: rs, by simp [h1], by rw [List.flatten_cons, List.flatMap_cons, h2]; rfl, fun r hr => ?_⟩
    rcases List.mem_cons.1 hr with rfl | hr
    · exact ⟨g0, g1, g2⟩
    · exact h3 r hr
theorem pts_of {ds : List DV} (h : Dsl 9 (Dnum 3) ds) : ∃ (rs : List RV) (ps : List V3), ds = [vl rs] ∧ ps.length ≤ 1048576 ∧ NVs 1048576 rs ps := by
  obtain ⟨l, rfl, hl, hn⟩ := h
  obtain ⟨rs, h1, h2, h3⟩ := pts_list l hl
  refine ⟨rs, rs.map fun r => ⟨r.x.v, r.y.v, r.z.v⟩, ?_, by simp; omega, by simp, fun i r p hr hp => ?_⟩
  · unfold vl; rw [h1, h2]
  · rw [List.getElem?_map, hr] at hp
    cases hp
    obtain ⟨a, b, c⟩ := h3 r (List.mem_of_getElem? hr)
    exact ⟨⟨a, rfl, by decide⟩, ⟨b, rfl, by decide⟩, ⟨c, rfl, by decide⟩⟩
theorem cellsi : prog.cellsOf 3 = 1 := by kernel_rfl
theorem cellsI : prog.cellsOf 30 = 1 := by kernel_rfl
theorem cellsP : prog.cellsOf 22 = 1 := by kernel_rfl
theorem t_ints : TOK prog 30 (Dsl 1 (Dint .i64)) := tok_slice Go.Proofs.Tryz.underlying30 (tok_int Go.Proofs.Tryz.underlying3) cellsi (by decide)
theorem s_ints : SP prog 30 := sp_slice Go.Proofs.Tryz.underlying30 (sp_int Go.Proofs.Tryz.underlying3) (by rw [cellsi]; omega)
theorem t_pts : TOK prog 22 (Dsl 9 (Dnum 3)) := tok_slice Go.Proofs.Tryz.underlying22 t_Vec cells27 (by decide)
theorem s_pts : SP prog 22 := sp_slice Go.Proofs.Tryz.underlying22 s_Vec (by rw [cells27]; omega)
theorem g_pts : Par.good prog ⟨22, false, Dsl 9 (Dnum 3)⟩ := ⟨t_pts, s_pts, .inr (.inr ⟨_, Go.Proofs.Tryz.underlying22⟩)⟩

def Dball (ds : List DV) : Prop := Parts [Dsl 9 (Dnum 3), Dnum 1, Dint .i64, Dnum 3, Dnum 1] ds
theorem cellsB : prog.cellsOf 29 = 17 := by kernel_rfl
theorem g_ball : Par.good prog ⟨29, true, Dball⟩ := ⟨tok_struct Go.Proofs.Tryz.underlying29 (Ds := [Dsl 9 (Dnum 3), Dnum 1, Dint .i64, Dnum 3, Dnum 1])
  ⟨rfl, t_pts, by simp only [cellsP, cells25, cellsi, cells27], t_rat1, by simp only [cellsP, cells25, cellsi, cells27], tok_int Go.Proofs.Tryz.underlying3, by simp only [cellsP, cells25, cellsi, cells27], t_Vec, by simp only [cellsP, cells25, cellsi, cells27], t_rat1, trivial⟩
  (by simp only [total, cellsP, cells25, cellsi, cells27, cellsB]), sp_struct Go.Proofs.Tryz.underlying29 fun i f h => by
  match i with
  | 0 => simp at h; subst h; exact s_pts
  | 1 => simp at h; subst h; exact s_rat
  | 2 => simp at h; subst h; exact sp_int Go.Proofs.Tryz.underlying3
  | 3 => simp at h; subst h; exact s_Vec
  | 4 => simp at h; subst h; exact s_rat
  | i + 5 => simp at h, .inl ⟨_, Go.Proofs.Tryz.underlying29⟩⟩
theorem ball_of {ds : List DV} (h : Dball ds) : ∃ (rs : List RV) (ps : List V3) (rsd rr2 : RR) (s r2 : Rat) (n : Int) (rp : RV) (p : V3), ds = [vl rs, .bool rsd.neg, nl rsd.num, nl rsd.den, .int .i64 n, .bool rp.x.neg, nl rp.x.num, nl rp.x.den, .bool rp.y.neg, nl rp.y.num, nl rp.y.den, .bool rp.z.neg, nl rp.z.num, nl rp.z.den, .bool rr2.neg, nl rr2.num, nl rr2.den] ∧
    NVs 1048576 rs ps ∧ Num 1048576 rsd s ∧ Num 1048576 rr2 r2 ∧ NV 1048576 rp p ∧ ps.length ≤ 1048576 := by
  obtain ⟨_, _, rfl, h1, _, _, rfl, h2, _, _, rfl, h3, _, _, rfl, h4, _, _, rfl, h5, rfl⟩ := h
  obtain ⟨rs, ps, rfl, hN, hp⟩ := pts_of h1
  obtain ⟨r, rfl, hr⟩ := num1 h2
  obtain ⟨n, rfl, _⟩ := h3
  obtain ⟨r0, r1, r2, rfl, g0, g1, g2⟩ := num3 h4
  obtain ⟨q, rfl, hq⟩ := num1 h5
  exact ⟨rs, ps, r, q, r.v, q.v, n, ⟨r0, r1, r2⟩, ⟨r0.v, r1.v, r2.v⟩, rfl, hp, ⟨hr, rfl, by decide⟩, ⟨hq, rfl, by decide⟩, ⟨⟨g0, rfl, by decide⟩, ⟨g1, rfl, by decide⟩, ⟨g2, rfl, by decide⟩⟩, hN⟩
end Go.Px.Na

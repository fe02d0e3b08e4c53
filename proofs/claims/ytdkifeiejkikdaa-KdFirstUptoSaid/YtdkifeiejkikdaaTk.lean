/- Tk: points, trees of points, as data that comes in. -/
import Derived.Test.YtdkifeiejkikdaaKa
import Derived.Test.YtdkifeiejkikdaaGb
import Derived.Test.YtdkifeiejkikdaaTn
set_option maxRecDepth 10000
set_option linter.unusedSimpArgs false
set_option linter.unusedVariables false
namespace Go.Px.Na
open Go.RowKit
open Go.Proofs.Try (prog)
theorem pts_list : ∀ (l : List (List DV)), (∀ x ∈ l, Dnum 3 x ∧ x.length = 9) → ∃ rs : List RV, rs.length = l.length ∧ l.flatten = rs.flatMap (fun r => gW r.l) ∧ ∀ r ∈ rs, r.x.ok 1048576 ∧ r.y.ok 1048576 ∧ r.z.ok 1048576
  | [], _ => ⟨[], rfl, rfl, fun r h => by cases h⟩
  | x :: r, h => by
    obtain ⟨rs, h1, h2, h3⟩ := pts_list r fun y hy => h y (by simp [hy])
    obtain ⟨r0, r1, r2, rfl, g0, g1, g2⟩ := num3 (h x (by simp)).1
    refine ⟨⟨r0, r1, r2⟩ :: rs, by simp [h1], by rw [List.flatten_cons, List.flatMap_cons, h2]; rfl, fun r hr => ?_⟩
    rcases List.mem_cons.1 hr with rfl | hr
    · exact ⟨g0, g1, g2⟩
    · exact h3 r hr
theorem pts_of {ds : List DV} (h : Dsl 9 (Dnum 3) ds) : ∃ (rs : List RV) (ps : List V3), ds = [vl rs] ∧ ps.length ≤ 1048576 ∧ NVs 1048576 rs ps := by
  obtain ⟨l, rfl, hl, hn⟩ := h
  obtain ⟨rs, h1, h2, h3⟩ := pts_list l hl
  refine ⟨rs, rs.map fun r => ⟨r.x.v, r.y.v, r.z.v⟩, ?_, by simp; omega, by simp, fun i r p hr hp => ?_⟩
  · unfold vl; rw [h1, h2]
  · rw [List.getElem?_map, hr] at hp
    cases hp
    obtain ⟨a, b, c⟩ := h3 r (List.mem_of_getElem? hr)
    exact ⟨⟨a, rfl, by decide⟩, ⟨b, rfl, by decide⟩, ⟨c, rfl, by decide⟩⟩
theorem cellsi : prog.cellsOf 3 = 1 := by kernel_rfl
theorem cellsP : prog.cellsOf 22 = 1 := by kernel_rfl
theorem t_pts : TOK prog 22 (Dsl 9 (Dnum 3)) := tok_slice Go.Proofs.Try.underlying22 t_Vec cells27 (by decide)
theorem s_pts : SP prog 22 := sp_slice Go.Proofs.Try.underlying22 s_Vec (by rw [cells27]; omega)
theorem g_pts : Par.good prog ⟨22, false, Dsl 9 (Dnum 3)⟩ := ⟨t_pts, s_pts, .inr (.inr ⟨_, Go.Proofs.Try.underlying22⟩)⟩
def Dnode (ds : List DV) : Prop := Parts [Dint .i64, Dint .i64, Dint .i64, Dint .i64] ds
theorem cellsN : prog.cellsOf 92 = 4 := by kernel_rfl
theorem cellsSN : prog.cellsOf 47 = 1 := by kernel_rfl
theorem cellsKd : prog.cellsOf 49 = 1 := by kernel_rfl
theorem t_node : TOK prog 92 Dnode := tok_struct Go.Proofs.Try.underlying92 (Ds := [Dint .i64, Dint .i64, Dint .i64, Dint .i64])
  ⟨rfl, tok_int Go.Proofs.Try.underlying3, by simp only [cellsi], tok_int Go.Proofs.Try.underlying3, by simp only [cellsi], tok_int Go.Proofs.Try.underlying3, by simp only [cellsi], tok_int Go.Proofs.Try.underlying3, trivial⟩ (by simp only [total, cellsi, cellsN])
theorem s_node : SP prog 92 := sp_struct Go.Proofs.Try.underlying92 fun i f h => by
  match i with
  | 0 => simp at h; subst h; exact sp_int Go.Proofs.Try.underlying3
  | 1 => simp at h; subst h; exact sp_int Go.Proofs.Try.underlying3
  | 2 => simp at h; subst h; exact sp_int Go.Proofs.Try.underlying3
  | 3 => simp at h; subst h; exact sp_int Go.Proofs.Try.underlying3
  | i + 4 => simp at h
theorem node_of {ds : List DV} (h : Dnode ds) : ∃ n : KN, ds = n.l := by
  obtain ⟨_, _, rfl, h1, _, _, rfl, h2, _, _, rfl, h3, _, _, rfl, h4, rfl⟩ := h
  obtain ⟨a, rfl, _⟩ := h1
  obtain ⟨b, rfl, _⟩ := h2
  obtain ⟨c, rfl, _⟩ := h3
  obtain ⟨d, rfl, _⟩ := h4
  exact ⟨⟨a, b, c, d⟩, rfl⟩
theorem t_nodes : TOK prog 47 (Dsl 4 Dnode) := tok_slice Go.Proofs.Try.underlying47 t_node cellsN (by decide)
theorem s_nodes : SP prog 47 := sp_slice Go.Proofs.Try.underlying47 s_node (by rw [cellsN]; omega)
theorem nodes_list : ∀ (l : List (List DV)), (∀ x ∈ l, Dnode x ∧ x.length = 4) → ∃ ns : List KN, ns.length = l.length ∧ l.flatten = ns.flatMap KN.l
  | [], _ => ⟨[], rfl, rfl⟩
  | x :: r, h => by
    obtain ⟨ns, h1, h2⟩ := nodes_list r fun y hy => h y (by simp [hy])
    obtain ⟨n, rfl⟩ := node_of (h x (by simp)).1
    exact ⟨n :: ns, by simp [h1], by simp [h2]⟩
def Dkd (ds : List DV) : Prop := Parts [Dsl 4 Dnode] ds
theorem g_kd : Par.good prog ⟨49, true, Dkd⟩ := ⟨tok_struct Go.Proofs.Try.underlying49 (Ds := [Dsl 4 Dnode]) ⟨rfl, t_nodes, trivial⟩ (by simp only [total, cellsSN, cellsKd]), sp_struct Go.Proofs.Try.underlying49 fun i f h => by
  match i with
  | 0 => simp at h; subst h; exact s_nodes
  | i + 1 => simp at h, .inl ⟨_, Go.Proofs.Try.underlying49⟩⟩
theorem kd_of {ds : List DV} (h : Dkd ds) : ∃ ns : List KN, ds = [kl ns] := by
  obtain ⟨_, _, rfl, h1, rfl⟩ := h
  obtain ⟨l, rfl, hl, hn⟩ := h1
  obtain ⟨ns, h1, h2⟩ := nodes_list l hl
  refine ⟨ns, ?_⟩
  unfold kl
  rw [h1, h2]; rfl
theorem cellsSk : prog.cellsOf 57 = 11 := by kernel_rfl
def Dseek (ds : List DV) : Prop := Parts [Dsl 9 (Dnum 3), Dnum 3, Dint .i64] ds
theorem g_seek : Par.good prog ⟨57, true, Dseek⟩ := ⟨tok_struct Go.Proofs.Try.underlying57 (Ds := [Dsl 9 (Dnum 3), Dnum 3, Dint .i64])
  ⟨rfl, t_pts, by simp only [cellsP], t_Vec, by simp only [cellsP, cells27], tok_int Go.Proofs.Try.underlying3, trivial⟩
  (by simp only [total, cellsP, cells27, cellsi, cellsSk]), sp_struct Go.Proofs.Try.underlying57 fun i f h => by
  match i with
  | 0 => simp at h; subst h; exact s_pts
  | 1 => simp at h; subst h; exact s_Vec
  | 2 => simp at h; subst h; exact sp_int Go.Proofs.Try.underlying3
  | i + 3 => simp at h, .inl ⟨_, Go.Proofs.Try.underlying57⟩⟩
theorem seek_of {ds : List DV} (h : Dseek ds) : ∃ (rs : List RV) (ps : List V3) (rc : RV) (c : V3) (k : Int), ds = [vl rs, .bool rc.x.neg, nl rc.x.num, nl rc.x.den, .bool rc.y.neg, nl rc.y.num, nl rc.y.den, .bool rc.z.neg, nl rc.z.num, nl rc.z.den, .int .i64 k] ∧
    NVs 1048576 rs ps ∧ NV 1048576 rc c := by
  obtain ⟨_, _, rfl, h1, _, _, rfl, h2, _, _, rfl, h3, rfl⟩ := h
  obtain ⟨rs, ps, rfl, hN, hp⟩ := pts_of h1
  obtain ⟨r0, r1, r2, rfl, g0, g1, g2⟩ := num3 h2
  obtain ⟨n, rfl, _⟩ := h3
  exact ⟨rs, ps, ⟨r0, r1, r2⟩, ⟨r0.v, r1.v, r2.v⟩, n, rfl, hp, ⟨⟨g0, rfl, by decide⟩, ⟨g1, rfl, by decide⟩, ⟨g2, rfl, by decide⟩⟩⟩
def fsA : List Field := [{ (default : Field) with type := 3, offset := 0 }, { (default : Field) with type := 3, offset := 1 }]
theorem cellsA : prog.cellsOf 44 = 2 := by kernel_rfl
def Darr (ds : List DV) : Prop := Parts [Dint .i64, Dint .i64] ds
theorem g_arr : Par.good prog ⟨44, true, Darr⟩ := ⟨tok_array (fs := fsA) Go.Proofs.Try.underlying44 (Ds := [Dint .i64, Dint .i64]) rfl
  (fun i f h => by
    match i with
    | 0 => simp [fsA] at h; subst h; exact ⟨rfl, by simp only [cellsi]⟩
    | 1 => simp [fsA] at h; subst h; exact ⟨rfl, by simp only [cellsi]⟩
    | i + 2 => simp [fsA] at h)
  ⟨rfl, tok_int Go.Proofs.Try.underlying3, by simp only [cellsi], tok_int Go.Proofs.Try.underlying3, trivial⟩
  (by simp only [fsA, total, cellsi, cellsA]), sp_array Go.Proofs.Try.underlying44 (sp_int Go.Proofs.Try.underlying3), .inr ⟨_, _, Go.Proofs.Try.underlying44⟩⟩
theorem arr_of {ds : List DV} (h : Darr ds) : ∃ a b : Int, ds = [.int .i64 a, .int .i64 b] := by
  obtain ⟨_, _, rfl, h1, _, _, rfl, h2, rfl⟩ := h
  obtain ⟨a, rfl, _⟩ := h1
  obtain ⟨b, rfl, _⟩ := h2
  exact ⟨a, b, rfl⟩
theorem vec_of {ds : List DV} (h : Dnum 3 ds) : ∃ (rc : RV) (c : V3), ds = gW rc.l ∧ NV 1048576 rc c := by
  obtain ⟨r0, r1, r2, rfl, g0, g1, g2⟩ := num3 h
  exact ⟨⟨r0, r1, r2⟩, ⟨r0.v, r1.v, r2.v⟩, rfl, ⟨⟨g0, rfl, by decide⟩, ⟨g1, rfl, by decide⟩, ⟨g2, rfl, by decide⟩⟩⟩
end Go.Px.Na

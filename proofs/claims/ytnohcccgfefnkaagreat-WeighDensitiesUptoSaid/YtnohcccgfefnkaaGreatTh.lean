/- Th: paths, as data that comes in. -/
import Derived.Test.YtnohcccgfefnkaaGreatFw
import Derived.Test.YtnohcccgfefnkaaGreatTn
set_option maxRecDepth 10000
set_option linter.unusedSimpArgs false
set_option linter.unusedVariables false
namespace Go.Px.Na
open Go.RowKit
open Go.Proofs.Tryz (prog)
def Dedge (ds : List DV) : Prop := Parts [Dnum 12, Dint .i64, Dnum 1] ds
def Dcam (ds : List DV) : Prop := Parts [Dnum 3, Dnum 3, Dint .i64, Dint .i64, Dnum 1] ds
def Dpath (ds : List DV) : Prop := Parts [Dnum 1, Dsl 18 (Dnum 6), Dsl 40 Dedge, Dedge, Dcam, Dnum 1] ds
theorem vec_ok {r0 r1 r2 : RR} (g0 : r0.ok 1048576) (g1 : r1.ok 1048576) (g2 : r2.ok 1048576) : NV 1048576 ⟨r0, r1, r2⟩ ⟨r0.v, r1.v, r2.v⟩ := ⟨⟨g0, rfl, by decide⟩, ⟨g1, rfl, by decide⟩, ⟨g2, rfl, by decide⟩⟩
theorem edge_of {ds : List DV} (h : Dedge ds) : ∃ (e : RE) (b : Ed), ds = e.c ∧ NE 1048576 e b := by
  obtain ⟨_, _, rfl, h1, _, _, rfl, h2, _, _, rfl, h3, rfl⟩ := h
  obtain ⟨a0, a1, a2, a3, a4, a5, a6, a7, a8, a9, a10, a11, rfl, g0, g1, g2, g3, g4, g5, g6, g7, g8, g9, g10, g11⟩ := num12 h1
  obtain ⟨n, rfl, _⟩ := h2
  obtain ⟨r, rfl, hr⟩ := num1 h3
  exact ⟨⟨⟨⟨a0, a1, a2⟩, ⟨a3, a4, a5⟩, ⟨a6, a7, a8⟩, ⟨a9, a10, a11⟩⟩, n, r⟩, ⟨⟨⟨a0.v, a1.v, a2.v⟩, ⟨a3.v, a4.v, a5.v⟩, ⟨a6.v, a7.v, a8.v⟩, ⟨a9.v, a10.v, a11.v⟩⟩, n⟩, rfl, ⟨⟨vec_ok g0 g1 g2, vec_ok g3 g4 g5, vec_ok g6 g7 g8, vec_ok g9 g10 g11⟩, rfl⟩⟩
theorem spot_of {ds : List DV} (h : Dnum 6 ds) : ∃ (e : RS) (b : Sp), ds = gW e.l ∧ NS 1048576 e b := by
  obtain ⟨a0, a1, a2, a3, a4, a5, rfl, g0, g1, g2, g3, g4, g5⟩ := num6 h
  exact ⟨⟨⟨a0, a1, a2⟩, ⟨a3, a4, a5⟩⟩, ⟨⟨a0.v, a1.v, a2.v⟩, ⟨a3.v, a4.v, a5.v⟩⟩, rfl, ⟨vec_ok g0 g1 g2, vec_ok g3 g4 g5⟩⟩
theorem rows_of {α β : Type} {D : List DV → Prop} {f : α → List DV} {R : α → β → Prop} (hD : ∀ ds, D ds → ∃ a b, ds = f a ∧ R a b) {k : Nat} : ∀ (l : List (List DV)), (∀ x ∈ l, D x ∧ x.length = k) →
    ∃ (us : List α) (bs : List β), us.length = l.length ∧ us.length = bs.length ∧ l.flatten = us.flatMap f ∧ ∀ (i : Nat) (a : α) (b : β), us[i]? = some a → bs[i]? = some b → R a b
  | [], _ => ⟨[], [], rfl, rfl, rfl, fun i a b h => by cases h⟩
  | x :: r, h => by
    obtain ⟨us, bs, h1, h2, h3, h4⟩ := rows_of hD r fun y hy => h y (by simp [hy])
    obtain ⟨a, b, rfl, hab⟩ := hD x (h x (by simp)).1
    refine ⟨a :: us, b :: bs, by simp [h1], by simp [h2], by rw [List.flatten_cons, List.flatMap_cons, h3], fun i a' b' ha hb => ?_⟩
    cases i with
    | zero => cases ha; cases hb; exact hab
    | succ i => exact h4 i a' b' (by simpa using ha) (by simpa using hb)
theorem path_of {ds : List DV} (h : Dpath ds) : ∃ (r : RP) (p : Pa), ds = r.c ∧ NP 1048576 r p ∧ Num 1048576 r.merge p.merge := by
  obtain ⟨_, _, rfl, h1, _, _, rfl, h2, _, _, rfl, h3, _, _, rfl, h4, _, _, rfl, h5, _, _, rfl, h6, rfl⟩ := h
  obtain ⟨s, rfl, hs⟩ := num1 h1
  obtain ⟨l, rfl, hl, hn⟩ := h2
  obtain ⟨sa, sb, a1, a2, a3, a4⟩ := rows_of (fun ds h => spot_of h) l hl
  obtain ⟨l', rfl, hl', hn'⟩ := h3
  obtain ⟨ea, eb, b1, b2, b3, b4⟩ := rows_of (fun ds h => edge_of h) l' hl'
  obtain ⟨e, b, rfl, hE⟩ := edge_of h4
  obtain ⟨_, _, rfl, c1, _, _, rfl, c2, _, _, rfl, c3, _, _, rfl, c4, _, _, rfl, c5, rfl⟩ := h5
  obtain ⟨x0, x1, x2, rfl, e0, e1, e2⟩ := num3 c1
  obtain ⟨y0, y1, y2, rfl, f0, f1, f2⟩ := num3 c2
  obtain ⟨w, rfl, _⟩ := c3
  obtain ⟨hh, rfl, _⟩ := c4
  obtain ⟨hf, rfl, hhf⟩ := num1 c5
  obtain ⟨m, rfl, hm⟩ := num1 h6
  have nm : Num 1048576 m m.v := ⟨hm, rfl, by decide⟩
  refine ⟨⟨s, sa, ea, e, ⟨⟨x0, x1, x2⟩, ⟨y0, y1, y2⟩, w, hh, hf⟩, m⟩, ⟨s.v, sb, eb, b, ⟨⟨x0.v, x1.v, x2.v⟩, ⟨y0.v, y1.v, y2.v⟩, w, hh, hf.v⟩, m.v⟩, ?_, ⟨⟨hs, rfl, by decide⟩, a2, a4, b2, b4, hE, ⟨vec_ok e0 e1 e2, vec_ok f0 f1 f2, rfl, rfl, ⟨hhf, rfl, by decide⟩⟩, nm.mono (by decide)⟩, nm⟩
  rw [a3, b3, ← a1, ← b1]
  rfl
theorem cellsi : prog.cellsOf 3 = 1 := by kernel_rfl
theorem cellsSS : prog.cellsOf 25 = 1 := by kernel_rfl
theorem cellsSE : prog.cellsOf 26 = 1 := by kernel_rfl
theorem cellsE : prog.cellsOf 32 = 40 := by kernel_rfl
theorem cellsC : prog.cellsOf 34 = 23 := by kernel_rfl
theorem cellsP : prog.cellsOf 36 = 71 := by kernel_rfl
theorem t_Edge : TOK prog 32 Dedge := tok_struct Go.Proofs.Tryz.underlying32 (Ds := [Dnum 12, Dint .i64, Dnum 1])
  ⟨rfl, t_Map, by simp only [cells30], tok_int Go.Proofs.Tryz.underlying3, by simp only [cells30, cellsi], t_rat1, trivial⟩ (by simp only [total, cells30, cellsi, cells24, cellsE])
theorem s_Edge : SP prog 32 := sp_struct Go.Proofs.Tryz.underlying32 fun i f h => by
  match i with
  | 0 => simp at h; subst h; exact s_Map
  | 1 => simp at h; subst h; exact sp_int Go.Proofs.Tryz.underlying3
  | 2 => simp at h; subst h; exact s_rat
  | i + 3 => simp at h
theorem t_Camera : TOK prog 34 Dcam := tok_struct Go.Proofs.Tryz.underlying34 (Ds := [Dnum 3, Dnum 3, Dint .i64, Dint .i64, Dnum 1])
  ⟨rfl, t_Vec, by simp only [cells28], t_Vec, by simp only [cells28], tok_int Go.Proofs.Tryz.underlying3, by simp only [cells28, cellsi], tok_int Go.Proofs.Tryz.underlying3, by simp only [cells28, cellsi], t_rat1, trivial⟩ (by simp only [total, cells28, cellsi, cells24, cellsC])
theorem s_Camera : SP prog 34 := sp_struct Go.Proofs.Tryz.underlying34 fun i f h => by
  match i with
  | 0 => simp at h; subst h; exact s_Vec
  | 1 => simp at h; subst h; exact s_Vec
  | 2 => simp at h; subst h; exact sp_int Go.Proofs.Tryz.underlying3
  | 3 => simp at h; subst h; exact sp_int Go.Proofs.Tryz.underlying3
  | 4 => simp at h; subst h; exact s_rat
  | i + 5 => simp at h
theorem t_spots : TOK prog 25 (Dsl 18 (Dnum 6)) := tok_slice Go.Proofs.Tryz.underlying25 t_Spot cells56 (by decide)
theorem s_spots : SP prog 25 := sp_slice Go.Proofs.Tryz.underlying25 s_Spot (by rw [cells56]; omega)
theorem t_edges : TOK prog 26 (Dsl 40 Dedge) := tok_slice Go.Proofs.Tryz.underlying26 t_Edge cellsE (by decide)
theorem s_edges : SP prog 26 := sp_slice Go.Proofs.Tryz.underlying26 s_Edge (by rw [cellsE]; omega)
theorem g_path : Par.good prog ⟨36, true, Dpath⟩ := ⟨tok_struct Go.Proofs.Tryz.underlying36 (Ds := [Dnum 1, Dsl 18 (Dnum 6), Dsl 40 Dedge, Dedge, Dcam, Dnum 1])
  ⟨rfl, t_rat1, by simp only [cells24], t_spots, by simp only [cells24, cellsSS], t_edges, by simp only [cells24, cellsSS, cellsSE], t_Edge, by simp only [cells24, cellsSS, cellsSE, cellsE], t_Camera, by simp only [cells24, cellsSS, cellsSE, cellsE, cellsC], t_rat1, trivial⟩
  (by simp only [total, cells24, cellsSS, cellsSE, cellsE, cellsC, cellsP]), sp_struct Go.Proofs.Tryz.underlying36 fun i f h => by
  match i with
  | 0 => simp at h; subst h; exact s_rat
  | 1 => simp at h; subst h; exact s_spots
  | 2 => simp at h; subst h; exact s_edges
  | 3 => simp at h; subst h; exact s_Edge
  | 4 => simp at h; subst h; exact s_Camera
  | 5 => simp at h; subst h; exact s_rat
  | i + 6 => simp at h, .inl ⟨_, Go.Proofs.Tryz.underlying36⟩⟩
end Go.Px.Na

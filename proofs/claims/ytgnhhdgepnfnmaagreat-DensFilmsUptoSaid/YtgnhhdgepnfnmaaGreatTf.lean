/- Tf: cameras as data that comes in. -/
import Derived.Test.YtgnhhdgepnfnmaaGreatFf
import Derived.Test.YtgnhhdgepnfnmaaGreatTn
set_option maxRecDepth 10000
set_option linter.unusedSimpArgs false
set_option linter.unusedVariables false
namespace Go.Px.Na
open Go.RowKit
open Go.Proofs.Tryz (prog)
def Dcam (ds : List DV) : Prop := Parts [Dnum 3, Dnum 3, Dint .i64, Dint .i64, Dnum 1] ds
theorem cellsi : prog.cellsOf 3 = 1 := by kernel_rfl
theorem cellsC : prog.cellsOf 28 = 23 := by kernel_rfl
theorem g_cam : Par.good prog ⟨28, true, Dcam⟩ := ⟨tok_struct Go.Proofs.Tryz.underlying28 (Ds := [Dnum 3, Dnum 3, Dint .i64, Dint .i64, Dnum 1])
  ⟨rfl, t_Vec, by simp only [cells26], t_Vec, by simp only [cells26], tok_int Go.Proofs.Tryz.underlying3, by simp only [cells26, cellsi], tok_int Go.Proofs.Tryz.underlying3, by simp only [cells26, cellsi], t_rat1, trivial⟩ (by simp only [total, cells26, cellsi, cells24, cellsC]), sp_struct Go.Proofs.Tryz.underlying28 fun i f h => by
  match i with
  | 0 => simp at h; subst h; exact s_Vec
  | 1 => simp at h; subst h; exact s_Vec
  | 2 => simp at h; subst h; exact sp_int Go.Proofs.Tryz.underlying3
  | 3 => simp at h; subst h; exact sp_int Go.Proofs.Tryz.underlying3
  | 4 => simp at h; subst h; exact s_rat
  | i + 5 => simp at h, .inl ⟨_, Go.Proofs.Tryz.underlying28⟩⟩
theorem nv_of {r0 r1 r2 : RR} (g0 : r0.ok 1048576) (g1 : r1.ok 1048576) (g2 : r2.ok 1048576) : NV 1048576 ⟨r0, r1, r2⟩ ⟨r0.v, r1.v, r2.v⟩ := ⟨⟨g0, rfl, by decide⟩, ⟨g1, rfl, by decide⟩, ⟨g2, rfl, by decide⟩⟩
theorem cam_of {ds : List DV} (h : Dcam ds) : ∃ (rc : RCam) (c : Cam), ds = rc.c ∧ NCam 1048576 rc c := by
  obtain ⟨_, _, rfl, h1, _, _, rfl, h2, _, _, rfl, ⟨n, rfl, _⟩, _, _, rfl, ⟨k, rfl, _⟩, _, _, rfl, h5, rfl⟩ := h
  obtain ⟨r0, r1, r2, rfl, g0, g1, g2⟩ := num3 h1
  obtain ⟨r3, r4, r5, rfl, g3, g4, g5⟩ := num3 h2
  obtain ⟨r, rfl, hr⟩ := num1 h5
  exact ⟨⟨⟨r0, r1, r2⟩, ⟨r3, r4, r5⟩, n, k, r⟩, ⟨⟨r0.v, r1.v, r2.v⟩, ⟨r3.v, r4.v, r5.v⟩, n, k, r.v⟩, rfl, nv_of g0 g1 g2, nv_of g3 g4 g5, rfl, rfl, ⟨hr, rfl, by decide⟩⟩
theorem spot_of {ds : List DV} (h : Dnum 6 ds) : ∃ (b : RS) (q : Sp), ds = gW b.l ∧ NS 1048576 b q := by
  obtain ⟨r0, r1, r2, r3, r4, r5, rfl, g0, g1, g2, g3, g4, g5⟩ := num6 h
  exact ⟨⟨⟨r0, r1, r2⟩, ⟨r3, r4, r5⟩⟩, ⟨⟨r0.v, r1.v, r2.v⟩, ⟨r3.v, r4.v, r5.v⟩⟩, rfl, nv_of g0 g1 g2, nv_of g3 g4 g5⟩
theorem map_of {ds : List DV} (h : Dnum 12 ds) : ∃ (m : RM) (u : M4), ds = gW m.l ∧ NM 1048576 m u := by
  obtain ⟨r0, r1, r2, r3, r4, r5, r6, r7, r8, r9, ra, rb, rfl, g0, g1, g2, g3, g4, g5, g6, g7, g8, g9, ga, gb⟩ := num12 h
  exact ⟨⟨⟨r0, r1, r2⟩, ⟨r3, r4, r5⟩, ⟨r6, r7, r8⟩, ⟨r9, ra, rb⟩⟩, ⟨⟨r0.v, r1.v, r2.v⟩, ⟨r3.v, r4.v, r5.v⟩, ⟨r6.v, r7.v, r8.v⟩, ⟨r9.v, ra.v, rb.v⟩⟩, rfl, nv_of g0 g1 g2, nv_of g3 g4 g5, nv_of g6 g7 g8, nv_of g9 ga gb⟩
end Go.Px.Na

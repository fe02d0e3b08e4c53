/- T13: configs and places, as data that comes in. -/
import Derived.Test.YtgnhhdgepnfnmaaDr2
import Derived.Test.YtgnhhdgepnfnmaaGl
set_option maxRecDepth 10000
set_option linter.unusedSimpArgs false
set_option linter.unusedVariables false
namespace Go.Px.Na
open Go.RowKit
open Go.Proofs.Try (prog)
theorem cells3 : prog.cellsOf 3 = 1 := by kernel_rfl
theorem cells38 : prog.cellsOf 38 = 12 := by kernel_rfl
theorem cells40 : prog.cellsOf 40 = 4 := by kernel_rfl
theorem cells42 : prog.cellsOf 42 = 19 := by kernel_rfl
theorem under42 : prog.underlying 42 = prog.underlying 41 := by kernel_rfl
theorem t_int : TOK prog 3 (Dint .i64) := tok_int Go.Proofs.Try.underlying3
theorem s_int : SP prog 3 := sp_int Go.Proofs.Try.underlying3
theorem s_bool : SP prog 4 := sp_bool Go.Proofs.Try.underlying4
def Dcf (ds : List DV) : Prop := ∃ c : CF, ds = c.dv ∧ c.ok
theorem i64_of {n : Int} (h0 : IntKind.i64.min ≤ n) (h1 : n ≤ IntKind.i64.max) : i64r n := by
  have e1 : IntKind.i64.min = -9223372036854775808 := by decide
  have e2 : IntKind.i64.max = 9223372036854775807 := by decide
  unfold i64r
  omega
theorem parts_cf {ds : List DV} (h : Parts [Dint .i64, Dint .i64, Dint .i64, Dint .i64, Dint .i64, Dint .i64, Drat, Drat] ds) : Dcf ds := by
  obtain ⟨_, _, rfl, ⟨m, rfl, m1, m2⟩, _, _, rfl, ⟨ps, rfl, p1, p2⟩, _, _, rfl, ⟨ph, rfl, q1, q2⟩, _, _, rfl, ⟨d, rfl, d1, d2⟩, _, _, rfl, ⟨bt, rfl, b1, b2⟩, _, _, rfl, ⟨nr, rfl, n1, n2⟩, _, _, rfl, ⟨r, rfl, hr⟩, _, _, rfl, ⟨a, rfl, ha⟩, rfl⟩ := h
  exact ⟨⟨m, ps, ph, d, bt, nr, r, a⟩, rfl, i64_of m1 m2, i64_of p1 p2, i64_of q1 q2, i64_of d1 d2, i64_of b1 b2, i64_of n1 n2, okL hr, okL ha⟩
theorem t_cf : TOK prog 38 Dcf := (tok_struct Go.Proofs.Try.underlying38 (Ds := [Dint .i64, Dint .i64, Dint .i64, Dint .i64, Dint .i64, Dint .i64, Drat, Drat])
  ⟨rfl, t_int, by simp only [cells3], t_int, by simp only [cells3], t_int, by simp only [cells3], t_int, by simp only [cells3], t_int, by simp only [cells3], t_int, by simp only [cells3], t_rat, by simp only [cells3, cells24], t_rat, trivial⟩
  (by simp only [total, cells3, cells24, cells38])).imp fun _ h => parts_cf h
theorem s_cf : SP prog 38 := sp_struct Go.Proofs.Try.underlying38 fun i f h => by
  match i with
  | 0 => simp at h; subst h; exact s_int
  | 1 => simp at h; subst h; exact s_int
  | 2 => simp at h; subst h; exact s_int
  | 3 => simp at h; subst h; exact s_int
  | 4 => simp at h; subst h; exact s_int
  | 5 => simp at h; subst h; exact s_int
  | 6 => simp at h; subst h; exact s_rat
  | 7 => simp at h; subst h; exact s_rat
  | i + 8 => simp at h
theorem g_cf : Par.good prog ⟨38, true, Dcf⟩ := ⟨t_cf, s_cf, .inl ⟨_, Go.Proofs.Try.underlying38⟩⟩
def Dslot (ds : List DV) : Prop := ∃ (t : Bool) (a b c : Int), ds = [.bool t, .int .i64 a, .int .i64 b, .int .i64 c] ∧ i64r a ∧ i64r b ∧ i64r c
theorem parts_slot {ds : List DV} (h : Parts [Dbool, Dint .i64, Dint .i64, Dint .i64] ds) : Dslot ds := by
  obtain ⟨_, _, rfl, ⟨t, rfl⟩, _, _, rfl, ⟨a, rfl, a1, a2⟩, _, _, rfl, ⟨b, rfl, b1, b2⟩, _, _, rfl, ⟨c, rfl, c1, c2⟩, rfl⟩ := h
  exact ⟨t, a, b, c, rfl, i64_of a1 a2, i64_of b1 b2, i64_of c1 c2⟩
theorem t_slot : TOK prog 40 Dslot := (tok_struct Go.Proofs.Try.underlying40 (Ds := [Dbool, Dint .i64, Dint .i64, Dint .i64])
  ⟨rfl, tok_bool Go.Proofs.Try.underlying4, by simp only [cells4], t_int, by simp only [cells3, cells4], t_int, by simp only [cells3, cells4], t_int, trivial⟩
  (by simp only [total, cells3, cells4, cells40])).imp fun _ h => parts_slot h
theorem s_slot : SP prog 40 := sp_struct Go.Proofs.Try.underlying40 fun i f h => by
  match i with
  | 0 => simp at h; subst h; exact s_bool
  | 1 => simp at h; subst h; exact s_int
  | 2 => simp at h; subst h; exact s_int
  | 3 => simp at h; subst h; exact s_int
  | i + 4 => simp at h
def Dplace (ds : List DV) : Prop := ∃ (c : CF) (w h : Int) (t : Bool) (pa wi sl i : Int), ds = c.dv ++ [.int .i64 w, .int .i64 h, .bool t, .int .i64 pa, .int .i64 wi, .int .i64 sl, .int .i64 i] ∧ c.ok ∧ i64r w ∧ i64r h ∧ i64r pa ∧ i64r wi ∧ i64r sl ∧ i64r i
theorem parts_place {ds : List DV} (h : Parts [Dcf, Dint .i64, Dint .i64, Dslot, Dint .i64] ds) : Dplace ds := by
  obtain ⟨_, _, rfl, ⟨c, rfl, hc⟩, _, _, rfl, ⟨w, rfl, w1, w2⟩, _, _, rfl, ⟨h, rfl, h1, h2⟩, _, _, rfl, ⟨t, a, b, e, rfl, ha, hb, he⟩, _, _, rfl, ⟨i, rfl, i1, i2⟩, rfl⟩ := h
  exact ⟨c, w, h, t, a, b, e, i, rfl, hc, i64_of w1 w2, i64_of h1 h2, ha, hb, he, i64_of i1 i2⟩
theorem t_place : TOK prog 42 Dplace := (tok_struct (under42.trans Go.Proofs.Try.underlying41) (Ds := [Dcf, Dint .i64, Dint .i64, Dslot, Dint .i64])
  ⟨rfl, t_cf, by simp only [cells38], t_int, by simp only [cells38, cells3], t_int, by simp only [cells38, cells3], t_slot, by simp only [cells38, cells3, cells40], t_int, trivial⟩
  (by simp only [total, cells3, cells38, cells40, cells42])).imp fun _ h => parts_place h
theorem s_place : SP prog 42 := sp_struct (under42.trans Go.Proofs.Try.underlying41) fun i f h => by
  match i with
  | 0 => simp at h; subst h; exact s_cf
  | 1 => simp at h; subst h; exact s_int
  | 2 => simp at h; subst h; exact s_int
  | 3 => simp at h; subst h; exact s_slot
  | 4 => simp at h; subst h; exact s_int
  | i + 5 => simp at h
theorem g_place : Par.good prog ⟨42, true, Dplace⟩ := ⟨t_place, s_place, .inl ⟨_, under42.trans Go.Proofs.Try.underlying41⟩⟩
end Go.Px.Na

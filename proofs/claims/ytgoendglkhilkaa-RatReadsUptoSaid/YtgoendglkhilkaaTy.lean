/- Ty: the numbers of types in this translation; what they are. -/
import Derived.Test.YtgoendglkhilkaaGl
import Derived.Test.YtgoendglkhilkaaProg
set_option maxRecDepth 10000
set_option linter.unusedSimpArgs false
set_option linter.unusedVariables false
namespace Go.Px.Na
open Go.RowKit
open Go.Proofs (Try.prog)
open Go.Proofs.Try (prog)
theorem cells4 : prog.cellsOf 4 = 1 := by kernel_rfl
theorem cells22 : prog.cellsOf 22 = 1 := by kernel_rfl
theorem cells24 : prog.cellsOf 24 = 3 := by kernel_rfl
theorem cells53 : prog.cellsOf 53 = 1 := by kernel_rfl
theorem g_bool : Par.good prog ⟨4, false, Dbool⟩ := ⟨tok_bool Go.Proofs.Try.underlying4, sp_bool Go.Proofs.Try.underlying4, .inl Go.Proofs.Try.underlying4⟩
theorem g_int : Par.good prog ⟨3, false, Dint .i64⟩ := ⟨tok_int Go.Proofs.Try.underlying3, sp_int Go.Proofs.Try.underlying3, .inr ⟨_, Go.Proofs.Try.underlying3⟩⟩
theorem t_nl : TOK prog 22 Dnl := tok_nl Go.Proofs.Try.underlying22 Go.Proofs.Try.underlying53 cells53
theorem s_nl : SP prog 22 := sp_slice Go.Proofs.Try.underlying22 (sp_int Go.Proofs.Try.underlying53) (by rw [cells53]; omega)
theorem t_rat : TOK prog 24 Drat := (tok_struct Go.Proofs.Try.underlying24 (Ds := [Dbool, Dnl, Dnl])
  ⟨rfl, tok_bool Go.Proofs.Try.underlying4, by rw [cells4], t_nl, by rw [cells4, cells22], t_nl, trivial⟩
  (by simp only [total, cells4, cells22, cells24])).imp fun _ h => parts_rat h
theorem s_rat : SP prog 24 := sp_struct Go.Proofs.Try.underlying24 fun i f h => by
  match i with
  | 0 => simp at h; subst h; exact sp_bool Go.Proofs.Try.underlying4
  | 1 => simp at h; subst h; exact s_nl
  | 2 => simp at h; subst h; exact s_nl
  | i + 3 => simp at h
theorem g_rat : Par.good prog ⟨24, true, Drat⟩ := ⟨t_rat, s_rat, ⟨_, Go.Proofs.Try.underlying24⟩⟩
theorem own : ownKnob prog.godebug = none := by kernel_rfl
end Go.Px.Na

/- DrawsUnits: FOR WHATEVER INPUT OF BULK AT MOST 1048576 the law tells true, and the input reads as it did. -/
import Derived.Test.YtgnhhdgepnfnmaaDu
import Derived.Test.YtgnhhdgepnfnmaaGl
set_option maxRecDepth 100000
namespace Go.Proofs.Ytgnhhdgepnfnmaa.drawsUnits
open Go.ChangeShapes Go.WideShapes Go.ChangeAt Go.RowKit Go.Px Go.Px.Na

theorem spec (H : Type) (ds : List (DataW H)) (h : ds.length = 3) : Rows.drawsUnitsSpec.fn H ds = { results := [.lit (.bool true)], args := ds } := by
  match ds, h with
  | [d0, d1, d2], _ => rfl

theorem pure : ∀ dd, Dats [⟨3, false, Dint .i64⟩, ⟨3, false, Dint .i64⟩, ⟨3, false, Dint .i64⟩] dd → PureCalls Try.prog 3 (avs [⟨3, false, Dint .i64⟩, ⟨3, false, Dint .i64⟩, ⟨3, false, Dint .i64⟩] dd) [.one (.bool true)] := by
  intro dd h
  rcases dd with _ | ⟨x9, _ | ⟨y9, _ | ⟨z9, _ | ⟨u9, q9⟩⟩⟩⟩
  · exact False.elim h
  · exact False.elim h.2
  · exact False.elim h.2.2
  · obtain ⟨⟨d, rfl, d0, d1⟩, ⟨e, rfl, e0, e3⟩, ⟨b, rfl, b0, b1⟩, _⟩ := h
    have e1 : IntKind.i64.min = -9223372036854775808 := by decide
    have e2 : IntKind.i64.max = 9223372036854775807 := by decide
    exact pure_DrawsUnits ⟨by omega, by omega⟩ ⟨by omega, by omega⟩ ⟨by omega, by omega⟩
  · exact False.elim h.2.2.2

theorem contract (H : Type) (enc : TypeId × Value → H) (W : World) (base : Nat) (args : Array Value) (ds gs : List (DataW H)) (before : List MemPlace)
    (hval : ∀ (j : Nat) t v, Try.f3.params[j]? = some t → args[j]? = some v → Value.okWide Try.prog W .any base t v)
    (hW : DataW.Whole enc Try.prog Try.f3.params.toList Rows.drawsUnitsSpec.vars false W args.toList ds gs before) (hk : Rows.uptoSmall H (ds ++ gs) = true) :
    Calls Try.prog 3 args W fun e W' => ∃ v, e = .returned v ∧ Rows.drawsUnitsSpec.post enc Try.prog Try.f3 false true false false W args v W' :=
  law_contract (L := [⟨3, false, Dint .i64⟩, ⟨3, false, Dint .i64⟩, ⟨3, false, Dint .i64⟩]) (tb := 4) (by
    intro p hp
    simp only [List.mem_cons, List.not_mem_nil, or_false] at hp
    first | (obtain rfl := hp) | (rcases hp with rfl | rfl) | (rcases hp with rfl | rfl | rfl) | (rcases hp with rfl | rfl | rfl | rfl)
    all_goals first | exact g_rat | exact g_int | exact g_bool) (by rw [Try.params3]; rfl) rfl rfl Try.underlying4 (fun H ds h => spec H ds h) pure
    H enc W base args ds gs before hval hW (of_decide_eq_true hk)

theorem lifted (os : Os) (started : os.Started) (H : Type) (enc : TypeId × Value → H) (F : Stop.Interp) :
    ReturnsInHanded {} Try.checked os 3 .any ((Rows.OpenSpec.upto Rows.drawsUnitsSpec).pre6 enc Try.prog Try.f3 Rows.drawsUnitsUptoRow.domain false) (((Rows.OpenSpec.upto Rows.drawsUnitsSpec).at F).post enc Try.prog Try.f3 false true false false) := by
  refine returnsInHanded_of_cond (C := Try.checked) (s := Rows.OpenSpec.upto Rows.drawsUnitsSpec) (k := Rows.uptoSmall) rfl own started (by kernel_rfl) Try.func3
    (OpenSpec.witness (enc := enc) (C := Try.checked) (s := Rows.OpenSpec.upto Rows.drawsUnitsSpec) (k := Rows.uptoSmall) rfl false ⟨#[], #[.int .i64 0, .int .i64 0, .int .i64 0], []⟩ 8 (by kernel_rfl) (by kernel_rfl) (by kernel_rfl)
      (x := ([.lit (.int .i64 0), .lit (.int .i64 0), .lit (.int .i64 0)], [], [])) (by kernel_rfl) rfl (by kernel_rfl)) ?_
  intro W base args ds gs before hval hW _ hk _
  exact contract H enc W base args ds gs before hval hW hk

theorem proved : Rows.DrawsUnitsUptoSaid :=
  OpenClaim.holds_of_cond 3 Try.f3 rfl rfl rfl rfl rfl rfl rfl ⟨rfl, rfl, rfl, rfl, rfl⟩ rfl rfl rfl rfl rfl (by kernel_rfl) Try.func3 (by kernel_rfl)
    (of_decide_eq_true (by kernel_rfl)) (by unfold Func.isWrapper; first | (rw [if_pos (by decide +kernel)]; kernel_rfl) | (rw [if_neg (by decide +kernel)]; exact ⟨rfl, rfl⟩))
    (fun os started H enc _ F => lifted os started H enc F)
#print axioms proved
end Go.Proofs.Ytgnhhdgepnfnmaa.drawsUnits

/- WeighDensities: FOR WHATEVER INPUT OF BULK AT MOST 1048576 the law tells true, and the input reads as it did. -/
import Derived.Test.YtnohcccgfefnkaaGreatQWeighDensities
import Derived.Test.YtnohcccgfefnkaaGreatTh
set_option maxRecDepth 100000
namespace Go.Proofs.YtnohcccgfefnkaaGreat.weighDensities
open Go.ChangeShapes Go.WideShapes Go.ChangeAt Go.RowKit Go.Px Go.Px.Na

theorem spec (H : Type) (ds : List (DataW H)) (h : ds.length = 1) : Rows.weighDensitiesSpec.fn H ds = { results := [.lit (.bool true)], args := ds } := by
  match ds, h with
  | [d0], _ => rfl

theorem pure : ∀ dd, Dats [⟨36, true, Dpath⟩] dd → PureCalls Tryz.prog 3 (avs [⟨36, true, Dpath⟩] dd) [.one (.bool true)] := by
  intro dd h
  rcases dd with _ | ⟨x9, _ | ⟨u9, q9⟩⟩
  · exact False.elim h
  · obtain ⟨hq, _⟩ := h
    obtain ⟨r, p, rfl, h, hm⟩ := path_of hq
    exact pure_WeighDensities h hm
  · exact False.elim h.2

theorem contract (H : Type) (enc : TypeId × Value → H) (W : World) (base : Nat) (args : Array Value) (ds gs : List (DataW H)) (before : List MemPlace)
    (hval : ∀ (j : Nat) t v, Tryz.f3.params[j]? = some t → args[j]? = some v → Value.okWide Tryz.prog W .any base t v)
    (hW : DataW.Whole enc Tryz.prog Tryz.f3.params.toList Rows.weighDensitiesSpec.vars false W args.toList ds gs before) (hk : Rows.uptoSmall H (ds ++ gs) = true) :
    Calls Tryz.prog 3 args W fun e W' => ∃ v, e = .returned v ∧ Rows.weighDensitiesSpec.post enc Tryz.prog Tryz.f3 false true false false W args v W' :=
  law_contract (L := [⟨36, true, Dpath⟩]) (tb := 4) (by
    intro p hp
    simp only [List.mem_cons, List.not_mem_nil, or_false] at hp
    first | (obtain rfl := hp) | (rcases hp with rfl | rfl) | (rcases hp with rfl | rfl | rfl) | (rcases hp with rfl | rfl | rfl | rfl)
    all_goals first | exact g_rat | exact g_int | exact g_bool | exact g_path) (by rw [Tryz.params3]; rfl) rfl rfl Tryz.underlying4 (fun H ds h => spec H ds h) pure
    H enc W base args ds gs before hval hW (of_decide_eq_true hk)

theorem lifted (os : Os) (started : os.Started) (H : Type) (enc : TypeId × Value → H) (F : Stop.Interp) :
    ReturnsInHanded {} Tryz.checked os 3 .any ((Rows.OpenSpec.upto Rows.weighDensitiesSpec).pre6 enc Tryz.prog Tryz.f3 Rows.weighDensitiesUptoRow.domain false) (((Rows.OpenSpec.upto Rows.weighDensitiesSpec).at F).post enc Tryz.prog Tryz.f3 false true false false) := by
  refine returnsInHanded_of_cond (C := Tryz.checked) (s := Rows.OpenSpec.upto Rows.weighDensitiesSpec) (k := Rows.uptoSmall) rfl own started (by kernel_rfl) Tryz.func3
    (OpenSpec.witness (enc := enc) (C := Tryz.checked) (s := Rows.OpenSpec.upto Rows.weighDensitiesSpec) (k := Rows.uptoSmall) rfl false ⟨#[], #[.agg #[.bool false, .slice none 0 0, .slice none 0 0, .slice none 0 0, .slice none 0 0, .bool false, .slice none 0 0, .slice none 0 0, .bool false, .slice none 0 0, .slice none 0 0, .bool false, .slice none 0 0, .slice none 0 0, .bool false, .slice none 0 0, .slice none 0 0, .bool false, .slice none 0 0, .slice none 0 0, .bool false, .slice none 0 0, .slice none 0 0, .bool false, .slice none 0 0, .slice none 0 0, .bool false, .slice none 0 0, .slice none 0 0, .bool false, .slice none 0 0, .slice none 0 0, .bool false, .slice none 0 0, .slice none 0 0, .bool false, .slice none 0 0, .slice none 0 0, .bool false, .slice none 0 0, .slice none 0 0, .int .i64 0, .bool false, .slice none 0 0, .slice none 0 0, .bool false, .slice none 0 0, .slice none 0 0, .bool false, .slice none 0 0, .slice none 0 0, .bool false, .slice none 0 0, .slice none 0 0, .bool false, .slice none 0 0, .slice none 0 0, .bool false, .slice none 0 0, .slice none 0 0, .bool false, .slice none 0 0, .slice none 0 0, .int .i64 0, .int .i64 0, .bool false, .slice none 0 0, .slice none 0 0, .bool false, .slice none 0 0, .slice none 0 0]], []⟩ 8 (by kernel_rfl) (by kernel_rfl) (by kernel_rfl)
      (x := ([.agg [.agg [.lit (.bool false), .nil, .nil], .nil, .nil, .agg [.agg [.agg [.agg [.lit (.bool false), .nil, .nil], .agg [.lit (.bool false), .nil, .nil], .agg [.lit (.bool false), .nil, .nil]], .agg [.agg [.lit (.bool false), .nil, .nil], .agg [.lit (.bool false), .nil, .nil], .agg [.lit (.bool false), .nil, .nil]], .agg [.agg [.lit (.bool false), .nil, .nil], .agg [.lit (.bool false), .nil, .nil], .agg [.lit (.bool false), .nil, .nil]], .agg [.agg [.lit (.bool false), .nil, .nil], .agg [.lit (.bool false), .nil, .nil], .agg [.lit (.bool false), .nil, .nil]]], .lit (.int .i64 0), .agg [.lit (.bool false), .nil, .nil]], .agg [.agg [.agg [.lit (.bool false), .nil, .nil], .agg [.lit (.bool false), .nil, .nil], .agg [.lit (.bool false), .nil, .nil]], .agg [.agg [.lit (.bool false), .nil, .nil], .agg [.lit (.bool false), .nil, .nil], .agg [.lit (.bool false), .nil, .nil]], .lit (.int .i64 0), .lit (.int .i64 0), .agg [.lit (.bool false), .nil, .nil]], .agg [.lit (.bool false), .nil, .nil]]], [], [])) (by kernel_rfl) rfl (by kernel_rfl)) ?_
  intro W base args ds gs before hval hW _ hk _
  exact contract H enc W base args ds gs before hval hW hk

theorem proved : Rows.WeighDensitiesUptoSaid :=
  OpenClaim.holds_of_cond 3 Tryz.f3 rfl rfl rfl rfl rfl rfl rfl ⟨rfl, rfl, rfl, rfl, rfl⟩ rfl rfl rfl rfl rfl (by kernel_rfl) Tryz.func3 (by kernel_rfl)
    (of_decide_eq_true (by kernel_rfl)) (by unfold Func.isWrapper; first | (rw [if_pos (by decide +kernel)]; kernel_rfl) | (rw [if_neg (by decide +kernel)]; exact ⟨rfl, rfl⟩))
    (fun os started H enc _ F => lifted os started H enc F)
#print axioms proved
end Go.Proofs.YtnohcccgfefnkaaGreat.weighDensities

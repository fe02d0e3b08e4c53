/- DensFar: FOR WHATEVER INPUT OF BULK AT MOST 1048576 the law tells true, and the input reads as it did. -/
import Derived.Test.YtgnhhdgepnfnmaaQDensFar
import Derived.Test.YtgnhhdgepnfnmaaTn
set_option maxRecDepth 100000
namespace Go.Proofs.Ytgnhhdgepnfnmaa.densFar
open Go.ChangeShapes Go.WideShapes Go.ChangeAt Go.RowKit Go.Px Go.Px.Na

theorem spec (H : Type) (ds : List (DataW H)) (h : ds.length = 3) : Rows.densFarSpec.fn H ds = { results := [.lit (.bool true)], args := ds } := by
  match ds, h with
  | [d0, d1, d2], _ => rfl

theorem pure : ∀ dd, Dats [⟨77, true, Dnum 12⟩, ⟨24, true, Dnum 1⟩, ⟨57, true, Dnum 3⟩] dd → PureCalls Try.prog 10 (avs [⟨77, true, Dnum 12⟩, ⟨24, true, Dnum 1⟩, ⟨57, true, Dnum 3⟩] dd) [.one (.bool true)] := by
  intro dd h
  rcases dd with _ | ⟨x9, _ | ⟨y9, _ | ⟨z9, _ | ⟨u9, q9⟩⟩⟩⟩
  · exact False.elim h
  · exact False.elim h.2
  · exact False.elim h.2.2
  · obtain ⟨hp0, hp1, hp2, _⟩ := h
    obtain ⟨r0, r1, r2, r3, r4, r5, r6, r7, r8, r9, r10, r11, rfl, g0, g1, g2, g3, g4, g5, g6, g7, g8, g9, g10, g11⟩ := num12 hp0
    obtain ⟨r12, rfl, g12⟩ := num1 hp1
    obtain ⟨r13, r14, r15, rfl, g13, g14, g15⟩ := num3 hp2
    exact pure_DensFar g0 g1 g2 g3 g4 g5 g6 g7 g8 g9 g10 g11 g12 g13 g14 g15
  · exact False.elim h.2.2.2

theorem contract (H : Type) (enc : TypeId × Value → H) (W : World) (base : Nat) (args : Array Value) (ds gs : List (DataW H)) (before : List MemPlace)
    (hval : ∀ (j : Nat) t v, Try.f10.params[j]? = some t → args[j]? = some v → Value.okWide Try.prog W .any base t v)
    (hW : DataW.Whole enc Try.prog Try.f10.params.toList Rows.densFarSpec.vars false W args.toList ds gs before) (hk : Rows.uptoSmall H (ds ++ gs) = true) :
    Calls Try.prog 10 args W fun e W' => ∃ v, e = .returned v ∧ Rows.densFarSpec.post enc Try.prog Try.f10 false true false false W args v W' :=
  law_contract (L := [⟨77, true, Dnum 12⟩, ⟨24, true, Dnum 1⟩, ⟨57, true, Dnum 3⟩]) (tb := 4) (by
    intro p hp
    simp only [List.mem_cons, List.not_mem_nil, or_false] at hp
    first | (obtain rfl := hp) | (rcases hp with rfl | rfl) | (rcases hp with rfl | rfl | rfl) | (rcases hp with rfl | rfl | rfl | rfl)
    all_goals first | exact g_rat | exact g_int | exact g_bool | exact g_arr2_Spot | exact g_rat1 | exact g_Vec) (by rw [Try.params10]; rfl) rfl rfl Try.underlying4 (fun H ds h => spec H ds h) pure
    H enc W base args ds gs before hval hW (of_decide_eq_true hk)

theorem lifted (os : Os) (started : os.Started) (H : Type) (enc : TypeId × Value → H) (F : Stop.Interp) :
    ReturnsInHanded {} Try.checked os 10 .any ((Rows.OpenSpec.upto Rows.densFarSpec).pre6 enc Try.prog Try.f10 Rows.densFarUptoRow.domain false) (((Rows.OpenSpec.upto Rows.densFarSpec).at F).post enc Try.prog Try.f10 false true false false) := by
  refine returnsInHanded_of_cond (C := Try.checked) (s := Rows.OpenSpec.upto Rows.densFarSpec) (k := Rows.uptoSmall) rfl own started (by kernel_rfl) Try.func10
    (OpenSpec.witness (enc := enc) (C := Try.checked) (s := Rows.OpenSpec.upto Rows.densFarSpec) (k := Rows.uptoSmall) rfl false ⟨#[], #[.agg #[.bool false, .slice none 0 0, .slice none 0 0, .bool false, .slice none 0 0, .slice none 0 0, .bool false, .slice none 0 0, .slice none 0 0, .bool false, .slice none 0 0, .slice none 0 0, .bool false, .slice none 0 0, .slice none 0 0, .bool false, .slice none 0 0, .slice none 0 0, .bool false, .slice none 0 0, .slice none 0 0, .bool false, .slice none 0 0, .slice none 0 0, .bool false, .slice none 0 0, .slice none 0 0, .bool false, .slice none 0 0, .slice none 0 0, .bool false, .slice none 0 0, .slice none 0 0, .bool false, .slice none 0 0, .slice none 0 0], .agg #[.bool false, .slice none 0 0, .slice none 0 0], .agg #[.bool false, .slice none 0 0, .slice none 0 0, .bool false, .slice none 0 0, .slice none 0 0, .bool false, .slice none 0 0, .slice none 0 0]], []⟩ 8 (by kernel_rfl) (by kernel_rfl) (by kernel_rfl)
      (x := ([.agg [.agg [.agg [.agg [.lit (.bool false), .nil, .nil], .agg [.lit (.bool false), .nil, .nil], .agg [.lit (.bool false), .nil, .nil]], .agg [.agg [.lit (.bool false), .nil, .nil], .agg [.lit (.bool false), .nil, .nil], .agg [.lit (.bool false), .nil, .nil]]], .agg [.agg [.agg [.lit (.bool false), .nil, .nil], .agg [.lit (.bool false), .nil, .nil], .agg [.lit (.bool false), .nil, .nil]], .agg [.agg [.lit (.bool false), .nil, .nil], .agg [.lit (.bool false), .nil, .nil], .agg [.lit (.bool false), .nil, .nil]]]], .agg [.lit (.bool false), .nil, .nil], .agg [.agg [.lit (.bool false), .nil, .nil], .agg [.lit (.bool false), .nil, .nil], .agg [.lit (.bool false), .nil, .nil]]], [], [])) (by kernel_rfl) rfl (by kernel_rfl)) ?_
  intro W base args ds gs before hval hW _ hk _
  exact contract H enc W base args ds gs before hval hW hk

theorem proved : Rows.DensFarUptoSaid :=
  OpenClaim.holds_of_cond 10 Try.f10 rfl rfl rfl rfl rfl rfl rfl ⟨rfl, rfl, rfl, rfl, rfl⟩ rfl rfl rfl rfl rfl (by kernel_rfl) Try.func10 (by kernel_rfl)
    (of_decide_eq_true (by kernel_rfl)) (by unfold Func.isWrapper; first | (rw [if_pos (by decide +kernel)]; kernel_rfl) | (rw [if_neg (by decide +kernel)]; exact ⟨rfl, rfl⟩))
    (fun os started H enc _ F => lifted os started H enc F)
#print axioms proved
end Go.Proofs.Ytgnhhdgepnfnmaa.densFar

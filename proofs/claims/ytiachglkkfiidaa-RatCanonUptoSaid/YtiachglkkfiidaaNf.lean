/- Nf: contracts of functions whose results lie in new memory. -/
import Derived.Test.YtiachglkkfiidaaNa3
import Derived.Test.YtiachglkkfiidaaPx24
set_option linter.unusedSimpArgs false
set_option linter.unusedVariables false
namespace Go.Px.Na
open Go.RowKit
variable {P : Program}
theorem fresh_of {H : Hints} {fuel : Nat} {f : FuncId} {ps : List Prm} {mask : List Bool} {ir : IR} (hm : P.follows .mixedOrders = true) (h : symFresh P H fuel f ps mask = some ir) (hn : okName P f = true) {args res : List AV} (hf : prmFit ps args = true)
    (h1 : (flatAll res).all DV.flat = true) (h2 : scalOk mask (flatAll res) = true) (hw : IRwp P [] (flatAll args) ir (· = res)) : FreshCalls P f args res :=
  symFresh_sound hm h hn hf (fun d hd => List.all_eq_true.1 h1 d hd) (scalOk_get h2) hw
theorem fresh_pure {f : FuncId} {args res : List AV} (h : FreshCalls P f args res) : PureCalls P f args res := by
  refine ⟨h.1, fun w ok vs hvs => (h.2 w vs ⟨hvs.1, fun j d hj => let ⟨u, hu, hr⟩ := hvs.2 j d hj; ⟨u, hu, hr.mono fun _ _ => trivial⟩⟩).mono ?_⟩
  rintro e w' ⟨v, he, hr, hg⟩
  refine ⟨v, he, ⟨none, ?_⟩, hg⟩
  have hmm : ∀ b, w.heap.size ≤ b → (ok b ∨ w.heap.size ≤ b) ∧ (none : Option Nat) ≠ some b := fun b hb => ⟨.inr hb, by simp⟩
  have one : ∀ (x : AV) (u : Value), FrAV w.heap.size w' x u → RepR w.heap.size ok none w' x u := fun x u hx => by
    have := FrAV.rep hmm hx
    cases x with
    | own s E n cells => exact hx.elim
    | _ => exact this
  unfold FrRes at hr
  split at hr
  · rename_i x; exact one x v hr
  · rename_i hne
    obtain ⟨us, rfl, hs, hc⟩ := hr
    exact ⟨us, rfl, hs, fun j d hj => let ⟨u, hu, hq⟩ := hc j d hj; ⟨u, hu, one d u hq⟩⟩
end Go.Px.Na

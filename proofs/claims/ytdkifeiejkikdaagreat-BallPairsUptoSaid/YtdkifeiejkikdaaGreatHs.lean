/- Hs: rows of whole numbers that the library puts in order. -/
import Derived.Test.YtdkifeiejkikdaaGreatHb
import Derived.Test.YtdkifeiejkikdaaGreatPx24
import Derived.Test.YtdkifeiejkikdaaGreatSh
import Derived.Sort.OwnSortedInts
set_option linter.unusedVariables false
set_option linter.unusedSimpArgs false
set_option linter.unusedVariables false
namespace Go.Px.Na
open Go.RowKit Go.Sort
open Go.Proofs.Tryz (prog)
theorem fn_ok {f : FuncId} (h : okName prog f = true) : ∃ fn, prog.funcs[f]? = some fn ∧ (fn.name == "runtime.NumGoroutine") = false ∧ fn.body.isNone = false := by
  unfold okName at h
  split at h
  · rename_i fn hfn
    simp only [Bool.and_eq_true, Bool.not_eq_true'] at h
    exact ⟨fn, hfn, h.1, h.2⟩
  · cases h
theorem t_sort {E : TypeId} {zs : List Int} (h : zs.length < 4611686018427387904) : RowInts prog F.slices_Sort___int_int_ false E zs (msort zs) := by
  refine ⟨fn_ok (by kernel_rfl), fun w v hown => ?_⟩
  rcases hown.2 with ⟨rfl, h0⟩ | ⟨g, cap, cur, rfl, _, hb, hn, hcap, hsz, ht⟩
  · have hz : zs = [] := List.eq_nil_of_length_eq_zero h0
    subst hz
    refine (Go.Proofs.Tryz.slices_Sort_int_none none 0 w).mono fun e w' => ?_
    rintro ⟨rfl, rfl⟩
    rw [show msort [] = [] from List.eq_nil_of_length_eq_zero (msort_len [])]
    exact ⟨_, rfl, fun _ => rfl, ⟨rfl, rfl, rfl, Nat.le_refl _, fun _ _ _ => rfl⟩, World.ownsR_nil _ _ _ _, fun b hb => by cases hb⟩
  · rw [Nat.mul_one] at hsz
    rw [Nat.mul_one] at ht
    refine (Go.Proofs.Tryz.slices_Sort_int g 0 cap zs w (holds_of_blockI hb ht) (Array.getElem?_eq_some_iff.1 hb).1 h).mono fun e w' => ?_
    rintro ⟨rfl, n, os, rfl⟩
    have hl := msort_len zs
    refine ⟨_, rfl, fun _ => rfl, grownBy_sortedI _, ?_, fun b hb => hb⟩
    rw [← hl] at hn
    refine ⟨by simp, .inr ⟨g, cap, _, by rw [hl], Nat.zero_le _, heap_sortedI _ hb, hn, hcap, by simp [putCells]; exact hsz, ?_⟩⟩
    rw [Nat.mul_one]
    exact take_putCellsI cur (msort zs) (by omega)
theorem t_compact {E : TypeId} {zs : List Int} (h : zs.length < 4611686018427387904) : RowInts prog F.slices_Compact___int_int_ true E zs (cpt zs) := by
  refine ⟨fn_ok (by kernel_rfl), fun w v hown => ?_⟩
  rcases hown.2 with ⟨rfl, h0⟩ | ⟨g, cap, cur, rfl, _, hb, hn, hcap, hsz, ht⟩
  · have hz : zs = [] := List.eq_nil_of_length_eq_zero h0
    subst hz
    refine (Go.Proofs.Tryz.slices_Compact_int_empty none 0 w).mono fun e w' => ?_
    rintro ⟨rfl, rfl⟩
    exact ⟨_, rfl, fun h => (by cases h), ⟨rfl, rfl, rfl, Nat.le_refl _, fun _ _ _ => rfl⟩, World.ownsR_nil _ _ _ _, fun b hb => by cases hb⟩
  · rw [Nat.mul_one] at hsz
    rw [Nat.mul_one] at ht
    have hk := Go.Proofs.Tryz.slices_Compact_int_arr g 0 cap zs.toArray w (holds_of_blockI hb ht) (by simpa using (show zs.length ≤ 9223372036854775807 by omega)) (by simpa using hn)
    rw [show zs.toArray.size = zs.length from by simp] at hk
    refine hk.mono fun e w' => ?_
    rintro ⟨rfl, q, hw⟩
    have hcl : (cpt zs).length ≤ zs.length := by
      unfold cpt Lib.compactUpTo
      rw [List.length_map]
      exact Nat.le_trans (List.length_filter_le _ _) (by simp)
    have hcl2 : (Lib.compactUpTo zs.toArray zs.length).length ≤ zs.length := hcl
    rw [← grow_empty (putRow _ _ _ _ _)] at hw
    subst hw
    refine ⟨_, rfl, fun h => (by cases h), grownBy_sortedI (os := #[]) _, ?_, fun b hb => hb⟩
    refine ⟨by simp, .inr ⟨g, cap, _, rfl, Nat.zero_le _, heap_sortedI (os := #[]) _ hb, Nat.le_trans hcl hn, hcap, by simp [putCells]; exact hsz, ?_⟩⟩
    rw [Nat.mul_one]
    have ht2 := take_putCellsI cur (Lib.compactUpTo zs.toArray zs.length ++ List.replicate (zs.length - (Lib.compactUpTo zs.toArray zs.length).length) 0) (by rw [List.length_append, List.length_replicate]; omega)
    have ht3 := congrArg (List.take (cpt zs).length) ht2
    rw [List.take_take, List.length_append, show min (cpt zs).length ((Lib.compactUpTo zs.toArray zs.length).length + (List.replicate (zs.length - (Lib.compactUpTo zs.toArray zs.length).length) (0 : Int)).length) = (cpt zs).length from Nat.min_eq_left (Nat.le_add_right _ _)] at ht3
    refine ht3.trans ?_
    rw [List.map_append, List.take_append_of_le_length (by rw [List.length_map]; exact Nat.le_refl _), List.take_of_length_le (by rw [List.length_map]; exact Nat.le_refl _)]
    rfl
end Go.Px.Na

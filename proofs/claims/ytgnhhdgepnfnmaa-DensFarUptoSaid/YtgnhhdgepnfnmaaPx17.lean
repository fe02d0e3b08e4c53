/- Px17: regions that draw their order. -/
import Derived.Test.YtgnhhdgepnfnmaaPx16
import Derived.Orders
set_option linter.unusedSimpArgs false
set_option linter.unusedVariables false
namespace Go.Px
open Go.RowKit

/-! ### A memory that is written in some order -/
section
variable {α : Type} {n : Nat} {σ : Nat → Nat → Option α} {R W : Nat → List Nat} {D : Nat → Nat → Prop} {L : Nat → Prop} {cur : Nat → Option α}

/-- What the memory is after the steps of L. -/
structure Mem (n : Nat) (σ : Nat → Nat → Option α) (W : Nat → List Nat) (L : Nat → Prop) (cur : Nat → Option α) : Prop where
  no : ∀ x, (∀ j, j < n → L j → x ∉ W j) → cur x = σ 0 x
  yes : ∀ x j, j < n → L j → x ∈ W j → (∀ k, j < k → k < n → L k → x ∉ W k) → cur x = σ (j + 1) x

theorem last_write (hW : ∀ i, i < n → ∀ x, x ∉ W i → σ (i + 1) x = σ i x) (x : Nat) : ∀ i, i ≤ n → ((∀ j, j < i → x ∉ W j) ∧ σ i x = σ 0 x) ∨ ∃ j, j < i ∧ x ∈ W j ∧ (∀ k, j < k → k < i → x ∉ W k) ∧ σ i x = σ (j + 1) x
  | 0, _ => .inl ⟨fun j hj => by omega, rfl⟩
  | i + 1, hi => by
    by_cases hx : x ∈ W i
    · exact .inr ⟨i, by omega, hx, fun k h1 h2 => by omega, rfl⟩
    · have hs := hW i (by omega) x hx
      rcases last_write hW x i (by omega) with ⟨h1, h2⟩ | ⟨j, h1, h2, h3, h4⟩
      · refine .inl ⟨fun j hj => ?_, by rw [hs, h2]⟩
        by_cases he : j = i
        · rw [he]; exact hx
        · exact h1 j (by omega)
      · refine .inr ⟨j, by omega, h2, fun k h5 h6 => ?_, by rw [hs, h4]⟩
        by_cases he : k = i
        · rw [he]; exact hx
        · exact h3 k h5 (by omega)

theorem Mem.look (hW : ∀ i, i < n → ∀ x, x ∉ W i → σ (i + 1) x = σ i x) (hWR : ∀ i j x, i < j → j < n → x ∈ W i → x ∈ R j ∨ x ∈ W j → D i j) (hRW : ∀ i j x, i < j → j < n → x ∈ W j → x ∈ R i ∨ x ∈ W i → D i j)
    (hc : ∀ j, j < n → L j → ∀ i, D i j → L i) (M : Mem n σ W L cur) {i : Nat} (hi : i < n) (hL : ¬ L i) (hr : ∀ j, D j i → L j) {x : Nat} (hx : x ∈ R i ∨ x ∈ W i) : cur x = σ i x := by
  have later : ∀ k, i < k → k < n → L k → x ∉ W k := fun k h1 h2 h3 h4 => hL (hc k h2 h3 i (hRW i k x h1 h2 h4 hx))
  rcases last_write hW x i (by omega) with ⟨h1, h2⟩ | ⟨j, h1, h2, h3, h4⟩
  · rw [h2]
    refine M.no x fun j hj hLj => ?_
    rcases Nat.lt_trichotomy j i with h | h | h
    · exact h1 j h
    · rw [h] at hLj; exact absurd hLj hL
    · exact later j h hj hLj
  · rw [h4]
    refine M.yes x j (by omega) (hr j (hWR j i x h1 hi h2 hx)) h2 fun k h5 h6 h7 => ?_
    rcases Nat.lt_trichotomy k i with h | h | h
    · exact h3 k h5 h
    · rw [h] at h7; exact absurd h7 hL
    · exact later k h h6 h7

theorem Mem.put (hRW : ∀ i j x, i < j → j < n → x ∈ W j → x ∈ R i ∨ x ∈ W i → D i j)
    (hc : ∀ j, j < n → L j → ∀ i, D i j → L i) (M : Mem n σ W L cur) {i : Nat} (hi : i < n) (hL : ¬ L i) {L' : Nat → Prop} (hL' : ∀ j, L' j ↔ (L j ∨ j = i)) : Mem n σ W L' (patch cur (σ (i + 1)) (W i)) where
  no := fun x h => by
    have hx : x ∉ W i := h i hi ((hL' i).2 (.inr rfl))
    simp only [patch, hx, if_false]
    exact M.no x fun j hj hLj => h j hj ((hL' j).2 (.inl hLj))
  yes := fun x j hj hLj hxj hmax => by
    by_cases hx : x ∈ W i
    · simp only [patch, hx, if_true]
      rcases (hL' j).1 hLj with h | h
      · rcases Nat.lt_trichotomy j i with h1 | h1 | h1
        · exact absurd hx (hmax i h1 hi ((hL' i).2 (.inr rfl)))
        · rw [h1]
        · exact absurd (hc j hj h i (hRW i j x h1 hj hxj (.inr hx))) hL
      · rw [h]
    · simp only [patch, hx, if_false]
      rcases (hL' j).1 hLj with h | h
      · exact M.yes x j hj h hxj fun k h1 h2 h3 => hmax k h1 h2 ((hL' k).2 (.inl h3))
      · rw [h] at hxj; exact absurd hxj hx

theorem Mem.done (hW : ∀ i, i < n → ∀ x, x ∉ W i → σ (i + 1) x = σ i x) (M : Mem n σ W L cur) (hL : ∀ j, j < n → L j) : cur = σ n := by
  funext x
  rcases last_write hW x n (Nat.le_refl _) with ⟨h1, h2⟩ | ⟨j, h1, h2, h3, h4⟩
  · rw [h2]; exact M.no x fun j hj _ => h1 j hj
  · rw [h4]; exact M.yes x j h1 (hL j h1) h2 fun k h5 h6 _ => h3 k h5 h6

theorem Mem.start (hL : ∀ j, j < n → ¬ L j) : Mem n σ W L (σ 0) where
  no := fun _ _ => rfl
  yes := fun x j hj hLj => absurd hLj (hL j hj)
end

/-! ### What waits for what -/
theorem fold_bits (f : Edge → Bool) (acc : List Nat) (i : Nat) : ∀ (l : List Edge) (s : Nat), (l.foldl (fun s e => if f e then s ||| (2 ^ e.on) ||| acc.getD e.on 0 else s) s).testBit i = true → s.testBit i = true ∨ ∃ e ∈ l, f e = true ∧ (i = e.on ∨ (acc.getD e.on 0).testBit i = true)
  | [], s, h => .inl h
  | e :: r, s, h => by
    simp only [List.foldl_cons] at h
    rcases fold_bits f acc i r _ h with h1 | ⟨e', he', h1⟩
    · split at h1
      · rename_i hf
        simp only [Nat.testBit_or, Nat.testBit_two_pow, Bool.or_eq_true, decide_eq_true_eq] at h1
        rcases h1 with (h1 | h1) | h1
        · exact .inl h1
        · exact .inr ⟨e, by simp, hf, .inl h1.symm⟩
        · exact .inr ⟨e, by simp, hf, .inr h1⟩
      · exact .inl h1
    · exact .inr ⟨e', by simp [he'], h1⟩

theorem ancs_spec : ∀ (l : List Oper) (acc : List Nat), (∀ k, k < acc.length → (ancs l acc).getD k 0 = acc.getD k 0) ∧
    ∀ (j : Nat) (o : Oper), l[j]? = some o → ∀ i, ((ancs l acc).getD (acc.length + j) 0).testBit i = true → ∃ e ∈ o.after, Region.binds .any e = true ∧ (i = e.on ∨ ((ancs l acc).getD e.on 0).testBit i = true)
  | [], acc => ⟨fun k _ => rfl, fun j o h => by simp at h⟩
  | o :: r, acc => by
    simp only [ancs]
    generalize hv : (o.after.toList.foldl (fun s e => if Region.binds .any e then s ||| (2 ^ e.on) ||| acc.getD e.on 0 else s) 0) = v
    obtain ⟨h1, h2⟩ := ancs_spec r (acc ++ [v])
    have h1' : ∀ k, k < acc.length → (ancs r (acc ++ [v])).getD k 0 = acc.getD k 0 := fun k hk => by
      rw [h1 k (by simp; omega)]
      simp [List.getD_eq_getElem?_getD, List.getElem?_append_left hk]
    refine ⟨h1', fun j o' hj i hi => ?_⟩
    cases j with
    | zero =>
      simp at hj; subst hj
      rw [Nat.add_zero, h1 acc.length (by simp)] at hi
      simp only [List.getD_eq_getElem?_getD, List.getElem?_append_right (Nat.le_refl _), Nat.sub_self, List.getElem?_cons_zero, Option.getD_some] at hi
      rw [← hv] at hi
      rcases fold_bits _ acc i _ _ hi with h3 | ⟨e, he, hf, h3⟩
      · simp at h3
      · refine ⟨e, by simpa using he, hf, ?_⟩
        rcases h3 with h3 | h3
        · exact .inl h3
        · refine .inr ?_
          by_cases hlt : e.on < acc.length
          · rw [h1' _ hlt]; exact h3
          · rw [List.getD_eq_getElem?_getD, List.getElem?_eq_none (by omega)] at h3
            simp at h3
    | succ j =>
      have := h2 j o' (by simpa using hj) i (by simpa [Nat.add_assoc, Nat.add_comm 1 j] using hi)
      exact this

theorem meet_of {a b : List Nat} {x : Nat} (h1 : x ∈ a) (h2 : x ∈ b) : meet a b = true :=
  List.any_eq_true.2 ⟨x, h1, List.any_eq_true.2 ⟨x, h2, by simp⟩⟩

theorem apartAll_spec {an : List Nat} {n : Nat} {F : Nat → Foot} (h : apartAll an ((List.range n).map F) = true) {i j : Nat} (hij : i < j) (hj : j < n) (hc : (F i).clash (F j) = true) : (an.getD j 0).testBit i = true := by
  have hz : ∀ k, k < n → (F k, k) ∈ ((List.range n).map F).zipIdx := fun k hk => by
    rw [List.mem_zipIdx_iff_getElem?]
    simp [hk]
  have h1 := List.all_eq_true.1 h (F j, j) (hz j hj)
  have h2 := List.all_eq_true.1 h1 (F i, i) (hz i (by omega))
  simp only [hij, decide_true, Bool.not_true, Bool.false_or, hc] at h2
  exact h2

theorem backward_spec {ops : List Oper} (h : backward ops = true) {i : Nat} {o : Oper} (ho : ops[i]? = some o) {e : Edge} (he : e ∈ o.after) (hb : Region.binds .any e = true) : e.on < i := by
  have h1 := List.all_eq_true.1 h (o, i) (by rw [List.mem_zipIdx_iff_getElem?]; simpa using ho)
  have h2 := (Array.all_eq_true_iff_forall_mem.1 h1) e he
  simpa [hb] using h2

end Go.Px

/- Kp: plain: the one way in which points stand in order; lists of numbers that are all there. -/
import Derived.Test.YtejnnginkadecaaGreatKa
set_option linter.unusedVariables false
set_option linter.unusedSimpArgs false
namespace Go.Px.Na
/-! ### The order -/
section
variable {ps : List V3} {b : Int}
theorem cf_le {i k : Nat} : cfI ps b i k ≤ 0 ↔ axQ (ps.getD i o3) b < axQ (ps.getD k o3) b ∨ axQ (ps.getD i o3) b = axQ (ps.getD k o3) b ∧ i ≤ k := by
  unfold cfI
  have h1 := cq_lt (x := axQ (ps.getD i o3) b) (y := axQ (ps.getD k o3) b)
  have h2 := cq_gt (x := axQ (ps.getD i o3) b) (y := axQ (ps.getD k o3) b)
  have h3 := cq_eq (x := axQ (ps.getD i o3) b) (y := axQ (ps.getD k o3) b)
  generalize cmpQ (axQ (ps.getD i o3) b) (axQ (ps.getD k o3) b) = c at *
  generalize axQ (ps.getD i o3) b = x at *
  generalize axQ (ps.getD k o3) b = y at *
  split
  · rename_i hc
    constructor
    · intro h; exact .inl (h1.1 (by omega))
    · rintro (h | ⟨h, _⟩)
      · have := h1.2 h; omega
      · exact absurd (h3.2 h) hc
  · rename_i hc
    have hc : c = 0 := by omega
    have he := h3.1 hc
    subst he
    constructor
    · intro h; exact .inr ⟨rfl, by omega⟩
    · rintro (h | ⟨_, h⟩)
      · exact absurd h (Rat.lt_irrefl)
      · omega
theorem cf_lt {i k : Nat} : cfI ps b i k < 0 ↔ axQ (ps.getD i o3) b < axQ (ps.getD k o3) b ∨ axQ (ps.getD i o3) b = axQ (ps.getD k o3) b ∧ i < k := by
  unfold cfI
  have h1 := cq_lt (x := axQ (ps.getD i o3) b) (y := axQ (ps.getD k o3) b)
  have h2 := cq_gt (x := axQ (ps.getD i o3) b) (y := axQ (ps.getD k o3) b)
  have h3 := cq_eq (x := axQ (ps.getD i o3) b) (y := axQ (ps.getD k o3) b)
  generalize cmpQ (axQ (ps.getD i o3) b) (axQ (ps.getD k o3) b) = c at *
  generalize axQ (ps.getD i o3) b = x at *
  generalize axQ (ps.getD k o3) b = y at *
  split
  · rename_i hc
    constructor
    · intro h; exact .inl (h1.1 h)
    · rintro (h | ⟨h, _⟩)
      · exact h1.2 h
      · exact absurd (h3.2 h) hc
  · rename_i hc
    have hc : c = 0 := by omega
    have he := h3.1 hc
    subst he
    constructor
    · intro h; exact .inr ⟨rfl, by omega⟩
    · rintro (h | ⟨_, h⟩)
      · exact absurd h (Rat.lt_irrefl)
      · omega
/-- The one stands no later than the other. -/
def le3 (ps : List V3) (b : Int) (i k : Nat) : Bool := decide (cfI ps b i k ≤ 0)
theorem le3_iff {i k : Nat} : le3 ps b i k = true ↔ axQ (ps.getD i o3) b < axQ (ps.getD k o3) b ∨ axQ (ps.getD i o3) b = axQ (ps.getD k o3) b ∧ i ≤ k := by
  unfold le3; rw [decide_eq_true_iff]; exact cf_le
theorem le3_anti {i k : Nat} (h : le3 ps b i k = true) (g : le3 ps b k i = true) : i = k := by
  rw [le3_iff] at h g
  rcases h with h | ⟨h, h'⟩ <;> rcases g with g | ⟨g, g'⟩
  · grind
  · rw [g] at h; exact absurd h Rat.lt_irrefl
  · rw [h] at g; exact absurd g Rat.lt_irrefl
  · omega
theorem le3_trans {i k l : Nat} (h : le3 ps b i k = true) (g : le3 ps b k l = true) : le3 ps b i l = true := by
  rw [le3_iff] at h g ⊢
  rcases h with h | ⟨h, h'⟩ <;> rcases g with g | ⟨g, g'⟩
  · exact .inl (by grind)
  · exact .inl (g ▸ h)
  · exact .inl (h ▸ g)
  · exact .inr ⟨h.trans g, by omega⟩
theorem le3_tot {i k : Nat} : le3 ps b i k = true ∨ le3 ps b k i = true := by
  rw [le3_iff, le3_iff]
  have : ∀ x y : Rat, x < y ∨ x = y ∨ y < x := fun x y => by grind
  rcases this (axQ (ps.getD i o3) b) (axQ (ps.getD k o3) b) with h | h | h
  · exact .inl (.inl h)
  · rcases Nat.le_total i k with g | g
    · exact .inl (.inr ⟨h, g⟩)
    · exact .inr (.inr ⟨h.symm, g⟩)
  · exact .inr (.inl h)
end
def ins (le : Nat → Nat → Bool) (x : Nat) : List Nat → List Nat
  | [] => [x]
  | y :: r => if le x y then x :: y :: r else y :: ins le x r
/-- Points in order. -/
def srt (le : Nat → Nat → Bool) : List Nat → List Nat
  | [] => []
  | x :: r => ins le x (srt le r)
section
variable {le : Nat → Nat → Bool}
theorem ins_perm (x : Nat) : ∀ l, (ins le x l).Perm (x :: l)
  | [] => .refl _
  | y :: r => by
    unfold ins
    split
    · exact .refl _
    · exact ((ins_perm x r).cons y).trans (.swap x y r)
theorem srt_perm : ∀ l, (srt le l).Perm l
  | [] => .refl _
  | x :: r => (ins_perm x _).trans ((srt_perm r).cons x)
theorem srt_len (l : List Nat) : (srt le l).length = l.length := (srt_perm l).length_eq
theorem ins_sorted (ht : ∀ i k l, le i k = true → le k l = true → le i l = true) (hto : ∀ i k, le i k = true ∨ le k i = true) (x : Nat) : ∀ l, l.Pairwise (fun a b => le a b = true) → (ins le x l).Pairwise (fun a b => le a b = true)
  | [], _ => by simp [ins]
  | y :: r, h => by
    have h2 := List.pairwise_cons.1 h
    unfold ins
    split
    · rename_i hxy
      refine List.pairwise_cons.2 ⟨fun z hz => ?_, h⟩
      rcases List.mem_cons.1 hz with rfl | hz
      · exact hxy
      · exact ht _ _ _ hxy (h2.1 z hz)
    · rename_i hxy
      refine List.pairwise_cons.2 ⟨fun z hz => ?_, ins_sorted ht hto x r h2.2⟩
      rcases List.mem_cons.1 ((ins_perm x r).mem_iff.1 hz) with rfl | hz
      · exact (hto y z).resolve_right hxy
      · exact h2.1 z hz
theorem srt_sorted (ht : ∀ i k l, le i k = true → le k l = true → le i l = true) (hto : ∀ i k, le i k = true ∨ le k i = true) : ∀ l, (srt le l).Pairwise (fun a b => le a b = true)
  | [] => .nil
  | x :: r => ins_sorted ht hto x _ (srt_sorted ht hto r)
theorem sorted_one (ha : ∀ i k, le i k = true → le k i = true → i = k) : ∀ {l l' : List Nat}, l.Perm l' → l.Pairwise (fun a b => le a b = true) → l'.Pairwise (fun a b => le a b = true) → l = l'
  | [], l', h, _, _ => by rw [List.nil_perm.1 h]
  | x :: r, [], h, _, _ => by cases List.perm_nil.1 h
  | x :: r, y :: q, h, h1, h2 => by
    have g1 := List.pairwise_cons.1 h1
    have g2 := List.pairwise_cons.1 h2
    have hxy : x = y := by
      rcases List.mem_cons.1 (h.mem_iff.1 (List.mem_cons_self ..)) with e | hx
      · exact e
      · rcases List.mem_cons.1 (h.mem_iff.2 (List.mem_cons_self ..)) with e | hy
        · exact e.symm
        · exact ha _ _ (g1.1 y hy) (g2.1 x hx)
    subst hxy
    rw [sorted_one ha ((List.perm_cons x).1 h) g1.2 g2.2]
end
theorem srt3_sorted {ps : List V3} {b : Int} (l : List Nat) : (srt (le3 ps b) l).Pairwise (fun i k => le3 ps b i k = true) := srt_sorted (le := le3 ps b) (fun i k l h g => le3_trans (ps := ps) (b := b) (i := i) (k := k) (l := l) h g) (fun i k => le3_tot (ps := ps) (b := b) (i := i) (k := k)) l
theorem srt3_one {ps : List V3} {b : Int} {l l' : List Nat} (h : l'.Perm l) (h2 : l'.Pairwise (fun i k => le3 ps b i k = true)) : l' = srt (le3 ps b) l :=
  sorted_one (le := le3 ps b) (fun i k h g => le3_anti (ps := ps) (b := b) h g) (h.trans (srt_perm l).symm) h2 (srt3_sorted l)

/-! ### Numbers that are all there -/
theorem nd_le : ∀ (m : Nat) (l : List Nat), l.Nodup → (∀ x ∈ l, x < m) → l.length ≤ m
  | 0, [], _, _ => Nat.le_refl _
  | 0, x :: r, _, h => absurd (h x (List.mem_cons_self ..)) (Nat.not_lt_zero _)
  | m + 1, l, hn, h => by
    have h1 := nd_le m (l.erase m) (hn.erase m) (fun x hx => by
      have h2 := h x (List.mem_of_mem_erase hx)
      have h3 : x ≠ m := fun e => by subst e; exact (List.Nodup.not_mem_erase hn) hx
      omega)
    have h2 : l.length ≤ (l.erase m).length + 1 := by rw [List.length_erase]; split <;> omega
    omega
theorem nd_all : ∀ (m : Nat) (l : List Nat), l.Nodup → (∀ x ∈ l, x < m) → l.length = m → ∀ c, c < m → c ∈ l
  | 0, l, _, _, _, c, hc => absurd hc (Nat.not_lt_zero _)
  | m + 1, l, hn, h, hl, c, hc => by
    have hlt : ∀ x ∈ l.erase m, x < m := fun x hx => by
      have h2 := h x (List.mem_of_mem_erase hx)
      have h3 : x ≠ m := fun e => by subst e; exact (List.Nodup.not_mem_erase hn) hx
      omega
    have hm : m ∈ l := by
      by_cases hm : m ∈ l
      · exact hm
      · have := nd_le m l hn (fun x hx => by have := h x hx; have : x ≠ m := fun e => hm (e ▸ hx); omega)
        omega
    by_cases he : c = m
    · rw [he]; exact hm
    · exact List.mem_of_mem_erase (nd_all m (l.erase m) (hn.erase m) hlt (by rw [List.length_erase, if_pos (by first | exact hm | exact List.contains_iff_mem.2 hm)]; omega) c (by omega))
end Go.Px.Na

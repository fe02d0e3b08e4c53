/- Wo: sums of numbers with one denominator: how long they can grow. -/
import Derived.Test.YtkdppmbacjflaaaGreatWh
set_option maxRecDepth 20000
set_option maxHeartbeats 4000000
set_option linter.unusedVariables false
set_option linter.unusedSimpArgs false
namespace Go.Px.Na
open Go.RowKit
/-- A natural that clears a number's denominator. -/
def Cl (D : Nat) (x : Rat) : Prop := ∃ k : Int, x * (D : Rat) = (k : Rat)
theorem mul_den' (x : Rat) : x * (x.den : Rat) = (x.num : Rat) := by
  have hd : (x.den : Rat) ≠ 0 := fun z => x.den_nz (Rat.natCast_inj.1 (show (x.den : Rat) = ((0 : Nat) : Rat) from z))
  have h : (x.num : Rat) / (x.den : Rat) = x := by rw [← Rat.mkRat_eq_div, Rat.mkRat_self]
  exact (congrArg (· * (x.den : Rat)) h).symm.trans (Rat.div_mul_cancel hd)
theorem Cl.den (x : Rat) : Cl x.den x := ⟨x.num, mul_den' x⟩
theorem Cl.mul {D E : Nat} {x y : Rat} (h : Cl D x) (g : Cl E y) : Cl (D * E) (x * y) := by
  obtain ⟨k, hk⟩ := h
  obtain ⟨l, hl⟩ := g
  exact ⟨k * l, by rw [Rat.intCast_mul, ← hk, ← hl, Rat.natCast_mul]; grind⟩
theorem Cl.up {D : Nat} {x : Rat} (h : Cl D x) (c : Nat) : Cl (D * c) x := by
  obtain ⟨k, hk⟩ := h
  exact ⟨k * (c : Int), by rw [Rat.intCast_mul, ← hk, Rat.natCast_mul, Rat.intCast_natCast]; grind⟩
theorem Cl.dvd {D E : Nat} {x : Rat} (h : Cl D x) (g : D ∣ E) : Cl E x := by
  obtain ⟨c, rfl⟩ := g
  exact h.up c
theorem Cl.zero (D : Nat) : Cl D 0 := ⟨0, by rw [Rat.zero_mul]; rfl⟩
/-- So many times a denominator's part. -/
def Pt (D V : Nat) (x : Rat) : Prop := ∃ k : Int, x * (D : Rat) = (k : Rat) ∧ k.natAbs ≤ V
theorem Cl.pt {D L M : Nat} {x : Rat} (h : Cl D x) (hs : Sm L x) (hD : D < 4294967296 ^ M) : Pt D (4294967296 ^ (L + M)) x := by
  obtain ⟨k, hk⟩ := h
  refine ⟨k, hk, ?_⟩
  have e : x.num * (D : Int) = k * (x.den : Int) := by
    have h1 : (x.num : Rat) = x * (x.den : Rat) := (mul_den' x).symm
    have h2 : ((x.num * (D : Int) : Int) : Rat) = ((k * (x.den : Int) : Int) : Rat) := by
      rw [Rat.intCast_mul, Rat.intCast_mul, ← hk, h1, Rat.intCast_natCast, Rat.intCast_natCast]; grind
    exact Rat.intCast_inj.1 h2
  have e2 : x.num.natAbs * D = k.natAbs * x.den := by
    have := congrArg Int.natAbs e
    rwa [Int.natAbs_mul, Int.natAbs_mul, Int.natAbs_natCast, Int.natAbs_natCast] at this
  have h3 : k.natAbs ≤ k.natAbs * x.den := Nat.le_mul_of_pos_right _ x.den_pos
  rw [Nat.pow_add]
  refine Nat.le_trans h3 ?_
  rw [← e2]
  exact Nat.mul_le_mul (Nat.le_of_lt hs.num) (Nat.le_of_lt hD)
theorem Pt.add {D V W : Nat} {x y : Rat} (h : Pt D V x) (g : Pt D W y) : Pt D (V + W) (x + y) := by
  obtain ⟨k, hk, h1⟩ := h
  obtain ⟨l, hl, h2⟩ := g
  exact ⟨k + l, by rw [Rat.intCast_add, ← hk, ← hl]; grind, Nat.le_trans (Int.natAbs_add_le _ _) (by omega)⟩
theorem Pt.zero (D : Nat) : Pt D 0 0 := ⟨0, by rw [Rat.zero_mul]; rfl, Nat.le_refl _⟩
theorem eq_mkRat {x : Rat} {k : Int} {D : Nat} (hD : 0 < D) (h : x * (D : Rat) = (k : Rat)) : x = mkRat k D := by
  have hd : (D : Rat) ≠ 0 := by
    intro z
    have : (D : Rat) = ((0 : Nat) : Rat) := z
    have := Rat.natCast_inj.1 this
    omega
  rw [Rat.mkRat_eq_div, ← h, Rat.mul_div_cancel hd]
theorem Pt.sm {D V L : Nat} {x : Rat} (h : Pt D V x) (hD : 0 < D) (h1 : V < 4294967296 ^ L) (h2 : D < 4294967296 ^ L) (hL : 0 < L) : Sm L x := by
  obtain ⟨k, hk, h3⟩ := h
  rw [eq_mkRat hD hk]
  exact Sm_mkRat (Nat.lt_of_le_of_lt h3 h1) h2 hL
theorem Pt.div {D V W L : Nat} {x y : Rat} (h : Pt D V x) (g : Pt D W y) (hD : 0 < D) (hy : 0 < y) (h1 : V < 4294967296 ^ L) (h2 : W < 4294967296 ^ L) (hL : 0 < L) : Sm L (x / y) := by
  obtain ⟨k, hk, h3⟩ := h
  obtain ⟨l, hl, h4⟩ := g
  have hd : (0 : Rat) < (D : Rat) := Rat.natCast_pos.2 hD
  have hl0 : (0 : Rat) < (l : Rat) := by rw [← hl]; exact Rat.mul_pos hy hd
  have hl1 : 0 < l := Rat.intCast_pos.1 hl0
  have e : x / y * ((l.natAbs : Nat) : Rat) = (k : Rat) := by
    have : ((l.natAbs : Nat) : Rat) = (l : Rat) := by rw [← Rat.intCast_natCast, show ((l.natAbs : Nat) : Int) = l by omega]
    rw [this, ← hk, ← hl]
    grind
  rw [eq_mkRat (by omega) e]
  exact Sm_mkRat (Nat.lt_of_le_of_lt h3 h1) (Nat.lt_of_le_of_lt h4 h2) hL
/-! ### Rows -/
section
variable {l : List Rat} {D L M : Nat}
theorem sumR_succ {i : Nat} (h : i < l.length) : sumR (l.take (i + 1)) = sumR (l.take i) + l[i] := by
  unfold sumR
  rw [List.take_add_one, List.getElem?_eq_getElem h, Option.toList_some, List.foldl_append]; rfl
theorem sum_pt (hc : ∀ x ∈ l, Pt D M x) : ∀ i, Pt D (i * M) (sumR (l.take i))
  | 0 => by rw [Nat.zero_mul]; exact Pt.zero D
  | i + 1 => by
    by_cases h : i < l.length
    · rw [sumR_succ h, Nat.succ_mul]
      exact (sum_pt hc i).add (hc _ (List.getElem_mem h))
    · obtain ⟨k, h1, h2⟩ := sum_pt hc i
      rw [show l.take (i + 1) = l.take i by rw [List.take_of_length_le (i := i + 1) (by omega), List.take_of_length_le (i := i) (by omega)]]
      exact ⟨k, h1, Nat.le_trans h2 (Nat.mul_le_mul_right _ (by omega))⟩
theorem sum_pt' (hc : ∀ x ∈ l, Pt D M x) (hl : l.length ≤ 34) (i : Nat) : Pt D (34 * M) (sumR (l.take i)) := by
  have key : ∃ j, j ≤ 34 ∧ l.take i = l.take j := by
    by_cases h : i ≤ 34
    · exact ⟨i, h, rfl⟩
    · exact ⟨l.length, hl, by rw [List.take_of_length_le (by omega), List.take_length]⟩
  obtain ⟨j, hj, e⟩ := key
  rw [e]
  obtain ⟨k, h1, h2⟩ := sum_pt hc j
  exact ⟨k, h1, Nat.le_trans h2 (Nat.mul_le_mul_right _ hj)⟩
end
end Go.Px.Na

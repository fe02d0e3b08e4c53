/- Na1: naturals as lists of limbs: plain facts. -/
import Derived.Test.YtgnhhdgepnfnmaaPx1
set_option linter.unusedSimpArgs false
set_option linter.unusedVariables false
namespace Go.Px.Na

def val : List Nat → Nat
  | [] => 0
  | x :: r => x + 4294967296 * val r
def WL (l : List Nat) : Prop := ∀ x ∈ l, x < 4294967296

theorem WL.nil : WL [] := fun _ h => by cases h
theorem WL.cons {x : Nat} {l : List Nat} (h : x < 4294967296) (k : WL l) : WL (x :: l) := fun y hy => by
  rcases List.mem_cons.1 hy with rfl | hy
  · exact h
  · exact k y hy
theorem WL.head {x : Nat} {l : List Nat} (h : WL (x :: l)) : x < 4294967296 := h x (by simp)
theorem WL.tail {x : Nat} {l : List Nat} (h : WL (x :: l)) : WL l := fun y hy => h y (by simp [hy])
theorem WL.append {a b : List Nat} (h : WL a) (k : WL b) : WL (a ++ b) := fun y hy => by
  rcases List.mem_append.1 hy with hy | hy
  · exact h y hy
  · exact k y hy
theorem WL.take {a : List Nat} (h : WL a) (n : Nat) : WL (a.take n) := fun y hy => h y (List.mem_of_mem_take hy)
theorem WL.drop {a : List Nat} (h : WL a) (n : Nat) : WL (a.drop n) := fun y hy => h y (List.mem_of_mem_drop hy)
theorem WL.get {a : List Nat} (h : WL a) {i : Nat} (hi : i < a.length) : a[i] < 4294967296 := h _ (List.getElem_mem hi)
theorem WL.getD {a : List Nat} (h : WL a) (i : Nat) : a.getD i 0 < 4294967296 := by
  simp only [List.getD_eq_getElem?_getD]
  by_cases hi : i < a.length
  · simpa [List.getElem?_eq_getElem hi] using h.get hi
  · simp [List.getElem?_eq_none (Nat.le_of_not_lt hi)]
theorem WL.set {a : List Nat} (h : WL a) {i x : Nat} (hx : x < 4294967296) : WL (a.set i x) := fun y hy => by
  rcases List.mem_or_eq_of_mem_set hy with hy | rfl
  · exact h y hy
  · exact hx
theorem WL.rep (n : Nat) : WL (List.replicate n 0) := fun y hy => by
  have := (List.mem_replicate.1 hy).2; omega
theorem WL.single {x : Nat} (h : x < 4294967296) : WL [x] := WL.cons h WL.nil

theorem val_append (a b : List Nat) : val (a ++ b) = val a + 4294967296 ^ a.length * val b := by
  induction a with
  | nil => simp [val]
  | cons x r ih => simp only [List.cons_append, val, ih, List.length_cons, Nat.pow_succ]; grind
theorem val_single (x : Nat) : val [x] = x := by simp [val]
theorem val_snoc (a : List Nat) (x : Nat) : val (a ++ [x]) = val a + 4294967296 ^ a.length * x := by rw [val_append, val_single]
theorem val_rep (n : Nat) : val (List.replicate n 0) = 0 := by
  induction n with
  | zero => rfl
  | succ n ih => simp [List.replicate_succ, val, ih]
theorem val_take_drop (a : List Nat) (n : Nat) : val a = val (a.take n) + 4294967296 ^ (a.take n).length * val (a.drop n) := by
  rw [← val_append, List.take_append_drop]
theorem val_lt {l : List Nat} (h : WL l) : val l < 4294967296 ^ l.length := by
  induction l with
  | nil => simp [val]
  | cons x r ih =>
    have h1 := ih h.tail
    have h2 := h.head
    simp only [val, List.length_cons, Nat.pow_succ]
    have : 4294967296 * (val r + 1) ≤ 4294967296 * 4294967296 ^ r.length := Nat.mul_le_mul_left _ h1
    omega
theorem val_take_succ {l : List Nat} {i : Nat} (h : i < l.length) : val (l.take (i + 1)) = val (l.take i) + 4294967296 ^ i * l[i] := by
  rw [List.take_succ_eq_append_getElem h, val_append]
  simp [val, Nat.min_eq_left (Nat.le_of_lt h)]
theorem val_drop {l : List Nat} {i : Nat} (h : i < l.length) : val (l.drop i) = l[i] + 4294967296 * val (l.drop (i + 1)) := by
  rw [List.drop_eq_getElem_cons h]; rfl
theorem val_take_all {l : List Nat} {n : Nat} (h : l.length ≤ n) : val (l.take n) = val l := by rw [List.take_of_length_le h]
theorem val_getD_drop (l : List Nat) (i : Nat) : val (l.drop i) = l.getD i 0 + 4294967296 * val (l.drop (i + 1)) := by
  by_cases h : i < l.length
  · rw [val_drop h]; simp [List.getD_eq_getElem?_getD, List.getElem?_eq_getElem h]
  · rw [List.drop_eq_nil_of_le (by omega), List.drop_eq_nil_of_le (by omega)]
    simp [List.getD_eq_getElem?_getD, List.getElem?_eq_none (Nat.le_of_not_lt h), val]
theorem val_take_getD (l : List Nat) (i : Nat) : val (l.take (i + 1)) = val (l.take i) + 4294967296 ^ i * l.getD i 0 := by
  by_cases h : i < l.length
  · rw [val_take_succ h]; simp [List.getD_eq_getElem?_getD, List.getElem?_eq_getElem h]
  · rw [List.take_of_length_le (by omega), List.take_of_length_le (by omega)]
    simp [List.getD_eq_getElem?_getD, List.getElem?_eq_none (Nat.le_of_not_lt h)]

/-- The limbs of a natural, no limb 0 at the end. -/
def limbs (n : Nat) : List Nat := if h : n = 0 then [] else n % 4294967296 :: limbs (n / 4294967296)
termination_by n
decreasing_by omega

theorem limbs_zero : limbs 0 = [] := by rw [limbs]; simp
theorem limbs_pos {n : Nat} (h : n ≠ 0) : limbs n = n % 4294967296 :: limbs (n / 4294967296) := by rw [limbs]; simp [h]
theorem val_limbs (n : Nat) : val (limbs n) = n := by
  induction n using Nat.strongRecOn with
  | _ n ih =>
    by_cases h : n = 0
    · subst h; rw [limbs_zero]; rfl
    · rw [limbs_pos h, val, ih (n / 4294967296) (by omega)]; omega
theorem WL_limbs (n : Nat) : WL (limbs n) := by
  induction n using Nat.strongRecOn with
  | _ n ih =>
    by_cases h : n = 0
    · subst h; rw [limbs_zero]; exact WL.nil
    · rw [limbs_pos h]; exact WL.cons (Nat.mod_lt _ (by omega)) (ih _ (by omega))
/-- No limb 0 at the end. -/
def Canon (l : List Nat) : Prop := l = [] ∨ l.getD (l.length - 1) 0 ≠ 0
theorem limbs_of_canon {l : List Nat} (h : WL l) (hc : Canon l) : l = limbs (val l) := by
  induction l with
  | nil => simp [val, limbs_zero]
  | cons x r ih =>
    have hx := h.head
    have hr : Canon r := by
      rcases hc with hc | hc
      · cases hc
      · cases r with
        | nil => exact .inl rfl
        | cons y q => right; simpa using hc
    have hr' := ih h.tail hr
    by_cases hz : val (x :: r) = 0
    · exfalso
      have h1 : x = 0 := by simp only [val] at hz; omega
      have h2 : val r = 0 := by simp only [val] at hz; omega
      rw [h2, limbs_zero] at hr'
      subst hr'
      rcases hc with hc | hc
      · cases hc
      · simp [h1] at hc
    · rw [limbs_pos hz]
      have e1 : val (x :: r) % 4294967296 = x := by simp only [val]; omega
      have e2 : val (x :: r) / 4294967296 = val r := by simp only [val]; omega
      rw [e1, e2, ← hr']
theorem canon_limbs (n : Nat) : Canon (limbs n) := by
  induction n using Nat.strongRecOn with
  | _ n ih =>
    by_cases h : n = 0
    · subst h; rw [limbs_zero]; exact .inl rfl
    · right
      rw [limbs_pos h]
      by_cases h2 : n / 4294967296 = 0
      · rw [h2, limbs_zero]; simp; omega
      · rcases ih (n / 4294967296) (by omega) with h3 | h3
        · exfalso; rw [limbs_pos h2] at h3; cases h3
        · rw [limbs_pos h2] at h3 ⊢; simpa using h3
theorem limbs_eq_nil {n : Nat} : limbs n = [] ↔ n = 0 := by
  constructor
  · intro h; by_cases hn : n = 0
    · exact hn
    · rw [limbs_pos hn] at h; cases h
  · rintro rfl; exact limbs_zero
theorem limbs_len {n k : Nat} (h : n < 4294967296 ^ k) : (limbs n).length ≤ k := by
  induction k generalizing n with
  | zero => have : n = 0 := by simpa using h
            subst this; simp [limbs_zero]
  | succ k ih =>
    by_cases hn : n = 0
    · subst hn; simp [limbs_zero]
    · rw [limbs_pos hn, List.length_cons]
      have := ih (n := n / 4294967296) (by rw [Nat.pow_succ] at h; exact Nat.div_lt_of_lt_mul (by rw [Nat.mul_comm]; exact h))
      omega
theorem limbs_len_le {l : List Nat} (h : WL l) : (limbs (val l)).length ≤ l.length := limbs_len (val_lt h)
theorem limbs_len_pos {n : Nat} (h : n ≠ 0) : 0 < (limbs n).length := by rw [limbs_pos h]; simp
theorem limbs_lt_pow (n : Nat) : n < 4294967296 ^ (limbs n).length := by
  have := val_lt (WL_limbs n); rwa [val_limbs] at this
theorem limbs_inj {m n : Nat} (h : limbs m = limbs n) : m = n := by rw [← val_limbs m, h, val_limbs]
theorem limbs_ge_pow {n : Nat} (h : n ≠ 0) : 4294967296 ^ ((limbs n).length - 1) ≤ n := by
  have hc := canon_limbs n
  have hp := limbs_len_pos h
  rcases hc with hc | hc
  · rw [hc] at hp; simp at hp
  · generalize hl : limbs n = l at hc hp
    have hv : val l = n := by rw [← hl, val_limbs]
    have h1 := val_take_drop l (l.length - 1)
    have h2 := val_getD_drop l (l.length - 1)
    have h3 : (l.take (l.length - 1)).length = l.length - 1 := by simp
    rw [h3] at h1
    rw [← hv, h1]
    have : 1 ≤ val (l.drop (l.length - 1)) := by omega
    calc 4294967296 ^ (l.length - 1) = 4294967296 ^ (l.length - 1) * 1 := by simp
      _ ≤ 4294967296 ^ (l.length - 1) * val (l.drop (l.length - 1)) := Nat.mul_le_mul_left _ this
      _ ≤ _ := Nat.le_add_left _ _
theorem limbs_len_mono {m n : Nat} (h : m ≤ n) : (limbs m).length ≤ (limbs n).length := limbs_len (Nat.lt_of_le_of_lt h (limbs_lt_pow n))
/-- Cut off at a limb 0: still of the same value. -/
theorem val_cut {l : List Nat} {n : Nat} (h : n + 1 ≤ l.length) (hz : l.getD n 0 = 0) : val (l.take n) = val (l.take (n + 1)) := by
  rw [val_take_getD, hz]; simp
theorem limbs_of_take {l : List Nat} {n : Nat} (h : WL l) (hn : n ≤ l.length) (hv : val (l.take n) = val l) (hc : n = 0 ∨ l.getD (n - 1) 0 ≠ 0) : l.take n = limbs (val l) := by
  rw [← hv]
  refine limbs_of_canon (h.take n) ?_
  rcases hc with rfl | hc
  · exact .inl (by simp)
  · by_cases h0 : n = 0
    · exact .inl (by simp [h0])
    right
    rw [List.length_take, Nat.min_eq_left hn]
    simp only [List.getD_eq_getElem?_getD] at hc ⊢
    rw [List.getElem?_take_of_lt (by omega)]; exact hc

/-- A natural as data. -/
def ul (l : List Nat) : List DV := l.map fun (x : Nat) => .int .u32 (x : Int)
def nl (l : List Nat) : DV := .list l.length (ul l)
def nn (n : Nat) : DV := nl (limbs n)
theorem ul_len (l : List Nat) : (ul l).length = l.length := by simp [ul]
theorem ul_get (l : List Nat) (i : Nat) : (ul l)[i]? = (l[i]?).map fun (x : Nat) => DV.int .u32 (x : Int) := by simp [ul]
theorem ul_getD {l : List Nat} {i : Nat} (h : i < l.length) : (ul l)[i]? = some (.int .u32 ((l.getD i 0 : Nat) : Int)) := by
  simp [ul, List.getD_eq_getElem?_getD, List.getElem?_eq_getElem h]
theorem ul_take (l : List Nat) (n : Nat) : (ul l).take n = ul (l.take n) := by simp [ul]
theorem ul_drop (l : List Nat) (n : Nat) : (ul l).drop n = ul (l.drop n) := by simp [ul]
theorem ul_append (a b : List Nat) : ul a ++ ul b = ul (a ++ b) := by simp [ul]
theorem ul_set (l : List Nat) (i x : Nat) : (ul l).set i (.int .u32 (x : Int)) = ul (l.set i x) := by simp [ul, List.map_set]
theorem nl_nil : nl [] = .list 0 [] := rfl

end Go.Px.Na
/- Nk: the guess of a quotient's digit (Knuth): plain facts on naturals. -/
set_option linter.unusedSimpArgs false
set_option linter.unusedVariables false
namespace Go.Px.Na

/-- The first guess is not too low. -/
theorem knuth_first {U V v1 top P low vl : Nat} (hU : U = top * P + low) (hlow : low < P) (hV : V = v1 * P + vl) (hv1 : 0 < v1) (hP : 0 < P) : U / V ≤ top / v1 := by
  have hV0 : 0 < V := by rw [hV]; have := Nat.mul_pos hv1 hP; omega
  rw [Nat.le_div_iff_mul_le hv1]
  have h1 : U / V * V ≤ U := Nat.div_mul_le_self U V
  have h2 : U / V * (v1 * P) ≤ U / V * V := Nat.mul_le_mul_left _ (by omega)
  have h3 : (U / V * v1) * P < (top + 1) * P := by
    rw [Nat.mul_assoc, Nat.add_mul, Nat.one_mul]; omega
  exact Nat.lt_succ_iff.1 (Nat.lt_of_mul_lt_mul_right h3)

/-- A guess that the test finds too high is too high. -/
theorem knuth_down {U V g t2 w2 P low vl : Nat} (hU : U = t2 * P + low) (hlow : low < P) (hV : V = w2 * P + vl) (h : t2 < g * w2) : U < g * V := by
  have h1 : (t2 + 1) * P ≤ g * w2 * P := Nat.mul_le_mul_right _ h
  have h2 : g * (w2 * P) ≤ g * V := Nat.mul_le_mul_left _ (by omega)
  rw [Nat.add_mul, Nat.one_mul] at h1
  rw [Nat.mul_assoc] at h1
  omega

/-- A guess that the test lets go is too high by one at most. -/
theorem knuth_up {U V g t2 w2 P low vl : Nat} (hU : U = t2 * P + low) (hV : V = w2 * P + vl) (hvl : vl < P) (hg : g < 4294967296) (hVB : 4294967296 * P ≤ V) (h : g * w2 ≤ t2) : g * V < U + V := by
  have h1 : g * w2 * P ≤ t2 * P := Nat.mul_le_mul_right _ h
  have h2 : g * V = g * w2 * P + g * vl := by rw [hV, Nat.mul_add, Nat.mul_assoc]
  have h3 : g * vl < 4294967296 * P := Nat.mul_lt_mul'' hg hvl
  omega

theorem lt_of_div_lt {U V g : Nat} (hV : 0 < V) (h : U < g * V) : U / V < g := (Nat.div_lt_iff_lt_mul hV).2 h
theorem le_succ_div {U V g : Nat} (hV : 0 < V) (h : g * V < U + V) : g ≤ U / V + 1 := by
  have h1 : U < (U / V + 1) * V := by rw [Nat.mul_comm]; exact Nat.lt_mul_div_succ U hV
  have h2 : g * V < (U / V + 2) * V := by
    rw [Nat.add_mul] at h1 ⊢; omega
  exact Nat.lt_succ_iff.1 (Nat.lt_of_mul_lt_mul_right h2)

/-- The greatest whole number whose square is not above. -/
def isq (n : Nat) : Nat := if h : n = 0 then 0 else
  let r := isq (n / 4)
  if (2 * r + 1) * (2 * r + 1) ≤ n then 2 * r + 1 else 2 * r
termination_by n
decreasing_by omega

theorem isq_spec (n : Nat) : isq n * isq n ≤ n ∧ n < (isq n + 1) * (isq n + 1) := by
  induction n using Nat.strongRecOn with
  | _ n ih =>
    rw [isq]
    split
    · rename_i h; subst h; simp
    · rename_i h
      obtain ⟨h1, h2⟩ := ih (n / 4) (by omega)
      generalize isq (n / 4) = r at h1 h2 ⊢
      simp only
      have e : (r + 1) * (r + 1) = r * r + 2 * r + 1 := by grind
      rw [e] at h2
      split
      · rename_i hle
        refine ⟨hle, ?_⟩
        have e3 : (2 * r + 1 + 1) * (2 * r + 1 + 1) = 4 * (r * r) + 8 * r + 4 := by grind
        rw [e3]; omega
      · rename_i hle
        have e3 : 2 * r * (2 * r) = 4 * (r * r) := by grind
        rw [e3]; exact ⟨by omega, by omega⟩
theorem isq_unique {n x : Nat} (h1 : x * x ≤ n) (h2 : n < (x + 1) * (x + 1)) : x = isq n := by
  obtain ⟨h3, h4⟩ := isq_spec n
  generalize isq n = y at h3 h4 ⊢
  rcases Nat.lt_trichotomy x y with h | h | h
  · exfalso
    have := Nat.mul_le_mul (show x + 1 ≤ y from h) (show x + 1 ≤ y from h)
    omega
  · exact h
  · exfalso
    have := Nat.mul_le_mul (show y + 1 ≤ x from h) (show y + 1 ≤ x from h)
    omega
/-- Newton's step does not fall below the root. -/
theorem newton_ge {n x : Nat} (hx : 0 < x) : isq n ≤ (x + n / x) / 2 := by
  obtain ⟨h1, _⟩ := isq_spec n
  generalize isq n = s at h1 ⊢
  rw [Nat.le_div_iff_mul_le (by omega)]
  -- s*s ≤ n, so n / x ≥ s*s / x, and (2s - x) x ≤ s*s
  rcases Nat.lt_or_ge (2 * s) x with h | h
  · exact Nat.le_trans (by omega : s * 2 ≤ x) (Nat.le_add_right _ _)
  · have : 2 * s - x ≤ n / x := by
      rw [Nat.le_div_iff_mul_le hx]
      refine Nat.le_trans ?_ h1
      obtain ⟨d, hd⟩ : ∃ d, 2 * s = x + d := ⟨2 * s - x, by omega⟩
      have e : 2 * s - x = d := by omega
      rw [e]
      -- d * x ≤ s * s where 2 s = x + d
      have h4 : 4 * (d * x) ≤ 4 * (s * s) := by
        have e1 : 4 * (s * s) = (x + d) * (x + d) := by rw [← hd]; grind
        rw [e1]
        rcases Nat.le_total d x with hle | hle
        · obtain ⟨c, rfl⟩ := Nat.exists_eq_add_of_le hle
          have : (d + c + d) * (d + c + d) = 4 * (d * (d + c)) + c * c := by grind
          omega
        · obtain ⟨c, rfl⟩ := Nat.exists_eq_add_of_le hle
          have : (x + (x + c)) * (x + (x + c)) = 4 * ((x + c) * x) + c * c := by grind
          omega
      omega
    omega
/-- Where Newton's step falls no more it is the root. -/
theorem newton_end {n x : Nat} (hx : 0 < x) (hge : isq n ≤ x) (h : x ≤ (x + n / x) / 2) : x = isq n := by
  have h1 : x ≤ n / x := by omega
  have h2 : x * x ≤ n := (Nat.le_div_iff_mul_le hx).1 h1
  obtain ⟨h3, h4⟩ := isq_spec n
  generalize isq n = s at h3 h4 hge ⊢
  rcases Nat.lt_or_ge s x with h | h
  · exfalso
    have := Nat.mul_le_mul (show s + 1 ≤ x from h) (show s + 1 ≤ x from h)
    omega
  · omega

end Go.Px.Na

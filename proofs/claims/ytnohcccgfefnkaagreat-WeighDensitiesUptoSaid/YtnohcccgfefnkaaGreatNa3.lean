/- Na1: naturals as lists of limbs: plain facts. -/
import Derived.Test.YtnohcccgfefnkaaGreatPx1
set_option linter.unusedSimpArgs false
set_option linter.unusedVariables false
namespace Go.Px.Na

def val : List Nat → Nat
  | [] => 0
  | x :: r => x + 4294967296 * val r
def WL (l : List Nat) : Prop := ∀ x ∈ l, x < 4294967296

theorem WL.nil : WL [] := fun _ h => by cases h
theorem WL.cons {x : Nat} {l : List Nat} (h : x < 4294967296) (k : WL l) : WL (x :: l) := fun y hy => by
  rcases List.mem_cons.1 hy with rfl | hy
  · exact h
  · exact k y hy
theorem WL.head {x : Nat} {l : List Nat} (h : WL (x :: l)) : x < 4294967296 := h x (by simp)
theorem WL.tail {x : Nat} {l : List Nat} (h : WL (x :: l)) : WL l := fun y hy => h y (by simp [hy])
theorem WL.append {a b : List Nat} (h : WL a) (k : WL b) : WL (a ++ b) := fun y hy => by
  rcases List.mem_append.1 hy with hy | hy
  · exact h y hy
  · exact k y hy
theorem WL.take {a : List Nat} (h : WL a) (n : Nat) : WL (a.take n) := fun y hy => h y (List.mem_of_mem_take hy)
theorem WL.drop {a : List Nat} (h : WL a) (n : Nat) : WL (a.drop n) := fun y hy => h y (List.mem_of_mem_drop hy)
theorem WL.get {a : List Nat} (h : WL a) {i : Nat} (hi : i < a.length) : a[i] < 4294967296 := h _ (List.getElem_mem hi)
theorem WL.getD {a : List Nat} (h : WL a) (i : Nat) : a.getD i 0 < 4294967296 := by
  simp only [List.getD_eq_getElem?_getD]
  by_cases hi : i < a.length
  · simpa [List.getElem?_eq_getElem hi] using h.get hi
  · simp [List.getElem?_eq_none (Nat.le_of_not_lt hi)]
theorem WL.set {a : List Nat} (h : WL a) {i x : Nat} (hx : x < 4294967296) : WL (a.set i x) := fun y hy => by
  rcases List.mem_or_eq_of_mem_set hy with hy | rfl
  · exact h y hy
  · exact hx
theorem WL.rep (n : Nat) : WL (List.replicate n 0) := fun y hy => by
  have := (List.mem_replicate.1 hy).2; omega
theorem WL.single {x : Nat} (h : x < 4294967296) : WL [x] := WL.cons h WL.nil

theorem val_append (a b : List Nat) : val (a ++ b) = val a + 4294967296 ^ a.length * val b := by
  induction a with
  | nil => simp [val]
  | cons x r ih => simp only [List.cons_append, val, ih, List.length_cons, Nat.pow_succ]; grind
theorem val_single (x : Nat) : val [x] = x := by simp [val]
theorem val_snoc (a : List Nat) (x : Nat) : val (a ++ [x]) = val a + 4294967296 ^ a.length * x := by rw [val_append, val_single]
theorem val_rep (n : Nat) : val (List.replicate n 0) = 0 := by
  induction n with
  | zero => rfl
  | succ n ih => simp [List.replicate_succ, val, ih]
theorem val_take_drop (a : List Nat) (n : Nat) : val a = val (a.take n) + 4294967296 ^ (a.take n).length * val (a.drop n) := by
  rw [← val_append, List.take_append_drop]
theorem val_lt {l : List Nat} (h : WL l) : val l < 4294967296 ^ l.length := by
  induction l with
  | nil => simp [val]
  | cons x r ih =>
    have h1 := ih h.tail
    have h2 := h.head
    simp only [val, List.length_cons, Nat.pow_succ]
    have : 4294967296 * (val r + 1) ≤ 4294967296 * 4294967296 ^ r.length := Nat.mul_le_mul_left _ h1
    omega
theorem val_take_succ {l : List Nat} {i : Nat} (h : i < l.length) : val (l.take (i + 1)) = val (l.take i) + 4294967296 ^ i * l[i] := by
  rw [List.take_succ_eq_append_getElem h, val_append]
  simp [val, Nat.min_eq_left (Nat.le_of_lt h)]
theorem val_drop {l : List Nat} {i : Nat} (h : i < l.length) : val (l.drop i) = l[i] + 4294967296 * val (l.drop (i + 1)) := by
  rw [List.drop_eq_getElem_cons h]; rfl
theorem val_take_all {l : List Nat} {n : Nat} (h : l.length ≤ n) : val (l.take n) = val l := by rw [List.take_of_length_le h]
theorem val_getD_drop (l : List Nat) (i : Nat) : val (l.drop i) = l.getD i 0 + 4294967296 * val (l.drop (i + 1)) := by
  by_cases h : i < l.length
  · rw [val_drop h]; simp [List.getD_eq_getElem?_getD, List.getElem?_eq_getElem h]
  · rw [List.drop_eq_nil_of_le (by omega), List.drop_eq_nil_of_le (by omega)]
    simp [List.getD_eq_getElem?_getD, List.getElem?_eq_none (Nat.le_of_not_lt h), val]
theorem val_take_getD (l : List Nat) (i : Nat) : val (l.take (i + 1)) = val (l.take i) + 4294967296 ^ i * l.getD i 0 := by
  by_cases h : i < l.length
  · rw [val_take_succ h]; simp [List.getD_eq_getElem?_getD, List.getElem?_eq_getElem h]
  · rw [List.take_of_length_le (by omega), List.take_of_length_le (by omega)]
    simp [List.getD_eq_getElem?_getD, List.getElem?_eq_none (Nat.le_of_not_lt h)]

/-- The limbs of a natural, no limb 0 at the end. -/
def limbs (n : Nat) : List Nat := if h : n = 0 then [] else n % 4294967296 :: limbs (n / 4294967296)
termination_by n
decreasing_by omega

theorem limbs_zero : limbs 0 = [] := by rw [limbs]; simp
theorem limbs_pos {n : Nat} (h : n ≠ 0) : limbs n = n % 4294967296 :: limbs (n / 4294967296) := by rw [limbs]; simp [h]
theorem val_limbs (n : Nat) : val (limbs n) = n := by
  induction n using Nat.strongRecOn with
  | _ n ih =>
    by_cases h : n = 0
    · subst h; rw [limbs_zero]; rfl
    · rw [limbs_pos h, val, ih (n / 4294967296) (by omega)]; omega
theorem WL_limbs (n : Nat) : WL (limbs n) := by
  induction n using Nat.strongRecOn with
  | _ n ih =>
    by_cases h : n = 0
    · subst h; rw [limbs_zero]; exact WL.nil
    · rw [limbs_pos h]; exact WL.cons (Nat.mod_lt _ (by omega)) (ih _ (by omega))
/-- No limb 0 at the end. -/
def Canon (l : List Nat) : Prop := l = [] ∨ l.getD (l.length - 1) 0 ≠ 0
theorem limbs_of_canon {l : List Nat} (h : WL l) (hc : Canon l) : l = limbs (val l) := by
  induction l with
  | nil => simp [val, limbs_zero]
  | cons x r ih =>
    have hx := h.head
    have hr : Canon r := by
      rcases hc with hc | hc
      · cases hc
      · cases r with
        | nil => exact .inl rfl
        | cons y q => right; simpa using hc
    have hr' := ih h.tail hr
    by_cases hz : val (x :: r) = 0
    · exfalso
      have h1 : x = 0 := by simp only [val] at hz; omega
      have h2 : val r = 0 := by simp only [val] at hz; omega
      rw [h2, limbs_zero] at hr'
      subst hr'
      rcases hc with hc | hc
      · cases hc
      · simp [h1] at hc
    · rw [limbs_pos hz]
      have e1 : val (x :: r) % 4294967296 = x := by simp only [val]; omega
      have e2 : val (x :: r) / 4294967296 = val r := by simp only [val]; omega
      rw [e1, e2, ← hr']
theorem canon_limbs (n : Nat) : Canon (limbs n) := by
  induction n using Nat.strongRecOn with
  | _ n ih =>
    by_cases h : n = 0
    · subst h; rw [limbs_zero]; exact .inl rfl
    · right
      rw [limbs_pos h]
      by_cases h2 : n / 4294967296 = 0
      · rw [h2, limbs_zero]; simp; omega
      · rcases ih (n / 4294967296) (by omega) with h3 | h3
        · exfalso; rw [limbs_pos h2] at h3; cases h3
        · rw [limbs_pos h2] at h3 ⊢; simpa using h3
theorem limbs_eq_nil {n : Nat} : limbs n = [] ↔ n = 0 := by
  constructor
  · intro h; by_cases hn : n = 0
    · exact hn
    · rw [limbs_pos hn] at h; cases h
  · rintro rfl; exact limbs_zero
theorem limbs_len {n k : Nat} (h : n < 4294967296 ^ k) : (limbs n).length ≤ k := by
  induction k generalizing n with
  | zero => have : n = 0 := by simpa using h
            subst this; simp [limbs_zero]
  | succ k ih =>
    by_cases hn : n = 0
    · subst hn; simp [limbs_zero]
    · rw [limbs_pos hn, List.length_cons]
      have := ih (n := n / 4294967296) (by rw [Nat.pow_succ] at h; exact Nat.div_lt_of_lt_mul (by rw [Nat.mul_comm]; exact h))
      omega
theorem limbs_len_le {l : List Nat} (h : WL l) : (limbs (val l)).length ≤ l.length := limbs_len (val_lt h)
theorem limbs_len_pos {n : Nat} (h : n ≠ 0) : 0 < (limbs n).length := by rw [limbs_pos h]; simp
theorem limbs_lt_pow (n : Nat) : n < 4294967296 ^ (limbs n).length := by
  have := val_lt (WL_limbs n); rwa [val_limbs] at this
theorem limbs_ge_pow {n : Nat} (h : n ≠ 0) : 4294967296 ^ ((limbs n).length - 1) ≤ n := by
  have hc := canon_limbs n
  have hp := limbs_len_pos h
  rcases hc with hc | hc
  · rw [hc] at hp; simp at hp
  · generalize hl : limbs n = l at hc hp
    have hv : val l = n := by rw [← hl, val_limbs]
    have h1 := val_take_drop l (l.length - 1)
    have h2 := val_getD_drop l (l.length - 1)
    have h3 : (l.take (l.length - 1)).length = l.length - 1 := by simp
    rw [h3] at h1
    rw [← hv, h1]
    have : 1 ≤ val (l.drop (l.length - 1)) := by omega
    calc 4294967296 ^ (l.length - 1) = 4294967296 ^ (l.length - 1) * 1 := by simp
      _ ≤ 4294967296 ^ (l.length - 1) * val (l.drop (l.length - 1)) := Nat.mul_le_mul_left _ this
      _ ≤ _ := Nat.le_add_left _ _
theorem limbs_len_mono {m n : Nat} (h : m ≤ n) : (limbs m).length ≤ (limbs n).length := limbs_len (Nat.lt_of_le_of_lt h (limbs_lt_pow n))
/-- Cut off at a limb 0: still of the same value. -/
theorem val_cut {l : List Nat} {n : Nat} (h : n + 1 ≤ l.length) (hz : l.getD n 0 = 0) : val (l.take n) = val (l.take (n + 1)) := by
  rw [val_take_getD, hz]; simp
theorem limbs_of_take {l : List Nat} {n : Nat} (h : WL l) (hn : n ≤ l.length) (hv : val (l.take n) = val l) (hc : n = 0 ∨ l.getD (n - 1) 0 ≠ 0) : l.take n = limbs (val l) := by
  rw [← hv]
  refine limbs_of_canon (h.take n) ?_
  rcases hc with rfl | hc
  · exact .inl (by simp)
  · by_cases h0 : n = 0
    · exact .inl (by simp [h0])
    right
    rw [List.length_take, Nat.min_eq_left hn]
    simp only [List.getD_eq_getElem?_getD] at hc ⊢
    rw [List.getElem?_take_of_lt (by omega)]; exact hc

/-- A natural as data. -/
def ul (l : List Nat) : List DV := l.map fun (x : Nat) => .int .u32 (x : Int)
def nl (l : List Nat) : DV := .list l.length (ul l)
def nn (n : Nat) : DV := nl (limbs n)
theorem ul_len (l : List Nat) : (ul l).length = l.length := by simp [ul]
theorem ul_get (l : List Nat) (i : Nat) : (ul l)[i]? = (l[i]?).map fun (x : Nat) => DV.int .u32 (x : Int) := by simp [ul]
theorem ul_getD {l : List Nat} {i : Nat} (h : i < l.length) : (ul l)[i]? = some (.int .u32 ((l.getD i 0 : Nat) : Int)) := by
  simp [ul, List.getD_eq_getElem?_getD, List.getElem?_eq_getElem h]
theorem ul_take (l : List Nat) (n : Nat) : (ul l).take n = ul (l.take n) := by simp [ul]
theorem ul_drop (l : List Nat) (n : Nat) : (ul l).drop n = ul (l.drop n) := by simp [ul]
theorem ul_append (a b : List Nat) : ul a ++ ul b = ul (a ++ b) := by simp [ul]
theorem ul_set (l : List Nat) (i x : Nat) : (ul l).set i (.int .u32 (x : Int)) = ul (l.set i x) := by simp [ul, List.map_set]
end Go.Px.Na
/- Nk: the guess of a quotient's digit (Knuth): plain facts on naturals. -/
set_option linter.unusedSimpArgs false
set_option linter.unusedVariables false
namespace Go.Px.Na

/-- The first guess is not too low. -/
theorem knuth_first {U V v1 top P low vl : Nat} (hU : U = top * P + low) (hlow : low < P) (hV : V = v1 * P + vl) (hv1 : 0 < v1) (hP : 0 < P) : U / V ≤ top / v1 := by
  have hV0 : 0 < V := by rw [hV]; have := Nat.mul_pos hv1 hP; omega
  rw [Nat.le_div_iff_mul_le hv1]
  have h1 : U / V * V ≤ U := Nat.div_mul_le_self U V
  have h2 : U / V * (v1 * P) ≤ U / V * V := Nat.mul_le_mul_left _ (by omega)
  have h3 : (U / V * v1) * P < (top + 1) * P := by
    rw [Nat.mul_assoc, Nat.add_mul, Nat.one_mul]; omega
  exact Nat.lt_succ_iff.1 (Nat.lt_of_mul_lt_mul_right h3)

/-- A guess that the test finds too high is too high. -/
theorem knuth_down {U V g t2 w2 P low vl : Nat} (hU : U = t2 * P + low) (hlow : low < P) (hV : V = w2 * P + vl) (h : t2 < g * w2) : U < g * V := by
  have h1 : (t2 + 1) * P ≤ g * w2 * P := Nat.mul_le_mul_right _ h
  have h2 : g * (w2 * P) ≤ g * V := Nat.mul_le_mul_left _ (by omega)
  rw [Nat.add_mul, Nat.one_mul] at h1
  rw [Nat.mul_assoc] at h1
  omega

/-- A guess that the test lets go is too high by one at most. -/
theorem knuth_up {U V g t2 w2 P low vl : Nat} (hU : U = t2 * P + low) (hV : V = w2 * P + vl) (hvl : vl < P) (hg : g < 4294967296) (hVB : 4294967296 * P ≤ V) (h : g * w2 ≤ t2) : g * V < U + V := by
  have h1 : g * w2 * P ≤ t2 * P := Nat.mul_le_mul_right _ h
  have h2 : g * V = g * w2 * P + g * vl := by rw [hV, Nat.mul_add, Nat.mul_assoc]
  have h3 : g * vl < 4294967296 * P := Nat.mul_lt_mul'' hg hvl
  omega

theorem lt_of_div_lt {U V g : Nat} (hV : 0 < V) (h : U < g * V) : U / V < g := (Nat.div_lt_iff_lt_mul hV).2 h
theorem le_succ_div {U V g : Nat} (hV : 0 < V) (h : g * V < U + V) : g ≤ U / V + 1 := by
  have h1 : U < (U / V + 1) * V := by rw [Nat.mul_comm]; exact Nat.lt_mul_div_succ U hV
  have h2 : g * V < (U / V + 2) * V := by
    rw [Nat.add_mul] at h1 ⊢; omega
  exact Nat.lt_succ_iff.1 (Nat.lt_of_mul_lt_mul_right h2)

end Go.Px.Na
/- Na2: what the primitives tell of lists of limbs. -/
set_option linter.unusedSimpArgs false
set_option linter.unusedVariables false
namespace Go.Px.Na

theorem den_len (l : List Nat) : Prim.den .len [nl l] = some (.int .i64 (l.length : Int)) := rfl
theorem den_inb {l : List Nat} {k : IntKind} {i : Int} (h0 : 0 ≤ i) (h1 : i < l.length) : Prim.den (.inb 1) [nl l, .int k i] = some (.bool true) := by
  simp only [nl, Prim.den, ul_len]
  rw [if_pos ⟨h0, h1, by omega⟩]
theorem den_get {l : List Nat} {k : IntKind} {i : Int} (h0 : 0 ≤ i) (h1 : i < l.length) : Prim.den (.get 1 0) [nl l, .int k i] = some (.int .u32 ((l.getD i.toNat 0 : Nat) : Int)) := by
  simp only [nl, Prim.den]
  rw [if_pos ⟨h0, h1⟩, show i.toNat * 1 + 0 = i.toNat by omega, ul_getD (by omega)]
theorem den_slc {l : List Nat} {k k' : IntKind} {lo hi : Int} (h0 : 0 ≤ lo) (h1 : lo ≤ hi) (h2 : hi ≤ l.length) : Prim.den (.slc 1) [nl l, .int k lo, .int k' hi] = some (nl ((l.drop lo.toNat).take (hi - lo).toNat)) := by
  simp only [nl, Prim.den]
  rw [if_pos ⟨h0, h1, h2, by simp [ul_len]⟩]
  simp only [Nat.mul_one, ul_drop, ul_take, List.length_take, List.length_drop]
  congr 2
  omega
theorem den_cut {l : List Nat} {k k' : IntKind} {lo hi : Int} (h0 : 0 ≤ lo) (h1 : lo ≤ hi) (h2 : hi ≤ l.length) : Prim.den (.cut 1) [nl l, .int k lo, .int k' hi] = some (.int .i64 (hi - lo)) := by
  simp only [nl, Prim.den]
  rw [if_pos ⟨h0, h1, h2, by simp [ul_len]⟩]
theorem den_lt0 {k k' : IntKind} {i n : Int} (h0 : 0 ≤ i) (h1 : i < n) : Prim.den .lt0 [.int k i, .int k' n] = some (.bool true) := by
  simp only [Prim.den]; rw [if_pos ⟨h0, h1⟩]
theorem den_sum {k k' : IntKind} {i n : Int} : Prim.den .sum [.int k i, .int k' n] = some (.int .i64 (i + n)) := rfl
theorem den_app {a b : List Nat} (h : a.length + b.length ≤ 17592186044416) : Prim.den (.app 1 4) [nl a, nl b] = some (nl (a ++ b)) := by
  simp only [nl, Prim.den]
  rw [if_pos ⟨by simp [ul_len], by simp [ul_len], by omega⟩]
  simp [ul_append]
theorem den_app1 {a : List Nat} {x : Nat} (h : a.length + 1 ≤ 17592186044416) : Prim.den (.app 1 4) [nl a, nl [x]] = some (nl (a ++ [x])) := den_app (by simpa using h)
theorem den_app0 {b : List Nat} (h : b.length ≤ 17592186044416) : Prim.den (.app 1 4) [nl [], nl b] = some (nl b) := den_app (a := []) (by simpa using h)
theorem den_setl {l : List Nat} {k : IntKind} {i : Int} {x : Nat} (h0 : 0 ≤ i) (h1 : i < l.length) : Prim.den (.setl 1 0) [nl l, .int k i, .int .u32 (x : Int)] = some (nl (l.set i.toNat x)) := by
  simp only [nl, Prim.den]
  rw [if_pos ⟨h0, h1, by simp [ul_len]; omega⟩]
  simp [setAt, ul_set]
theorem den_make {n m : Int} (h0 : 0 ≤ n) (h1 : n ≤ m) (h2 : m ≤ 17592186044416) : Prim.den (.make 4) [.int .i64 n, .int .i64 m, .int .u32 0] = some (nl (List.replicate n.toNat 0)) := by
  simp only [Prim.den]
  rw [if_pos ⟨h0, h1, by omega⟩]
  simp only [nl, List.length_cons, List.length_nil, List.length_replicate]
  congr 2
  apply List.ext_getElem?
  intro j
  simp only [ul, List.map_replicate, List.getElem?_map]
  by_cases hj : j < n.toNat
  · rw [List.getElem?_range (by omega), List.getElem?_replicate]
    simp [hj, Nat.mod_one]
  · simp [hj]
theorem den_mk1 (x : Nat) : Prim.den (.mk 1) [.int .u32 (x : Int)] = some (nl [x]) := rfl
theorem den_mk2 (x y : Nat) : Prim.den (.mk 2) [.int .u32 (x : Int), .int .u32 (y : Int)] = some (nl [x, y]) := rfl
theorem den_mk0 : Prim.den (.mk 0) [] = some (nl []) := rfl

theorem wi64 {n : Int} (h0 : -9223372036854775808 ≤ n) (h1 : n < 9223372036854775808) : IntKind.i64.wrap n = n := by
  simp [IntKind.wrap, IntKind.bits, IntKind.signed]; omega
theorem wu64 {n : Int} (h0 : 0 ≤ n) (h1 : n < 18446744073709551616) : IntKind.u64.wrap n = n := by
  simp [IntKind.wrap, IntKind.bits, IntKind.signed]; omega
theorem wu32 {n : Int} (h0 : 0 ≤ n) (h1 : n < 4294967296) : IntKind.u32.wrap n = n := by
  simp [IntKind.wrap, IntKind.bits, IntKind.signed]; omega
theorem wu32' (n : Int) : IntKind.u32.wrap n = n % 4294967296 := by
  simp [IntKind.wrap, IntKind.bits, IntKind.signed]
theorem wu64' (n : Int) : IntKind.u64.wrap n = n % 18446744073709551616 := by
  simp [IntKind.wrap, IntKind.bits, IntKind.signed]

end Go.Px.Na
/- Na3: stepping through trees. -/
set_option linter.unusedSimpArgs false
set_option linter.unusedVariables false
namespace Go.Px.Na
variable {P : Program} {As : List (List DV → Prop)} {ρ : List DV} {Q : List AV → Prop}

theorem IRwp_prim {p : Prim} {args : List A} {k : IR} : IRwp P As ρ (.prim p args k) Q = ((p.den (args.map (A.ev ρ))).isSome = true ∧ IRwp P As (ρ ++ [(p.den (args.map (A.ev ρ))).getD (.bool false)]) k Q) := by
  rw [IRwp]
  apply propext
  constructor
  · rintro ⟨d, hd, h⟩; rw [hd]; exact ⟨rfl, h⟩
  · rintro ⟨hd, h⟩
    obtain ⟨d, hd'⟩ := Option.isSome_iff_exists.1 hd
    rw [hd'] at h; exact ⟨d, hd', h⟩
theorem call_step {g : FuncId} {args : List Arg} {shp : List Shp} {k : IR} {res : List AV} (h : PureCalls P g (args.map (Arg.ev ρ)) res) (hf : fitAll shp res = true) (hk : IRwp P As (ρ ++ flatAll res) k Q) : IRwp P As ρ (.call g args shp k) Q := by
  rw [IRwp]; exact ⟨res, h, hf, hk⟩
theorem ite_step {a : A} {x y : IR} {b : Prop} [Decidable b] (h : a.ev ρ = .bool (decide b)) (hx : b → IRwp P As ρ x Q) (hy : ¬b → IRwp P As ρ y Q) : IRwp P As ρ (.ite a x y) Q := by
  rw [IRwp]; exact ⟨decide b, h, fun hb => hx (by simpa using hb), fun hb => hy (by simpa using hb)⟩
theorem itb_step {a : A} {x y : IR} {b : Bool} (h : a.ev ρ = .bool b) (hx : b = true → IRwp P As ρ x Q) (hy : b = false → IRwp P As ρ y Q) : IRwp P As ρ (.ite a x y) Q := by
  rw [IRwp]; exact ⟨b, h, hx, hy⟩
theorem nilq_step {a : A} {k : IR} {n : Nat} {cells : List DV} (h : a.ev ρ = .list n cells) (hk : ∀ b, (b = true → cells = []) → IRwp P As (ρ ++ [.bool b]) k Q) : IRwp P As ρ (.nilq a k) Q := by
  rw [IRwp]; exact ⟨⟨n, cells, h⟩, fun b hb => hk b fun hb' => by obtain ⟨m, hm⟩ := hb hb'; rw [h] at hm; cases hm; rfl⟩
theorem ret_step {vals : List Arg} (h : Q (vals.map (Arg.ev ρ))) : IRwp P As ρ (.ret vals) Q := by rw [IRwp]; exact h
theorem jump_step {d : Nat} {vals : List A} {X : List DV → Prop} (h : As[d]? = some X) (hx : X (vals.map (A.ev ρ))) : IRwp P As ρ (.jump d vals) Q := by rw [IRwp]; exact ⟨X, h, hx⟩
theorem loop_step {inits : List A} {body : IR} (I : List DV → Prop) (μ : List DV → Nat) (h0 : I (inits.map (A.ev ρ))) (hl : ∀ ds, I ds → ds.length = inits.length)
    (hb : ∀ ds, I ds → IRwp P (As ++ [fun ds' => I ds' ∧ μ ds' < μ ds]) ds body Q) : IRwp P As ρ (.loop inits body) Q := by rw [IRwp]; exact ⟨I, μ, h0, hl, hb⟩
theorem join_step {inner after : IR} (J : List DV → Prop) (h1 : IRwp P (As ++ [J]) ρ inner Q) (h2 : ∀ ds, J ds → IRwp P As ds after Q) : IRwp P As ρ (.join inner after) Q := by rw [IRwp]; exact ⟨J, h1, h2⟩

/-- The loop's number, by a measure of what its variables hold. -/
def num (i : Nat) (ds : List DV) : Nat := match ds[i]? with | some (.int _ n) => n.toNat | _ => 0
theorem fa_nil : flatAll [] = [] := rfl
theorem fa_one {d : DV} {r : List AV} : flatAll (.one d :: r) = d :: flatAll r := by simp [flatAll, AV.flat]
theorem fa_agg {ds : List DV} {r : List AV} : flatAll (.agg ds :: r) = ds ++ flatAll r := by simp [flatAll, AV.flat]
theorem fa_own {s E n : Nat} {cells : List DV} {r : List AV} : flatAll (.own s E n cells :: r) = .list n cells :: flatAll r := by simp [flatAll, AV.flat]

theorem d_add64 {a b : Int} (h0 : -9223372036854775808 ≤ a + b) (h1 : a + b < 9223372036854775808) : Prim.den (.bin .add) [.int .i64 a, .int .i64 b] = some (.int .i64 (a + b)) := by simp [Prim.den, Prim.bin1, binInt, wi64 h0 h1]
theorem d_sub64 {a b : Int} (h0 : -9223372036854775808 ≤ a - b) (h1 : a - b < 9223372036854775808) : Prim.den (.bin .sub) [.int .i64 a, .int .i64 b] = some (.int .i64 (a - b)) := by simp [Prim.den, Prim.bin1, binInt, wi64 h0 h1]
theorem d_mul64 {a b : Int} (h0 : -9223372036854775808 ≤ a * b) (h1 : a * b < 9223372036854775808) : Prim.den (.bin .mul) [.int .i64 a, .int .i64 b] = some (.int .i64 (a * b)) := by simp [Prim.den, Prim.bin1, binInt, wi64 h0 h1]
theorem d_quo64 {a b : Int} (ha0 : 0 ≤ a) (ha : a < 9223372036854775808) (hb : 0 < b) : Prim.den (.bin .quo) [.int .i64 a, .int .i64 b] = some (.int .i64 (a / b)) := by
  have h1 : a / b ≤ a := Int.ediv_le_self b ha0
  have h2 : 0 ≤ a / b := Int.ediv_nonneg ha0 (by omega)
  simp only [Prim.den, Prim.bin1, binInt]
  rw [if_neg (by simp), if_neg (by omega), Int.tdiv_eq_ediv_of_nonneg ha0, wi64 (by omega) (by omega)]
theorem d_rem64 {a b : Int} (ha0 : 0 ≤ a) (hb : 0 < b) : Prim.den (.bin .rem) [.int .i64 a, .int .i64 b] = some (.int .i64 (a % b)) := by
  simp only [Prim.den, Prim.bin1, binInt]
  rw [if_neg (by simp), if_neg (by omega), Int.tmod_eq_emod_of_nonneg ha0]
theorem d_addu {a b : Int} (h0 : 0 ≤ a + b) (h1 : a + b < 18446744073709551616) : Prim.den (.bin .add) [.int .u64 a, .int .u64 b] = some (.int .u64 (a + b)) := by simp [Prim.den, Prim.bin1, binInt, wu64 h0 h1]
theorem d_subu {a b : Int} (h0 : 0 ≤ a - b) (h1 : a - b < 18446744073709551616) : Prim.den (.bin .sub) [.int .u64 a, .int .u64 b] = some (.int .u64 (a - b)) := by simp [Prim.den, Prim.bin1, binInt, wu64 h0 h1]
theorem d_mulu {a b : Int} (h0 : 0 ≤ a * b) (h1 : a * b < 18446744073709551616) : Prim.den (.bin .mul) [.int .u64 a, .int .u64 b] = some (.int .u64 (a * b)) := by simp [Prim.den, Prim.bin1, binInt, wu64 h0 h1]
theorem d_quou {a b : Int} (ha0 : 0 ≤ a) (ha : a < 18446744073709551616) (hb : 0 < b) : Prim.den (.bin .quo) [.int .u64 a, .int .u64 b] = some (.int .u64 (a / b)) := by
  have h1 : a / b ≤ a := Int.ediv_le_self b ha0
  have h2 : 0 ≤ a / b := Int.ediv_nonneg ha0 (by omega)
  simp only [Prim.den, Prim.bin1, binInt]
  rw [if_neg (by simp), if_neg (by omega), Int.tdiv_eq_ediv_of_nonneg ha0, wu64 (by omega) (by omega)]
theorem d_remu {a b : Int} (ha0 : 0 ≤ a) (hb : 0 < b) : Prim.den (.bin .rem) [.int .u64 a, .int .u64 b] = some (.int .u64 (a % b)) := by
  simp only [Prim.den, Prim.bin1, binInt]
  rw [if_neg (by simp), if_neg (by omega), Int.tmod_eq_emod_of_nonneg ha0]
theorem d_quo32 {a b : Int} (ha0 : 0 ≤ a) (ha : a < 4294967296) (hb : 0 < b) : Prim.den (.bin .quo) [.int .u32 a, .int .u32 b] = some (.int .u32 (a / b)) := by
  have h1 : a / b ≤ a := Int.ediv_le_self b ha0
  have h2 : 0 ≤ a / b := Int.ediv_nonneg ha0 (by omega)
  simp only [Prim.den, Prim.bin1, binInt]
  rw [if_neg (by simp), if_neg (by omega), Int.tdiv_eq_ediv_of_nonneg ha0, wu32 (by omega) (by omega)]
theorem d_add32 {a b : Int} : Prim.den (.bin .add) [.int .u32 a, .int .u32 b] = some (.int .u32 ((a + b) % 4294967296)) := by simp [Prim.den, Prim.bin1, binInt, wu32']
theorem d_sub32 {a b : Int} : Prim.den (.bin .sub) [.int .u32 a, .int .u32 b] = some (.int .u32 ((a - b) % 4294967296)) := by simp [Prim.den, Prim.bin1, binInt, wu32']
theorem d_lss {k : IntKind} {a b : Int} : Prim.den (.bin .lss) [.int k a, .int k b] = some (.bool (decide (a < b))) := by simp [Prim.den, Prim.bin1, binInt]
theorem d_leq {k : IntKind} {a b : Int} : Prim.den (.bin .leq) [.int k a, .int k b] = some (.bool (decide (a ≤ b))) := by simp [Prim.den, Prim.bin1, binInt]
theorem d_gtr {k : IntKind} {a b : Int} : Prim.den (.bin .gtr) [.int k a, .int k b] = some (.bool (decide (b < a))) := by simp [Prim.den, Prim.bin1, binInt]
theorem d_geq {k : IntKind} {a b : Int} : Prim.den (.bin .geq) [.int k a, .int k b] = some (.bool (decide (b ≤ a))) := by simp [Prim.den, Prim.bin1, binInt]
theorem d_eql {k : IntKind} {a b : Int} : Prim.den (.bin .eql) [.int k a, .int k b] = some (.bool (decide (a = b))) := by simp [Prim.den, Prim.bin1, binInt, Bool.beq_eq_decide_eq]
theorem d_neq {k : IntKind} {a b : Int} : Prim.den (.bin .neq) [.int k a, .int k b] = some (.bool (decide (a ≠ b))) := by
  simp only [Prim.den, Prim.bin1, binInt]; rw [if_neg (by simp)]; simp [bne, Bool.beq_eq_decide_eq]
theorem d_shr32 {k k' : IntKind} {a : Int} (hk : k.bits = 64) : Prim.den (.bin .shr) [.int k a, .int k' 32] = some (.int k (a / 4294967296)) := by
  simp only [Prim.den, Prim.bin1, binInt]
  rw [if_neg (by omega), hk, show (2 : Int) ^ (min (32 : Int).toNat 64) = 4294967296 by decide, Int.fdiv_eq_ediv_of_nonneg _ (by omega)]
theorem d_shl32 {k' : IntKind} {a : Int} (h0 : 0 ≤ a) (h1 : a < 4294967296) : Prim.den (.bin .shl) [.int .u64 a, .int k' 32] = some (.int .u64 (a * 4294967296)) := by
  simp only [Prim.den, Prim.bin1, binInt]
  rw [if_neg (by omega), show (2 : Int) ^ (min (32 : Int).toNat IntKind.u64.bits) = 4294967296 by decide, wu64 (by omega) (by omega)]
theorem d_conv32 {k : IntKind} {a : Int} : Prim.den (.conv .u32) [.int k a] = some (.int .u32 (a % 4294967296)) := by simp [Prim.den, wu32']
theorem d_conv32' {k : IntKind} {a : Int} (h0 : 0 ≤ a) (h1 : a < 4294967296) : Prim.den (.conv .u32) [.int k a] = some (.int .u32 a) := by simp [Prim.den, wu32 h0 h1]
theorem d_conv64 {k : IntKind} {a : Int} (h0 : 0 ≤ a) (h1 : a < 18446744073709551616) : Prim.den (.conv .u64) [.int k a] = some (.int .u64 a) := by simp [Prim.den, wu64 h0 h1]
theorem d_convi {k : IntKind} {a : Int} (h0 : -9223372036854775808 ≤ a) (h1 : a < 9223372036854775808) : Prim.den (.conv .i64) [.int k a] = some (.int .i64 a) := by simp [Prim.den, wi64 h0 h1]
theorem d_not {b : Bool} : Prim.den .not [.bool b] = some (.bool !b) := rfl
theorem d_beqf {a b : Bool} : Prim.den (.beq false) [.bool a, .bool b] = some (.bool (a == b)) := rfl
theorem d_beqt {a b : Bool} : Prim.den (.beq true) [.bool a, .bool b] = some (.bool !(a == b)) := rfl
theorem d_max {a b : Int} : Prim.den .max2 [.int .i64 a, .int .i64 b] = some (.int .i64 (if b > a then b else a)) := rfl
theorem ev_nil {ρ : List DV} : A.ev ρ .nil = nl [] := rfl

/-- What steps through primitives. -/
theorem STEP : type_of% (And.intro @IRwp_prim (And.intro @fa_nil (And.intro @fa_one (And.intro @fa_agg (And.intro @fa_own (And.intro @den_len (And.intro @den_inb (And.intro @den_get (And.intro @den_slc (And.intro @den_cut (And.intro @den_lt0 (And.intro @den_sum (And.intro @den_app1 (And.intro @den_app0 (And.intro @den_app (And.intro @den_setl (And.intro @den_make (And.intro @den_mk0 (And.intro @den_mk1 (And.intro @den_mk2 (And.intro @d_add64 (And.intro @d_sub64 (And.intro @d_mul64 (And.intro @d_quo64 (And.intro @d_rem64 (And.intro @d_addu (And.intro @d_subu (And.intro @d_mulu (And.intro @d_quo32 (And.intro @d_lss (And.intro @d_leq (And.intro @d_gtr (And.intro @d_geq (And.intro @d_eql (And.intro @d_neq (And.intro @d_shl32 (And.intro @d_conv32' (And.intro @d_conv64 (And.intro @d_convi (And.intro @d_not (And.intro @d_beqf (And.intro @d_beqt (And.intro @d_max (And.intro @ev_nil (@val_limbs))))))))))))))))))))))))))))))))))))))))))))) := And.intro @IRwp_prim (And.intro @fa_nil (And.intro @fa_one (And.intro @fa_agg (And.intro @fa_own (And.intro @den_len (And.intro @den_inb (And.intro @den_get (And.intro @den_slc (And.intro @den_cut (And.intro @den_lt0 (And.intro @den_sum (And.intro @den_app1 (And.intro @den_app0 (And.intro @den_app (And.intro @den_setl (And.intro @den_make (And.intro @den_mk0 (And.intro @den_mk1 (And.intro @den_mk2 (And.intro @d_add64 (And.intro @d_sub64 (And.intro @d_mul64 (And.intro @d_quo64 (And.intro @d_rem64 (And.intro @d_addu (And.intro @d_subu (And.intro @d_mulu (And.intro @d_quo32 (And.intro @d_lss (And.intro @d_leq (And.intro @d_gtr (And.intro @d_geq (And.intro @d_eql (And.intro @d_neq (And.intro @d_shl32 (And.intro @d_conv32' (And.intro @d_conv64 (And.intro @d_convi (And.intro @d_not (And.intro @d_beqf (And.intro @d_beqt (And.intro @d_max (And.intro @ev_nil (@val_limbs))))))))))))))))))))))))))))))))))))))))))))
theorem ev_v {ρ : List DV} {i : Nat} : A.ev ρ (.var i) = ρ.getD i (.bool false) := rfl
theorem ev_b {ρ : List DV} {x : Bool} : A.ev ρ (.bol x) = .bool x := rfl
theorem ev_i {ρ : List DV} {k : IntKind} {n : Int} : A.ev ρ (.int k n) = .int k n := rfl
/-- The same, and what else steps need. -/
theorem STP : type_of% (And.intro @STEP (And.intro @ev_v (And.intro @ev_b (And.intro @ev_i (And.intro (@List.map_cons A DV) (And.intro (@List.map_nil A DV) (And.intro (@List.getD_cons_zero DV) (And.intro (@List.getD_cons_zero Nat) (And.intro (@List.getD_cons_succ DV) (And.intro (@List.getD_cons_succ Nat) (And.intro (@List.cons_append DV) (And.intro (@List.cons_append Nat) (And.intro (@List.nil_append DV) (And.intro (@List.nil_append Nat) (And.intro (@List.append_nil DV) (And.intro (@List.append_nil Nat) (And.intro (@List.drop_zero DV) (And.intro (@List.drop_zero Nat) (And.intro (@Option.isSome_some DV) (And.intro (@Option.getD_some DV) (And.intro @true_and (And.intro @Int.sub_zero (And.intro @Int.toNat_zero (@Int.toNat_natCast)))))))))))))))))))))))) := And.intro @STEP (And.intro @ev_v (And.intro @ev_b (And.intro @ev_i (And.intro (@List.map_cons A DV) (And.intro (@List.map_nil A DV) (And.intro (@List.getD_cons_zero DV) (And.intro (@List.getD_cons_zero Nat) (And.intro (@List.getD_cons_succ DV) (And.intro (@List.getD_cons_succ Nat) (And.intro (@List.cons_append DV) (And.intro (@List.cons_append Nat) (And.intro (@List.nil_append DV) (And.intro (@List.nil_append Nat) (And.intro (@List.append_nil DV) (And.intro (@List.append_nil Nat) (And.intro (@List.drop_zero DV) (And.intro (@List.drop_zero Nat) (And.intro (@Option.isSome_some DV) (And.intro (@Option.getD_some DV) (And.intro @true_and (And.intro @Int.sub_zero (And.intro @Int.toNat_zero (@Int.toNat_natCast)))))))))))))))))))))))
end Go.Px.Na

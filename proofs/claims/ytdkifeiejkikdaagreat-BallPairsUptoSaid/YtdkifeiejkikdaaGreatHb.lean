/- Hb: chains of grids that are built; the points near to a place: plain. -/
import Derived.Test.YtdkifeiejkikdaaGreatGb
import Derived.Lib.SlicesCompact
set_option maxRecDepth 20000
set_option linter.unusedVariables false
set_option linter.unusedSimpArgs false
namespace Go.Px.Na
open Go.RowKit

/-! ### Chains -/
/-- From 'a' on the points of a chain, to its end. -/
def Cn (next : List Int) : Int → List Nat → Prop
  | a, [] => a = -1
  | a, p :: l => a = (p : Int) ∧ p < next.length ∧ Cn next (next.getD p 0) l
theorem Cn.app {next ys : List Int} : ∀ {l : List Nat} {a : Int}, Cn next a l → Cn (next ++ ys) a l
  | [], a, h => h
  | p :: l, a, h => by
    refine ⟨h.1, by rw [List.length_append]; have := h.2.1; omega, ?_⟩
    have e : (next ++ ys).getD p 0 = next.getD p 0 := by simp [List.getD_eq_getElem?_getD, List.getElem?_append_left h.2.1]
    rw [e]; exact Cn.app h.2.2
/-- The points of a slot, the last one first. -/
def chn (ss : List Int) (i : Nat) (s : Int) : List Nat := ((List.range i).filter fun p => decide (ss.getD p 0 = s)).reverse
theorem chn_succ {ss : List Int} {i : Nat} {s : Int} : chn ss (i + 1) s = if ss.getD i 0 = s then i :: chn ss i s else chn ss i s := by
  unfold chn
  rw [List.range_succ, List.filter_append, List.reverse_append]
  by_cases h : ss.getD i 0 = s
  · rw [if_pos h, List.filter_cons, if_pos (decide_eq_true h)]; rfl
  · rw [if_neg h, List.filter_cons, if_neg (by simpa using h)]; rfl
theorem chn_mem {ss : List Int} {i p : Nat} {s : Int} : p ∈ chn ss i s ↔ p < i ∧ ss.getD p 0 = s := by
  unfold chn
  rw [List.mem_reverse, List.mem_filter, List.mem_range, decide_eq_true_iff]
theorem chn_nodup {ss : List Int} {i : Nat} {s : Int} : (chn ss i s).Nodup := List.pairwise_reverse.2 ((List.Pairwise.filter _ List.nodup_range).imp fun h => Ne.symm h)
theorem cn_built {n N : Nat} {ss : List Int} (hss : ∀ p, p < N → 0 ≤ ss.getD p 0 ∧ ss.getD p 0 < n) : ∀ i, i ≤ N → ∀ s : Nat, s < n → Cn (bn n ss i) ((bh n ss i).getD s 0) (chn ss i s)
  | 0, _, s, hs => by
    show _ = _
    simp [bh, List.getD_eq_getElem?_getD, List.getElem?_replicate, hs]
  | i + 1, hi, s, hs => by
    have ih := fun s hs => cn_built hss i (by omega) s hs
    have hq := hss i (by omega)
    have eb : bn n ss (i + 1) = bn n ss i ++ [(bh n ss i).getD (ss.getD i 0).toNat 0] := rfl
    have eh : bh n ss (i + 1) = (bh n ss i).set (ss.getD i 0).toNat i := rfl
    rw [chn_succ]
    by_cases h : ss.getD i 0 = (s : Int)
    · rw [if_pos h]
      have hs' : (ss.getD i 0).toNat = s := by omega
      rw [eb, eh, hs']
      have e1 : ((bh n ss i).set s (i : Int)).getD s 0 = (i : Int) := by
        simp [List.getD_eq_getElem?_getD, List.getElem?_set, bh_len, hs]
      rw [e1]
      refine ⟨rfl, by rw [List.length_append, bn_len]; simp, ?_⟩
      have e2 : (bn n ss i ++ [(bh n ss i).getD s 0]).getD i 0 = (bh n ss i).getD s 0 := by
        rw [List.getD_eq_getElem?_getD, List.getElem?_append_right (by rw [bn_len]; omega), bn_len, Nat.sub_self]; rfl
      rw [e2]
      exact (ih s hs).app
    · rw [if_neg h, eb, eh]
      have hne : (ss.getD i 0).toNat ≠ s := by omega
      have e1 : ((bh n ss i).set (ss.getD i 0).toNat (i : Int)).getD s 0 = (bh n ss i).getD s 0 := by
        rw [List.getD_eq_getElem?_getD, List.getElem?_set, if_neg hne, ← List.getD_eq_getElem?_getD]
      rw [e1]
      exact (ih s hs).app

/-! ### Rows in order -/
theorem lt_ext : ∀ (a b : List Int), a.Pairwise (· < ·) → b.Pairwise (· < ·) → (∀ x, x ∈ a ↔ x ∈ b) → a = b
  | [], [], _, _, _ => rfl
  | [], y :: b, _, _, h => absurd ((h y).2 (by simp)) (by simp)
  | x :: a, [], _, _, h => absurd ((h x).1 (by simp)) (by simp)
  | x :: a, y :: b, ha, hb, h => by
    have ha' := List.pairwise_cons.1 ha
    have hb' := List.pairwise_cons.1 hb
    have e : x = y := by
      rcases List.mem_cons.1 ((h x).1 (by simp)) with e | e
      · exact e
      · rcases List.mem_cons.1 ((h y).2 (by simp)) with e2 | e2
        · exact e2.symm
        · have := hb'.1 x e; have := ha'.1 y e2; omega
    subst e
    rw [lt_ext a b ha'.2 hb'.2 fun z => ⟨fun hz => ?_, fun hz => ?_⟩]
    · rcases List.mem_cons.1 ((h z).1 (by simp [hz])) with e | e
      · subst e; have := ha'.1 z hz; omega
      · exact e
    · rcases List.mem_cons.1 ((h z).2 (by simp [hz])) with e | e
      · subst e; have := hb'.1 z hz; omega
      · exact e
/-- A row put in order. -/
def msort (l : List Int) : List Int := l.mergeSort fun x y => decide (x ≤ y)
theorem msort_perm (l : List Int) : (msort l).Perm l := List.mergeSort_perm l _
theorem msort_mem {l : List Int} {x : Int} : x ∈ msort l ↔ x ∈ l := (msort_perm l).mem_iff
theorem msort_len (l : List Int) : (msort l).length = l.length := (msort_perm l).length_eq
theorem msort_le (l : List Int) : (msort l).Pairwise (· ≤ ·) := by
  have := List.pairwise_mergeSort (le := fun x y : Int => decide (x ≤ y)) (fun a b c h1 h2 => by simp at *; omega) (fun a b => by simp; omega) l
  exact this.imp fun h => by simpa using h
theorem msort_eq {l m : List Int} (hn : l.Nodup) (hm : m.Pairwise (· < ·)) (h : ∀ x, x ∈ l ↔ x ∈ m) : msort l = m := by
  refine lt_ext _ _ ?_ hm fun x => msort_mem.trans (h x)
  have h1 : (msort l).Pairwise (· ≠ ·) := (msort_perm l).nodup_iff.2 hn
  exact (List.Pairwise.and (msort_le l) h1).imp fun ⟨a, b⟩ => by omega
/-- Of equals that stand side by side one is left. -/
def cpt (l : List Int) : List Int := Lib.compactUpTo l.toArray l.length
theorem cpt_mem {l : List Int} (x : Int) : x ∈ cpt l ↔ x ∈ l := by
  have key : ∀ m, m ≤ l.length → (x ∈ Lib.compactUpTo l.toArray m ↔ x ∈ l.take m) := by
    intro m
    induction m with
    | zero => intro _; simp [Lib.compactUpTo]
    | succ m ih =>
      intro hm
      have hg : l.toArray[m]! = l[m] := by simp [show m < l.length by omega]
      rw [Lib.compactUpTo_succ, List.mem_append, ih (by omega), List.take_add_one, List.mem_append, List.getElem?_eq_getElem (by omega), hg]
      by_cases hk : Lib.keeps l.toArray m = true
      · rw [if_pos hk]; simp
      · rw [if_neg hk]
        simp only [Lib.keeps, decide_eq_true_eq, not_or, ne_eq, Classical.not_not] at hk
        have hg2 : l.toArray[m - 1]! = l[m - 1] := by simp [show m - 1 < l.length by omega]
        rw [hg, hg2] at hk
        simp only [List.not_mem_nil, or_false, Option.toList_some, List.mem_singleton]
        refine ⟨.inl, fun h => h.elim id fun h => ?_⟩
        rw [h, hk.2]
        refine List.mem_take_iff_getElem.2 ⟨m - 1, by omega, rfl⟩
  unfold cpt
  rw [key _ (Nat.le_refl _), List.take_length]
theorem cpt_nodup {l : List Int} (h : l.Pairwise (· ≤ ·)) : (cpt l).Nodup := by
  unfold cpt Lib.compactUpTo
  refine List.Pairwise.map (R := fun a b : Nat => a < b ∧ a < l.length ∧ b < l.length ∧ Lib.keeps l.toArray b = true) _ (fun a b ⟨h1, h2, h3, h4⟩ => ?_) ?_
  · have g1 : l.toArray[a]! = l[a] := by simp [h2]
    have g2 : l.toArray[b]! = l[b] := by simp [h3]
    have g3 : l.toArray[b - 1]! = l[b - 1] := by simp [show b - 1 < l.length by omega]
    simp only [Lib.keeps, decide_eq_true_eq] at h4
    rw [g2, g3] at h4
    show l.toArray[a]! ≠ l.toArray[b]!
    rw [g1, g2]
    have k1 : l[b - 1] ≤ l[b] := List.pairwise_iff_getElem.1 h (b - 1) b (by omega) h3 (by omega)
    have k2 : l[a] ≤ l[b - 1] := by
      by_cases e : a = b - 1
      · subst e; exact Int.le_refl _
      · exact List.pairwise_iff_getElem.1 h a (b - 1) h2 (by omega) (by omega)
    rcases h4 with h4 | h4
    · omega
    · omega
  · have h1 := List.Pairwise.filter (Lib.keeps l.toArray) (List.pairwise_lt_range (n := l.length))
    refine List.Pairwise.imp_of_mem (fun {a b} ha hb hab => ?_) h1
    have ha' := List.mem_filter.1 ha
    have hb' := List.mem_filter.1 hb
    exact ⟨hab, List.mem_range.1 ha'.1, List.mem_range.1 hb'.1, hb'.2⟩

/-! ### Who is near -/
/-- The square of the way between two points. -/
def far (a b : V3) : Rat := (b.sub a).dot (b.sub a)
theorem far_comm (a b : V3) : far a b = far b a := by simp only [far, V3.dot, V3.sub]; grind
def nr (ps : List V3) (c : V3) (r2 : Rat) (i : Nat) : Bool := decide (far (ps.getD i o3) c ≤ r2)
/-- The numbers of the points near to a place. -/
def nearL (ps : List V3) (c : V3) (r2 : Rat) : List Int := ((List.range ps.length).filter (nr ps c r2)).map fun i : Nat => (i : Int)
theorem nearL_lt (ps : List V3) (c : V3) (r2 : Rat) : (nearL ps c r2).Pairwise (· < ·) := by
  unfold nearL
  refine List.Pairwise.map (R := fun a b : Nat => a < b) _ (fun a b h => by omega) (List.Pairwise.filter _ List.pairwise_lt_range)
theorem nearL_mem {ps : List V3} {c : V3} {r2 : Rat} {x : Int} : x ∈ nearL ps c r2 ↔ ∃ p : Nat, x = (p : Int) ∧ p < ps.length ∧ nr ps c r2 p = true := by
  unfold nearL
  rw [List.mem_map]
  constructor
  · rintro ⟨p, hp, rfl⟩
    have := List.mem_filter.1 hp
    exact ⟨p, rfl, List.mem_range.1 this.1, this.2⟩
  · rintro ⟨p, rfl, h1, h2⟩
    exact ⟨p, List.mem_filter.2 ⟨List.mem_range.2 h1, h2⟩, rfl⟩
/-- What is found slot by slot. -/
def raw (ps : List V3) (ss : List Int) (c : V3) (r2 : Rat) (sl : List Int) : List Int := sl.flatMap fun s => ((chn ss ps.length s).filter (nr ps c r2)).map fun i : Nat => (i : Int)
theorem raw_mem {ps : List V3} {ss : List Int} {c : V3} {r2 : Rat} {sl : List Int} {x : Int} : x ∈ raw ps ss c r2 sl ↔ ∃ p : Nat, x = (p : Int) ∧ p < ps.length ∧ ss.getD p 0 ∈ sl ∧ nr ps c r2 p = true := by
  unfold raw
  rw [List.mem_flatMap]
  constructor
  · rintro ⟨s, hs, hx⟩
    obtain ⟨p, hp, rfl⟩ := List.mem_map.1 hx
    have h1 := List.mem_filter.1 hp
    have h2 := chn_mem.1 h1.1
    exact ⟨p, rfl, h2.1, by rw [h2.2]; exact hs, h1.2⟩
  · rintro ⟨p, rfl, h1, h2, h3⟩
    exact ⟨_, h2, List.mem_map.2 ⟨p, List.mem_filter.2 ⟨chn_mem.2 ⟨h1, rfl⟩, h3⟩, rfl⟩⟩
theorem raw_nodup {ps : List V3} {ss : List Int} {c : V3} {r2 : Rat} {sl : List Int} (h : sl.Nodup) : (raw ps ss c r2 sl).Nodup := by
  unfold raw
  refine List.pairwise_flatMap.2 ⟨fun s _ => ?_, h.imp fun {s t} hst x hx y hy e => ?_⟩
  · refine List.Pairwise.map (R := fun a b : Nat => a ≠ b) _ (fun a b h e => h (by omega)) (List.Pairwise.filter _ chn_nodup)
  · obtain ⟨p, hp, rfl⟩ := List.mem_map.1 hx
    obtain ⟨q, hq, rfl⟩ := List.mem_map.1 hy
    have e' : p = q := by omega
    subst e'
    have h1 := (chn_mem.1 (List.mem_filter.1 hp).1).2
    have h2 := (chn_mem.1 (List.mem_filter.1 hq).1).2
    exact hst (h1.symm.trans h2)
/-- The slots of a place's cell and of the cells around it. -/
def st3 (s : Rat) : List Rat := [-s, 0, s]
def nbs (c : V3) (s : Rat) (n : Int) : List Int := (st3 s).flatMap fun x => (st3 s).flatMap fun y => (st3 s).map fun z => slot (c.add ⟨x, y, z⟩) s n
theorem fl_uniq {z : Rat} {k : Int} (h1 : (k : Rat) ≤ z) (h2 : z < (k : Rat) + 1) : z.floor = k := by
  have a1 := Rat.floor_le z
  have a2 := Rat.lt_floor_add_one z
  generalize z.floor = f at *
  have b1 : (f : Rat) < ((k + 1 : Int) : Rat) := by rw [Rat.intCast_add]; exact Std.lt_of_le_of_lt a1 h2
  have b2 : (k : Rat) < ((f + 1 : Int) : Rat) := Std.lt_of_le_of_lt h1 a2
  have b1 := Rat.intCast_lt_intCast.1 b1
  have b2 := Rat.intCast_lt_intCast.1 b2
  omega
theorem st_fl {a b s : Rat} (hs : 0 < s) (h : (a - b) * (a - b) ≤ s * s) : ∃ x ∈ st3 s, cz (a + x) s = cz b s := by
  have hd : -s ≤ a - b ∧ a - b ≤ s := by
    constructor
    · by_cases h1 : -s ≤ a - b
      · exact h1
      · exfalso
        have h2 : s < b - a := by grind
        have h3 : s * s < (b - a) * (b - a) := by
          have e1 : s * s < s * (b - a) := Rat.mul_lt_mul_of_pos_left h2 hs
          have e2 : s * (b - a) < (b - a) * (b - a) := Rat.mul_lt_mul_of_pos_right h2 (by grind)
          grind
        grind
    · by_cases h1 : a - b ≤ s
      · exact h1
      · exfalso
        have h2 : s < a - b := by grind
        have h3 : s * s < (a - b) * (a - b) := by
          have e1 : s * s < s * (a - b) := Rat.mul_lt_mul_of_pos_left h2 hs
          have e2 : s * (a - b) < (a - b) * (a - b) := Rat.mul_lt_mul_of_pos_right h2 (by grind)
          grind
        grind
  have hne : s ≠ 0 := by grind
  have eA : ∀ x : Rat, (a + x) / s = a / s + x / s := fun x => by rw [Rat.div_def, Rat.div_def, Rat.div_def, Rat.add_mul]
  have e1 : s / s = 1 := by rw [Rat.div_def, Rat.mul_inv_cancel _ hne]
  have e0 : (0 : Rat) / s = 0 := by rw [Rat.div_def, Rat.zero_mul]
  have em : -s / s = -1 := by rw [Rat.div_def, Rat.neg_mul, Rat.mul_inv_cancel _ hne]
  have hle : ∀ {x y : Rat}, x ≤ y → x / s ≤ y / s := fun {x y} h => by rw [Rat.div_def, Rat.div_def]; exact Rat.mul_le_mul_of_nonneg_right h (Rat.le_of_lt (Rat.inv_pos.2 hs))
  have k1 : b / s ≤ a / s + 1 := by rw [← e1, ← eA]; exact hle (by grind)
  have k2 : a / s ≤ b / s + 1 := by
    have : a / s ≤ (b + s) / s := hle (by grind)
    rwa [show (b + s) / s = b / s + 1 by rw [← e1, Rat.div_def, Rat.div_def, Rat.div_def, Rat.add_mul]] at this
  unfold cz
  have a1 := Rat.floor_le (a / s)
  have a2 := Rat.lt_floor_add_one (a / s)
  have b1 := Rat.floor_le (b / s)
  have b2 := Rat.lt_floor_add_one (b / s)
  generalize hA : (a / s).floor = fa at *
  generalize hB : (b / s).floor = fb at *
  have c1 : (fb : Rat) < ((fa + 2 : Int) : Rat) := by rw [Rat.intCast_add]; have : ((2 : Int) : Rat) = 2 := rfl; grind
  have c2 : (fa : Rat) < ((fb + 2 : Int) : Rat) := by rw [Rat.intCast_add]; have : ((2 : Int) : Rat) = 2 := rfl; grind
  have c1 := Rat.intCast_lt_intCast.1 c1
  have c2 := Rat.intCast_lt_intCast.1 c2
  have cases : fb = fa - 1 ∨ fb = fa ∨ fb = fa + 1 := by omega
  rcases cases with h | h | h
  · refine ⟨-s, by simp [st3], fl_uniq ?_ ?_⟩
    · rw [eA, em, h, Rat.intCast_sub]; have : ((1 : Int) : Rat) = 1 := rfl; grind
    · rw [eA, em, h, Rat.intCast_sub]; have : ((1 : Int) : Rat) = 1 := rfl; grind
  · refine ⟨0, by simp [st3], fl_uniq ?_ ?_⟩
    · rw [eA, e0, h]; grind
    · rw [eA, e0, h]; grind
  · refine ⟨s, by simp [st3], fl_uniq ?_ ?_⟩
    · rw [eA, e1, h, Rat.intCast_add]; have : ((1 : Int) : Rat) = 1 := rfl; grind
    · rw [eA, e1, h, Rat.intCast_add]; have : ((1 : Int) : Rat) = 1 := rfl; grind
theorem sq_nonneg (x : Rat) : 0 ≤ x * x := by
  rcases (show x ≤ 0 ∨ 0 ≤ x by grind) with h | h
  · have := Rat.mul_nonneg (a := -x) (b := -x) (by grind) (by grind); grind
  · exact Rat.mul_nonneg h h
/-- A point that is near lies in one of these slots. -/
theorem nb_slot {c p : V3} {s r2 : Rat} {n : Int} (hs : 0 < s) (h : far p c ≤ r2) (hr : r2 ≤ s * s) : slot p s n ∈ nbs c s n := by
  have hx := sq_nonneg (c.x - p.x)
  have hy := sq_nonneg (c.y - p.y)
  have hz := sq_nonneg (c.z - p.z)
  have hsum : (c.x - p.x) * (c.x - p.x) + (c.y - p.y) * (c.y - p.y) + (c.z - p.z) * (c.z - p.z) ≤ s * s := by
    have : far p c = (c.x - p.x) * (c.x - p.x) + (c.y - p.y) * (c.y - p.y) + (c.z - p.z) * (c.z - p.z) := rfl
    grind
  obtain ⟨x, hx1, hx2⟩ := st_fl (a := c.x) (b := p.x) hs (by grind)
  obtain ⟨y, hy1, hy2⟩ := st_fl (a := c.y) (b := p.y) hs (by grind)
  obtain ⟨z, hz1, hz2⟩ := st_fl (a := c.z) (b := p.z) hs (by grind)
  unfold nbs
  refine List.mem_flatMap.2 ⟨x, hx1, List.mem_flatMap.2 ⟨y, hy1, List.mem_map.2 ⟨z, hz1, ?_⟩⟩⟩
  unfold slot
  rw [← hx2, ← hy2, ← hz2]; rfl
theorem nbs_rng {c : V3} {s : Rat} {n : Int} (h : gmay s n) {x : Int} (hx : x ∈ nbs c s n) : 0 ≤ x ∧ x < n := by
  unfold nbs at hx
  obtain ⟨a, _, hx⟩ := List.mem_flatMap.1 hx
  obtain ⟨b, _, hx⟩ := List.mem_flatMap.1 hx
  obtain ⟨d, _, rfl⟩ := List.mem_map.1 hx
  exact slot_rng h
/-- What a search through the slots finds, put in order. -/
theorem near_eq {ps : List V3} {c : V3} {s r2 : Rat} {n : Int} (hs : 0 < s) (hr : r2 ≤ s * s) : msort (raw ps (slots ps s n) c r2 (cpt (msort (nbs c s n)))) = nearL ps c r2 := by
  refine msort_eq (raw_nodup (cpt_nodup (msort_le _))) (nearL_lt _ _ _) fun x => ?_
  rw [raw_mem, nearL_mem]
  refine ⟨fun ⟨p, h1, h2, _, h4⟩ => ⟨p, h1, h2, h4⟩, fun ⟨p, h1, h2, h4⟩ => ⟨p, h1, h2, ?_, h4⟩⟩
  rw [cpt_mem, msort_mem]
  obtain ⟨q, hq⟩ : ∃ q, ps[p]? = some q := ⟨_, List.getElem?_eq_getElem h2⟩
  rw [slots_get hq]
  have e : ps.getD p o3 = q := by simp [List.getD_eq_getElem?_getD, hq]
  unfold nr at h4
  rw [e] at h4
  exact nb_slot hs (of_decide_eq_true h4) hr
end Go.Px.Na

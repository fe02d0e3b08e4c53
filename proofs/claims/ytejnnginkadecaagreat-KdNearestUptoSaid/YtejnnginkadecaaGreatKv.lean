/- Kv: plain: trees whose places fit: parents, what is below a node, how deep. -/
import Derived.Test.YtejnnginkadecaaGreatKe
set_option linter.unusedVariables false
set_option linter.unusedSimpArgs false
namespace Go.Px.Na
/-- The one is a child of the other. -/
def kid (n : KN) (c : Nat) : Prop := n.lf = (c : Int) ∨ n.rt = (c : Int)
/-- A tree of so many nodes whose places fit. -/
structure TS (ns : List KN) (m : Nat) : Prop where
  len : ns.length = m
  shp : Shp ns m
section
variable {ns : List KN} {m : Nat}
theorem mem_kids {l : List KN} {c : Nat} : (c : Int) ∈ kids l ↔ ∃ n ∈ l, kid n c := by
  unfold kids kid
  rw [List.mem_flatMap]
  constructor
  · rintro ⟨n, hn, h⟩
    simp only [List.mem_cons, List.not_mem_nil, or_false] at h
    exact ⟨n, hn, h.imp Eq.symm Eq.symm⟩
  · rintro ⟨n, hn, h⟩
    refine ⟨n, hn, ?_⟩
    simp only [List.mem_cons, List.not_mem_nil, or_false]
    exact h.imp Eq.symm Eq.symm
theorem kids_split {l1 l2 : List KN} : kids (l1 ++ l2) = kids l1 ++ kids l2 := by simp [kids]
variable (T : TS ns m)
include T
theorem kid_gt {p c : Nat} {n : KN} (hn : ns[p]? = some n) (h : kid n c) : p < c ∧ c < m := by
  have hm := T.len
  have hS := T.shp
  have := hS.1 p n hn
  rcases h with h | h
  · have := this.2.2.1; omega
  · have := this.2.2.2; omega
theorem par_ex {c : Nat} (h0 : 0 < c) (h1 : c < m) : ∃ (p : Nat) (n : KN), ns[p]? = some n ∧ kid n c := by
  have hm := T.len
  have hS := T.shp
  have h := hS.2.2 c h0 h1
  have : (c : Int) ∈ kids ns := List.count_pos_iff.1 (by omega)
  obtain ⟨n, hn, hk⟩ := mem_kids.1 this
  obtain ⟨p, hp⟩ := List.mem_iff_getElem?.1 hn
  exact ⟨p, n, hp, hk⟩
theorem par_lt {p q c : Nat} {n n' : KN} (hn : ns[p]? = some n) (hn' : ns[q]? = some n') (h : kid n c) (h' : kid n' c) (hpq : p < q) : False := by
  have hm := T.len
  have hS := T.shp
  have g := kid_gt T hn h
  have hc := hS.2.2 c (by omega) g.2
  have e : ns = ns.take q ++ ns.drop q := (List.take_append_drop q ns).symm
  rw [e, kids_split, List.count_append] at hc
  have m1 : n ∈ ns.take q := List.mem_iff_getElem?.2 ⟨p, by rw [List.getElem?_take_of_lt hpq]; exact hn⟩
  have m2 : n' ∈ ns.drop q := List.mem_iff_getElem?.2 ⟨0, by rw [List.getElem?_drop, Nat.add_zero]; exact hn'⟩
  have c1 := List.count_pos_iff.2 (mem_kids.2 ⟨n, m1, h⟩)
  have c2 := List.count_pos_iff.2 (mem_kids.2 ⟨n', m2, h'⟩)
  omega
theorem par_one {p q c : Nat} {n n' : KN} (hn : ns[p]? = some n) (hn' : ns[q]? = some n') (h : kid n c) (h' : kid n' c) : p = q := by
  have hm := T.len
  have hS := T.shp
  rcases Nat.lt_trichotomy p q with g | g | g
  · exact (par_lt T hn hn' h h' g).elim
  · exact g
  · exact (par_lt T hn' hn h' h g).elim
theorem kid_one {p : Nat} {n : KN} (hn : ns[p]? = some n) {c : Nat} (h : n.lf = (c : Int)) (h' : n.rt = (c : Int)) : False := by
  have hm := T.len
  have hS := T.shp
  have g := kid_gt T hn (.inl h)
  have hc := hS.2.2 c (by omega) g.2
  have e : ns = ns.take p ++ n :: ns.drop (p + 1) := by
    have h2 := (List.getElem?_eq_some_iff.1 hn)
    obtain ⟨hp, he⟩ := h2
    rw [← he]; simp
  rw [e, kids_split, List.count_append] at hc
  have : kids (n :: ns.drop (p + 1)) = n.lf :: n.rt :: kids (ns.drop (p + 1)) := by simp [kids]
  rw [this, h, h', List.count_cons_self, List.count_cons_self] at hc
  omega
omit T in
theorem sub_ge (V : ∀ i n, ns[i]? = some n → KOwn n i m) : ∀ (F : Nat) (a : Int) (k : Nat), k ∈ sub ns F a → 0 ≤ a ∧ a ≤ (k : Int) ∧ k < ns.length
  | 0, a, k, h => by cases h
  | F + 1, a, k, h => by
    rw [sub] at h
    split at h
    · cases h
    · rename_i h0
      split at h
      · cases h
      · rename_i n hn
        have hl := (List.getElem?_eq_some_iff.1 hn).1
        have o := V _ n hn
        rcases List.mem_cons.1 h with rfl | h
        · omega
        · rcases List.mem_append.1 h with h | h
          · have := sub_ge V F n.lf k h; have := o.2.2.1; omega
          · have := sub_ge V F n.rt k h; have := o.2.2.2; omega
omit T in
theorem sub_in {F : Nat} {a : Int} {k : Nat} (h : k ∈ sub ns (F + 1) a) : ∃ n, 0 ≤ a ∧ ns[a.toNat]? = some n ∧ (k = a.toNat ∨ k ∈ sub ns F n.lf ∨ k ∈ sub ns F n.rt) := by
  rw [sub] at h
  split at h
  · cases h
  · rename_i h0
    split at h
    · cases h
    · rename_i n hn
      refine ⟨n, by omega, hn, ?_⟩
      rcases List.mem_cons.1 h with h | h
      · exact .inl h
      · exact .inr (List.mem_append.1 h)
/-- What is below a node, but for itself, has its parent there. -/
theorem sub_par : ∀ (F : Nat) (a : Int) (k : Nat), k ∈ sub ns F a → (k : Int) = a ∨ ∃ p n, p ∈ sub ns F a ∧ ns[p]? = some n ∧ kid n k
  | 0, a, k, h => by cases h
  | F + 1, a, k, h => by
    have hm := T.len
    have hS := T.shp
    obtain ⟨n, h0, hn, h⟩ := sub_in h
    have self : a.toNat ∈ sub ns (F + 1) a := by rw [sub_succ h0 hn]; exact List.mem_cons_self ..
    rcases h with h | h | h
    · left; omega
    · right
      have g := sub_ge hS.1 F n.lf k h
      rcases sub_par F n.lf k h with e | ⟨p, n', h1, h2, h3⟩
      · exact ⟨a.toNat, n, self, hn, .inl e.symm⟩
      · exact ⟨p, n', by rw [sub_succ h0 hn]; simp [h1], h2, h3⟩
    · right
      rcases sub_par F n.rt k h with e | ⟨p, n', h1, h2, h3⟩
      · exact ⟨a.toNat, n, self, hn, .inr e.symm⟩
      · exact ⟨p, n', by rw [sub_succ h0 hn]; simp [h1], h2, h3⟩
theorem sub_apart {i : Nat} {n : KN} (hn : ns[i]? = some n) (F G : Nat) : ∀ (b k : Nat), k ≤ b → k ∈ sub ns F n.lf → k ∈ sub ns G n.rt → False
  | b, k, hb, h1, h2 => by
    have hm := T.len
    have hS := T.shp
    have g1 := sub_ge hS.1 F n.lf k h1
    have g2 := sub_ge hS.1 G n.rt k h2
    have o := hS.1 i n hn
    rcases sub_par T F n.lf k h1 with e1 | ⟨p, n1, a1, a2, a3⟩
    · rcases sub_par T G n.rt k h2 with e2 | ⟨q, n2, c1, c2, c3⟩
      · exact kid_one T hn e1.symm e2.symm
      · have := par_one T hn c2 (.inl e1.symm) c3
        subst this
        have := sub_ge hS.1 G n.rt _ c1
        have := o.2.2.2; omega
    · have hpk := (kid_gt T a2 a3).1
      rcases sub_par T G n.rt k h2 with e2 | ⟨q, n2, c1, c2, c3⟩
      · have := par_one T hn a2 (.inr e2.symm) a3
        subst this
        have := sub_ge hS.1 F n.lf _ a1
        have := o.2.2.1; omega
      · have := par_one T a2 c2 a3 c3
        subst this
        cases b with
        | zero => omega
        | succ b => exact sub_apart hn F G b p (by omega) a1 c1
theorem sub_nodup : ∀ (F : Nat) (a : Int), (sub ns F a).Nodup
  | 0, a => by simp [sub]
  | F + 1, a => by
    have hm := T.len
    have hS := T.shp
    rw [sub]
    split
    · simp
    · split
      · simp
      · rename_i h0 _ n hn
        have o := hS.1 _ n hn
        rw [List.nodup_cons, List.nodup_append]
        refine ⟨fun h => ?_, sub_nodup F _, sub_nodup F _, fun x hx y hy e => ?_⟩
        · rcases List.mem_append.1 h with h | h
          · have := sub_ge hS.1 F n.lf _ h; have := o.2.2.1; omega
          · have := sub_ge hS.1 F n.rt _ h; have := o.2.2.2; omega
        · subst e; exact sub_apart T hn F F x x (Nat.le_refl _) hx hy
theorem sub_kid : ∀ (F : Nat) (a : Int), Wi m F a → ∀ {p c : Nat} {n : KN}, p ∈ sub ns F a → ns[p]? = some n → kid n c → c ∈ sub ns F a
  | 0, a, hw, p, c, n, h, hn, hk => by cases h
  | F + 1, a, hw, p, c, n, h, hn, hk => by
    have hm := T.len
    have hS := T.shp
    obtain ⟨na, h0, hna, h⟩ := sub_in h
    have ho := hS.1 _ na hna
    have hwn : Wi m (F + 1) ((a.toNat : Nat) : Int) := by rw [Int.toNat_of_nonneg h0]; exact hw
    have g := kid_gt T hn hk
    rw [sub_succ h0 hna]
    have self : ∀ b : Int, b = (c : Int) → Wi m F b → c ∈ sub ns F b := fun b hb hw => by
      subst hb
      obtain ⟨F, rfl⟩ : ∃ q, F = q + 1 := ⟨F - 1, by unfold Wi at hw; omega⟩
      obtain ⟨nc, hnc⟩ : ∃ n, ns[((c : Int)).toNat]? = some n := ⟨_, List.getElem?_eq_getElem (by omega)⟩
      rw [sub_succ (by omega) hnc, Int.toNat_natCast]
      exact List.mem_cons_self ..
    rcases h with h | h | h
    · subst h
      rw [hn] at hna; cases hna
      rcases hk with e | e
      · have := self n.lf e (Wi.lf ho hwn); simp [this]
      · have := self n.rt e (Wi.rt ho hwn); simp [this]
    · have := sub_kid F na.lf (Wi.lf ho hwn) h hn hk; simp [this]
    · have := sub_kid F na.rt (Wi.rt ho hwn) h hn hk; simp [this]
theorem sub_all : ∀ (b k : Nat), k ≤ b → k < m → k ∈ sub ns m 0
  | b, k, hb, hk => by
    have hm := T.len
    have hS := T.shp
    by_cases h0 : k = 0
    · subst h0
      obtain ⟨q, rfl⟩ : ∃ q, m = q + 1 := ⟨m - 1, by omega⟩
      obtain ⟨n, hn⟩ : ∃ n, ns[((0 : Int)).toNat]? = some n := ⟨_, List.getElem?_eq_getElem (by simp; omega)⟩
      rw [sub_succ (by omega) hn]
      exact List.mem_cons_self ..
    · obtain ⟨p, n, hn, hkid⟩ := par_ex T (c := k) (by omega) hk
      have g := kid_gt T hn hkid
      cases b with
      | zero => omega
      | succ b => exact sub_kid T m 0 (.inr ⟨by omega, by omega, by omega⟩) (sub_all b p (by omega) (by omega)) hn hkid

/-! ### Depths -/
omit T in
theorem getD_at {i : Nat} {n : KN} (hn : ns[i]? = some n) : ns.getD i default = n := by simp [List.getD_eq_getElem?_getD, hn]
end
end Go.Px.Na

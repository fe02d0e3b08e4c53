/- Kv: plain: trees whose places fit: parents, what is below a node, how deep. -/
import Derived.Test.YtdkifeiejkikdaaGreatKe
set_option linter.unusedVariables false
set_option linter.unusedSimpArgs false
namespace Go.Px.Na
/-- The one is a child of the other. -/
def kid (n : KN) (c : Nat) : Prop := n.lf = (c : Int) ∨ n.rt = (c : Int)
/-- A tree of so many nodes whose places fit. -/
structure TS (ns : List KN) (m : Nat) : Prop where
  len : ns.length = m
  shp : Shp ns m
section
variable {ns : List KN} {m : Nat}
theorem mem_kids {l : List KN} {c : Nat} : (c : Int) ∈ kids l ↔ ∃ n ∈ l, kid n c := by
  unfold kids kid
  rw [List.mem_flatMap]
  constructor
  · rintro ⟨n, hn, h⟩
    simp only [List.mem_cons, List.not_mem_nil, or_false] at h
    exact ⟨n, hn, h.imp Eq.symm Eq.symm⟩
  · rintro ⟨n, hn, h⟩
    refine ⟨n, hn, ?_⟩
    simp only [List.mem_cons, List.not_mem_nil, or_false]
    exact h.imp Eq.symm Eq.symm
theorem kids_split {l1 l2 : List KN} : kids (l1 ++ l2) = kids l1 ++ kids l2 := by simp [kids]
variable (T : TS ns m)
include T
theorem kid_gt {p c : Nat} {n : KN} (hn : ns[p]? = some n) (h : kid n c) : p < c ∧ c < m := by
  have hm := T.len
  have hS := T.shp
  have := hS.1 p n hn
  rcases h with h | h
  · have := this.2.2.1; omega
  · have := this.2.2.2; omega
theorem par_ex {c : Nat} (h0 : 0 < c) (h1 : c < m) : ∃ (p : Nat) (n : KN), ns[p]? = some n ∧ kid n c := by
  have hm := T.len
  have hS := T.shp
  have h := hS.2.2 c h0 h1
  have : (c : Int) ∈ kids ns := List.count_pos_iff.1 (by omega)
  obtain ⟨n, hn, hk⟩ := mem_kids.1 this
  obtain ⟨p, hp⟩ := List.mem_iff_getElem?.1 hn
  exact ⟨p, n, hp, hk⟩
theorem par_lt {p q c : Nat} {n n' : KN} (hn : ns[p]? = some n) (hn' : ns[q]? = some n') (h : kid n c) (h' : kid n' c) (hpq : p < q) : False := by
  have hm := T.len
  have hS := T.shp
  have g := kid_gt T hn h
  have hc := hS.2.2 c (by omega) g.2
  have e : ns = ns.take q ++ ns.drop q := (List.take_append_drop q ns).symm
  rw [e, kids_split, List.count_append] at hc
  have m1 : n ∈ ns.take q := List.mem_iff_getElem?.2 ⟨p, by rw [List.getElem?_take_of_lt hpq]; exact hn⟩
  have m2 : n' ∈ ns.drop q := List.mem_iff_getElem?.2 ⟨0, by rw [List.getElem?_drop, Nat.add_zero]; exact hn'⟩
  have c1 := List.count_pos_iff.2 (mem_kids.2 ⟨n, m1, h⟩)
  have c2 := List.count_pos_iff.2 (mem_kids.2 ⟨n', m2, h'⟩)
  omega
theorem par_one {p q c : Nat} {n n' : KN} (hn : ns[p]? = some n) (hn' : ns[q]? = some n') (h : kid n c) (h' : kid n' c) : p = q := by
  have hm := T.len
  have hS := T.shp
  rcases Nat.lt_trichotomy p q with g | g | g
  · exact (par_lt T hn hn' h h' g).elim
  · exact g
  · exact (par_lt T hn' hn h' h g).elim
theorem kid_one {p : Nat} {n : KN} (hn : ns[p]? = some n) {c : Nat} (h : n.lf = (c : Int)) (h' : n.rt = (c : Int)) : False := by
  have hm := T.len
  have hS := T.shp
  have g := kid_gt T hn (.inl h)
  have hc := hS.2.2 c (by omega) g.2
  have e : ns = ns.take p ++ n :: ns.drop (p + 1) := by
    have h2 := (List.getElem?_eq_some_iff.1 hn)
    obtain ⟨hp, he⟩ := h2
    rw [← he]; simp
  rw [e, kids_split, List.count_append] at hc
  have : kids (n :: ns.drop (p + 1)) = n.lf :: n.rt :: kids (ns.drop (p + 1)) := by simp [kids]
  rw [this, h, h', List.count_cons_self, List.count_cons_self] at hc
  omega
omit T in
theorem sub_ge (V : ∀ i n, ns[i]? = some n → KOwn n i m) : ∀ (F : Nat) (a : Int) (k : Nat), k ∈ sub ns F a → 0 ≤ a ∧ a ≤ (k : Int) ∧ k < ns.length
  | 0, a, k, h => by cases h
  | F + 1, a, k, h => by
    rw [sub] at h
    split at h
    · cases h
    · rename_i h0
      split at h
      · cases h
      · rename_i n hn
        have hl := (List.getElem?_eq_some_iff.1 hn).1
        have o := V _ n hn
        rcases List.mem_cons.1 h with rfl | h
        · omega
        · rcases List.mem_append.1 h with h | h
          · have := sub_ge V F n.lf k h; have := o.2.2.1; omega
          · have := sub_ge V F n.rt k h; have := o.2.2.2; omega
omit T in
theorem sub_in {F : Nat} {a : Int} {k : Nat} (h : k ∈ sub ns (F + 1) a) : ∃ n, 0 ≤ a ∧ ns[a.toNat]? = some n ∧ (k = a.toNat ∨ k ∈ sub ns F n.lf ∨ k ∈ sub ns F n.rt) := by
  rw [sub] at h
  split at h
  · cases h
  · rename_i h0
    split at h
    · cases h
    · rename_i n hn
      refine ⟨n, by omega, hn, ?_⟩
      rcases List.mem_cons.1 h with h | h
      · exact .inl h
      · exact .inr (List.mem_append.1 h)
/-- What is below a node, but for itself, has its parent there. -/
theorem sub_par : ∀ (F : Nat) (a : Int) (k : Nat), k ∈ sub ns F a → (k : Int) = a ∨ ∃ p n, p ∈ sub ns F a ∧ ns[p]? = some n ∧ kid n k
  | 0, a, k, h => by cases h
  | F + 1, a, k, h => by
    have hm := T.len
    have hS := T.shp
    obtain ⟨n, h0, hn, h⟩ := sub_in h
    have self : a.toNat ∈ sub ns (F + 1) a := by rw [sub_succ h0 hn]; exact List.mem_cons_self ..
    rcases h with h | h | h
    · left; omega
    · right
      have g := sub_ge hS.1 F n.lf k h
      rcases sub_par F n.lf k h with e | ⟨p, n', h1, h2, h3⟩
      · exact ⟨a.toNat, n, self, hn, .inl e.symm⟩
      · exact ⟨p, n', by rw [sub_succ h0 hn]; simp [h1], h2, h3⟩
    · right
      rcases sub_par F n.rt k h with e | ⟨p, n', h1, h2, h3⟩
      · exact ⟨a.toNat, n, self, hn, .inr e.symm⟩
      · exact ⟨p, n', by rw [sub_succ h0 hn]; simp [h1], h2, h3⟩
theorem sub_apart {i : Nat} {n : KN} (hn : ns[i]? = some n) (F G : Nat) : ∀ (b k : Nat), k ≤ b → k ∈ sub ns F n.lf → k ∈ sub ns G n.rt → False
  | b, k, hb, h1, h2 => by
    have hm := T.len
    have hS := T.shp
    have g1 := sub_ge hS.1 F n.lf k h1
    have g2 := sub_ge hS.1 G n.rt k h2
    have o := hS.1 i n hn
    rcases sub_par T F n.lf k h1 with e1 | ⟨p, n1, a1, a2, a3⟩
    · rcases sub_par T G n.rt k h2 with e2 | ⟨q, n2, c1, c2, c3⟩
      · exact kid_one T hn e1.symm e2.symm
      · have := par_one T hn c2 (.inl e1.symm) c3
        subst this
        have := sub_ge hS.1 G n.rt _ c1
        have := o.2.2.2; omega
    · have hpk := (kid_gt T a2 a3).1
      rcases sub_par T G n.rt k h2 with e2 | ⟨q, n2, c1, c2, c3⟩
      · have := par_one T hn a2 (.inr e2.symm) a3
        subst this
        have := sub_ge hS.1 F n.lf _ a1
        have := o.2.2.1; omega
      · have := par_one T a2 c2 a3 c3
        subst this
        cases b with
        | zero => omega
        | succ b => exact sub_apart hn F G b p (by omega) a1 c1
theorem sub_nodup : ∀ (F : Nat) (a : Int), (sub ns F a).Nodup
  | 0, a => by simp [sub]
  | F + 1, a => by
    have hm := T.len
    have hS := T.shp
    rw [sub]
    split
    · simp
    · split
      · simp
      · rename_i h0 _ n hn
        have o := hS.1 _ n hn
        rw [List.nodup_cons, List.nodup_append]
        refine ⟨fun h => ?_, sub_nodup F _, sub_nodup F _, fun x hx y hy e => ?_⟩
        · rcases List.mem_append.1 h with h | h
          · have := sub_ge hS.1 F n.lf _ h; have := o.2.2.1; omega
          · have := sub_ge hS.1 F n.rt _ h; have := o.2.2.2; omega
        · subst e; exact sub_apart T hn F F x x (Nat.le_refl _) hx hy
theorem sub_len (F : Nat) (a : Int) : (sub ns F a).length ≤ m :=
  nd_le m _ (sub_nodup T F a) fun x hx => by have := sub_ge T.shp.1 F a x hx; have := T.len; omega
theorem sub_kid : ∀ (F : Nat) (a : Int), Wi m F a → ∀ {p c : Nat} {n : KN}, p ∈ sub ns F a → ns[p]? = some n → kid n c → c ∈ sub ns F a
  | 0, a, hw, p, c, n, h, hn, hk => by cases h
  | F + 1, a, hw, p, c, n, h, hn, hk => by
    have hm := T.len
    have hS := T.shp
    obtain ⟨na, h0, hna, h⟩ := sub_in h
    have ho := hS.1 _ na hna
    have hwn : Wi m (F + 1) ((a.toNat : Nat) : Int) := by rw [Int.toNat_of_nonneg h0]; exact hw
    have g := kid_gt T hn hk
    rw [sub_succ h0 hna]
    have self : ∀ b : Int, b = (c : Int) → Wi m F b → c ∈ sub ns F b := fun b hb hw => by
      subst hb
      obtain ⟨F, rfl⟩ : ∃ q, F = q + 1 := ⟨F - 1, by unfold Wi at hw; omega⟩
      obtain ⟨nc, hnc⟩ : ∃ n, ns[((c : Int)).toNat]? = some n := ⟨_, List.getElem?_eq_getElem (by omega)⟩
      rw [sub_succ (by omega) hnc, Int.toNat_natCast]
      exact List.mem_cons_self ..
    rcases h with h | h | h
    · subst h
      rw [hn] at hna; cases hna
      rcases hk with e | e
      · have := self n.lf e (Wi.lf ho hwn); simp [this]
      · have := self n.rt e (Wi.rt ho hwn); simp [this]
    · have := sub_kid F na.lf (Wi.lf ho hwn) h hn hk; simp [this]
    · have := sub_kid F na.rt (Wi.rt ho hwn) h hn hk; simp [this]
theorem sub_all : ∀ (b k : Nat), k ≤ b → k < m → k ∈ sub ns m 0
  | b, k, hb, hk => by
    have hm := T.len
    have hS := T.shp
    by_cases h0 : k = 0
    · subst h0
      obtain ⟨q, rfl⟩ : ∃ q, m = q + 1 := ⟨m - 1, by omega⟩
      obtain ⟨n, hn⟩ : ∃ n, ns[((0 : Int)).toNat]? = some n := ⟨_, List.getElem?_eq_getElem (by simp; omega)⟩
      rw [sub_succ (by omega) hn]
      exact List.mem_cons_self ..
    · obtain ⟨p, n, hn, hkid⟩ := par_ex T (c := k) (by omega) hk
      have g := kid_gt T hn hkid
      cases b with
      | zero => omega
      | succ b => exact sub_kid T m 0 (.inr ⟨by omega, by omega, by omega⟩) (sub_all b p (by omega) (by omega)) hn hkid

/-! ### Depths -/
omit T in
theorem hand_other {i m c : Nat} {k : Int} {dl : List Int} (h : k ≠ (c : Int)) : (hand i m k dl).getD c 0 = dl.getD c 0 := by
  unfold hand
  split
  · rw [List.getD_eq_getElem?_getD, List.getElem?_set, if_neg (by omega), ← List.getD_eq_getElem?_getD]
  · rfl
omit T in
theorem hand_at {i m c : Nat} {k : Int} {dl : List Int} (h : (i : Int) < k ∧ k < m) (hk : k = (c : Int)) (hc : c < dl.length) : (hand i m k dl).getD c 0 = dl.getD i 0 := by
  unfold hand
  rw [if_pos h, hk, Int.toNat_natCast, set_get hc]
omit T in
theorem set_other {i c : Nat} {x : Int} {dl : List Int} (h : i ≠ c) : (dl.set i x).getD c 0 = dl.getD c 0 := by
  rw [List.getD_eq_getElem?_getD, List.getElem?_set, if_neg h, ← List.getD_eq_getElem?_getD]
omit T in
theorem getD_at {i : Nat} {n : KN} (hn : ns[i]? = some n) : ns.getD i default = n := by simp [List.getD_eq_getElem?_getD, hn]
/-- A node's own depth is told once. -/
theorem dst_own {i : Nat} {n : KN} (hn : ns[i]? = some n) : (dst ns (i + 1)).2.getD i 0 = (dst ns i).2.getD i 0 + 1 := by
  have hm := T.len
  have hS := T.shp
  have hi := (List.getElem?_eq_some_iff.1 hn).1
  have o := hS.1 i n hn
  simp only [dst, getD_at hn]
  rw [hand_other (by have := o.2.2.2; omega), hand_other (by have := o.2.2.1; omega), set_get (by rw [dst_len]; exact hi)]
theorem dst_kid {i c : Nat} {n : KN} (hn : ns[i]? = some n) (h : kid n c) : (dst ns (i + 1)).2.getD c 0 = (dst ns (i + 1)).2.getD i 0 := by
  have hm := T.len
  have hS := T.shp
  have hi := (List.getElem?_eq_some_iff.1 hn).1
  have g := kid_gt T hn h
  have o := hS.1 i n hn
  rw [dst_own T hn]
  simp only [dst, getD_at hn]
  have e0 : ((dst ns i).2.set i ((dst ns i).2.getD i 0 + 1)).getD i 0 = (dst ns i).2.getD i 0 + 1 := set_get (by rw [dst_len]; exact hi)
  have e1 : (hand i ns.length n.lf ((dst ns i).2.set i ((dst ns i).2.getD i 0 + 1))).getD i 0 = (dst ns i).2.getD i 0 + 1 := by
    rw [hand_other (by have := o.2.2.1; omega), e0]
  by_cases hr : n.rt = (c : Int)
  · rw [hand_at (by omega) hr (by rw [hand_len, List.length_set, dst_len]; omega), e1]
  · have hl : n.lf = (c : Int) := h.resolve_right hr
    rw [hand_other hr, hand_at (by omega) hl (by rw [List.length_set, dst_len]; omega), e0]
theorem dst_stay {i c : Nat} : ∀ d : Nat, i + d ≤ m → (∀ q n, i ≤ q → q < i + d → ns[q]? = some n → c ≠ q ∧ ¬kid n c) → (dst ns (i + d)).2.getD c 0 = (dst ns i).2.getD c 0
  | 0, _, _ => rfl
  | d + 1, hd, h => by
    have hm := T.len
    have hS := T.shp
    obtain ⟨n, hn⟩ : ∃ n, ns[i + d]? = some n := ⟨_, List.getElem?_eq_getElem (by omega)⟩
    obtain ⟨h1, h2⟩ := h (i + d) n (by omega) (by omega) hn
    rw [← dst_stay d (by omega) fun q n hq hq2 hn => h q n hq (by omega) hn, show i + (d + 1) = (i + d) + 1 by omega]
    simp only [dst, getD_at hn]
    rw [hand_other (fun e => h2 (.inr e)), hand_other (fun e => h2 (.inl e)), set_other (fun e => h1 e.symm)]
/-- How deep a node stands. -/
theorem lev_def {c : Nat} (hc : c < m) : (dst ns m).2.getD c 0 = (dst ns (c + 1)).2.getD c 0 := by
  have hm := T.len
  have hS := T.shp
  have := dst_stay T (i := c + 1) (c := c) (m - (c + 1)) (by omega) fun q n hq _ hn => ⟨by omega, fun hk => by have := kid_gt T hn hk; omega⟩
  rw [show c + 1 + (m - (c + 1)) = m by omega] at this
  exact this
theorem lev_root (h0 : 0 < m) : (dst ns m).2.getD 0 0 = 1 := by
  have hm := T.len
  have hS := T.shp
  obtain ⟨n, hn⟩ : ∃ n, ns[0]? = some n := ⟨_, List.getElem?_eq_getElem (by omega)⟩
  rw [lev_def T h0, dst_own T hn]
  simp [dst, List.getD_eq_getElem?_getD, show 0 < ns.length by omega]
theorem lev_kid {p c : Nat} {n : KN} (hn : ns[p]? = some n) (h : kid n c) : (dst ns m).2.getD c 0 = (dst ns m).2.getD p 0 + 1 := by
  have hm := T.len
  have hS := T.shp
  have g := kid_gt T hn h
  obtain ⟨n2, hn2⟩ : ∃ n, ns[c]? = some n := ⟨_, List.getElem?_eq_getElem (by omega)⟩
  rw [lev_def T g.2, lev_def T (c := p) (by omega), dst_own T hn2, ← dst_kid T hn h]
  have := dst_stay T (i := p + 1) (c := c) (c - (p + 1)) (by omega) fun q n' hq hq2 hn' => ⟨by omega, fun hk => by have := par_one T hn hn' h hk; omega⟩
  rw [show p + 1 + (c - (p + 1)) = c by omega] at this
  rw [this]
theorem most_step {i : Nat} (hi : i < m) : (dst ns (i + 1)).1 = if (dst ns m).2.getD i 0 > (dst ns i).1 then (dst ns m).2.getD i 0 else (dst ns i).1 := by
  have hm := T.len
  have hS := T.shp
  obtain ⟨n, hn⟩ : ∃ n, ns[i]? = some n := ⟨_, List.getElem?_eq_getElem (by omega)⟩
  rw [lev_def T hi, dst_own T hn]
  simp only [dst]
  rw [set_get (by rw [dst_len]; omega)]
theorem most_ge : ∀ i, i ≤ m → ∀ j, j < i → (dst ns m).2.getD j 0 ≤ (dst ns i).1
  | 0, _, j, h => by omega
  | i + 1, hi, j, h => by
    have hm := T.len
    have hS := T.shp
    rw [most_step T (i := i) (by omega)]
    rcases Nat.lt_or_ge j i with h1 | h1
    · have := most_ge i (by omega) j h1
      split <;> omega
    · obtain rfl : j = i := by omega
      split <;> omega
theorem most_is : ∀ i, 0 < i → i ≤ m → ∃ j, j < i ∧ (dst ns i).1 = (dst ns m).2.getD j 0
  | 0, h, _ => by omega
  | i + 1, _, hi => by
    have hm := T.len
    have hS := T.shp
    rw [most_step T (i := i) (by omega)]
    split
    · exact ⟨i, by omega, rfl⟩
    · rename_i hc
      by_cases h0 : 0 < i
      · obtain ⟨j, h1, h2⟩ := most_is i h0 (by omega)
        exact ⟨j, by omega, h2⟩
      · exfalso
        obtain rfl : i = 0 := by omega
        have := lev_root T (by omega)
        rw [this] at hc
        simp [dst] at hc
theorem dep_ge : ∀ (F : Nat) (a : Int) (k : Nat), k ∈ sub ns F a → (dst ns m).2.getD k 0 + 1 ≤ (dst ns m).2.getD a.toNat 0 + dep ns F a
  | 0, a, k, h => by cases h
  | F + 1, a, k, h => by
    have hm := T.len
    have hS := T.shp
    obtain ⟨n, h0, hn, h⟩ := sub_in h
    rw [dep_succ h0 hn]
    have r1 := (dep_rng (ns := ns) F n.lf).1
    have r2 := (dep_rng (ns := ns) F n.rt).1
    rcases h with h | h | h
    · subst h; split <;> omega
    · have g := sub_ge hS.1 F n.lf k h
      have := dep_ge F n.lf k h
      have e := lev_kid T hn (c := n.lf.toNat) (.inl (by omega))
      split <;> omega
    · have g := sub_ge hS.1 F n.rt k h
      have := dep_ge F n.rt k h
      have e := lev_kid T hn (c := n.rt.toNat) (.inr (by omega))
      split <;> omega
theorem dep_is : ∀ (F : Nat) (a : Int), 0 ≤ a → Wi m F a → ∃ k, k < m ∧ (dst ns m).2.getD k 0 + 1 = (dst ns m).2.getD a.toNat 0 + dep ns F a
  | 0, a, h0, hw => by unfold Wi at hw; omega
  | F + 1, a, h0, hw => by
    have hm := T.len
    have hS := T.shp
    have ham : a < m := by unfold Wi at hw; omega
    obtain ⟨n, hn⟩ : ∃ n, ns[a.toNat]? = some n := ⟨_, List.getElem?_eq_getElem (by omega)⟩
    have ho := hS.1 _ n hn
    have hwn : Wi m (F + 1) ((a.toNat : Nat) : Int) := by rw [Int.toNat_of_nonneg h0]; exact hw
    rw [dep_succ h0 hn]
    have r1 := (dep_rng (ns := ns) F n.lf).1
    have r2 := (dep_rng (ns := ns) F n.rt).1
    have z1 : n.lf < 0 → dep ns F n.lf = 0 := dep_neg
    have z2 : n.rt < 0 → dep ns F n.rt = 0 := dep_neg
    split
    · rename_i hc
      have h1 : 0 ≤ n.rt := by
        by_cases g : n.rt < 0
        · have := z2 g; omega
        · omega
      obtain ⟨k, hk, e⟩ := dep_is F n.rt h1 (Wi.rt ho hwn)
      have e2 := lev_kid T hn (c := n.rt.toNat) (.inr (by omega))
      exact ⟨k, hk, by omega⟩
    · rename_i hc
      by_cases g : n.lf < 0
      · have := z1 g
        exact ⟨a.toNat, by omega, by omega⟩
      · obtain ⟨k, hk, e⟩ := dep_is F n.lf (by omega) (Wi.lf ho hwn)
        have e2 := lev_kid T hn (c := n.lf.toNat) (.inl (by omega))
        exact ⟨k, hk, by omega⟩
/-- The program's depth is the document's. -/
theorem dst_dep : (dst ns ns.length).1 = dep ns m 0 := by
  have hm := T.len
  have hS := T.shp
  rw [hm]
  by_cases h0 : 0 < m
  · obtain ⟨j, hj, e⟩ := most_is T m h0 (Nat.le_refl _)
    have g := dep_ge T m 0 j (sub_all T j j (Nat.le_refl _) hj)
    obtain ⟨k, hk, e2⟩ := dep_is T m 0 (Int.le_refl _) (.inr ⟨by omega, by omega, by omega⟩)
    have g2 := most_ge T m (Nat.le_refl _) k hk
    have r := lev_root T h0
    rw [Int.toNat_zero, r] at g e2
    omega
  · obtain rfl : m = 0 := by omega
    rfl
end
end Go.Px.Na

/- Ku: plain: the tree that is built of points fits them, and is not deep. -/
import Derived.Test.YtejnnginkadecaaGreatKc
import Derived.Test.YtejnnginkadecaaGreatKn
set_option linter.unusedVariables false
set_option linter.unusedSimpArgs false
namespace Go.Px.Na
/-- How nodes are made of points. -/
inductive Bt (ps : List V3) : Nat → Nat → List Nat → List KN → Int → Prop
  | nil (base deep : Nat) : Bt ps base deep [] [] (-1)
  | node (base deep : Nat) (pts l r : List Nat) (x : Nat) (N1 N2 : List KN) (r1 r2 : Int) (hs : srt (le3 ps ((deep % 3 : Nat) : Int)) pts = l ++ x :: r) (hl : l.length = pts.length / 2)
      (h1 : Bt ps (base + 1) (deep + 1) l N1 r1) (h2 : Bt ps (base + 1 + N1.length) (deep + 1) r N2 r2) : Bt ps base deep pts (⟨(x : Int), ((deep % 3 : Nat) : Int), r1, r2⟩ :: (N1 ++ N2)) (base : Int)
theorem bt_Bt {ps : List V3} : ∀ (f base : Nat) (pts : List Nat) (deep : Nat), pts.length ≤ f → Bt ps base deep pts (bt ps f base pts deep).1 (bt ps f base pts deep).2
  | f, base, pts, deep, h => by
    by_cases hp : pts = []
    · subst hp; rw [bt_nil]; exact .nil base deep
    · have hpos : 0 < pts.length := List.length_pos_iff.2 hp
      obtain ⟨f, rfl⟩ : ∃ q, f = q + 1 := ⟨f - 1, by omega⟩
      rw [bt_succ hp]
      have hsl := srt_len (le := le3 ps ((deep % 3 : Nat) : Int)) pts
      generalize hs : srt (le3 ps ((deep % 3 : Nat) : Int)) pts = s at hsl ⊢
      have hh : pts.length / 2 < s.length := by omega
      refine .node base deep pts (s.take (pts.length / 2)) (s.drop (pts.length / 2 + 1)) _ _ _ _ _ ?_ (by rw [List.length_take]; omega) (bt_Bt f _ _ _ (by rw [List.length_take]; omega)) (bt_Bt f _ _ _ (by rw [List.length_drop]; omega))
      rw [hs, List.getD_eq_getElem?_getD, List.getElem?_eq_getElem hh]
      simp
section
variable {ps : List V3} {base deep : Nat} {pts : List Nat} {N : List KN} {r : Int}
theorem Bt.len (H : Bt ps base deep pts N r) : N.length = pts.length := by
  induction H with
  | nil => rfl
  | node base deep pts l r x N1 N2 r1 r2 hs hl h1 h2 i1 i2 =>
    have := srt_len (le := le3 ps ((deep % 3 : Nat) : Int)) pts
    rw [hs] at this
    simp at this ⊢; omega
theorem Bt.root (H : Bt ps base deep pts N r) : (N = [] ∧ r = -1) ∨ (0 < N.length ∧ r = (base : Int)) := by
  cases H with
  | nil => exact .inl ⟨rfl, rfl⟩
  | node => exact .inr ⟨by simp, rfl⟩
theorem Bt.perm (H : Bt ps base deep pts N r) : (N.map KN.pt).Perm (iz pts) := by
  induction H with
  | nil => exact .refl _
  | node base deep pts l r x N1 N2 r1 r2 hs hl h1 h2 i1 i2 =>
    have hp := (srt_perm (le := le3 ps ((deep % 3 : Nat) : Int)) pts).map fun (i : Nat) => (i : Int)
    rw [hs] at hp
    refine .trans ?_ hp
    simp only [List.map_cons, List.map_append]
    exact (((i1.append i2).cons (x : Int))).trans (List.perm_middle.symm)
theorem Bt.own (H : Bt ps base deep pts N r) : ∀ (j : Nat) (n : KN), N[j]? = some n → (0 ≤ n.ax ∧ n.ax ≤ 2) ∧ (n.lf = -1 ∨ ((base + j : Nat) : Int) < n.lf ∧ n.lf < ((base + N.length : Nat) : Int)) ∧ (n.rt = -1 ∨ ((base + j : Nat) : Int) < n.rt ∧ n.rt < ((base + N.length : Nat) : Int)) := by
  induction H with
  | nil => intro j n h; simp at h
  | node base deep pts l r x N1 N2 r1 r2 hs hl h1 h2 i1 i2 =>
    intro j n h
    cases j with
    | zero =>
      simp at h; subst h
      have q1 := h1.root; have q2 := h2.root
      simp only [List.length_cons, List.length_append]
      refine ⟨by omega, ?_, ?_⟩
      · rcases q1 with ⟨_, q⟩ | ⟨g, q⟩
        · exact .inl q
        · right; omega
      · rcases q2 with ⟨_, q⟩ | ⟨g, q⟩
        · exact .inl q
        · right; omega
    | succ j =>
      simp only [List.getElem?_cons_succ] at h
      simp only [List.length_cons, List.length_append]
      rcases Nat.lt_or_ge j N1.length with hj | hj
      · rw [List.getElem?_append_left hj] at h
        have := i1 j n h
        refine ⟨this.1, ?_, ?_⟩ <;> omega
      · rw [List.getElem?_append_right hj] at h
        have := i2 _ n h
        refine ⟨this.1, ?_, ?_⟩ <;> omega
theorem Bt.kids (H : Bt ps base deep pts N r) : ∀ c : Nat, (Na.kids N).count (c : Int) = if base < c ∧ c < base + N.length then 1 else 0 := by
  induction H with
  | nil => intro c; simp [Na.kids]; omega
  | node base deep pts l r x N1 N2 r1 r2 hs hl h1 h2 i1 i2 =>
    intro c
    have e : Na.kids (⟨(x : Int), ((deep % 3 : Nat) : Int), r1, r2⟩ :: (N1 ++ N2)) = r1 :: r2 :: (Na.kids N1 ++ Na.kids N2) := by simp [Na.kids]
    rw [e, List.count_cons, List.count_cons, List.count_append, i1 c, i2 c]
    simp only [List.length_cons, List.length_append, beq_iff_eq]
    have a1 : (r1 = (c : Int)) ↔ (0 < N1.length ∧ c = base + 1) := by
      rcases h1.root with ⟨g, q⟩ | ⟨g, q⟩
      · subst g; simp; omega
      · omega
    have a2 : (r2 = (c : Int)) ↔ (0 < N2.length ∧ c = base + 1 + N1.length) := by
      rcases h2.root with ⟨g, q⟩ | ⟨g, q⟩
      · subst g; simp; omega
      · omega
    simp only [a1, a2]
    split <;> split <;> split <;> split <;> split <;> omega
end
theorem mid_get {A N B : List KN} {j : Nat} (h : j < N.length) : (A ++ N ++ B)[A.length + j]? = N[j]? := by
  rw [List.append_assoc, List.getElem?_append_right (by omega), Nat.add_sub_cancel_left, List.getElem?_append_left h]
theorem rng_cons (a k : Nat) : List.range' a (k + 1) = a :: List.range' (a + 1) k := rfl
section
variable {ps : List V3} {base deep : Nat} {pts : List Nat} {N : List KN} {r : Int}
theorem Bt.sub (H : Bt ps base deep pts N r) : ∀ (A B : List KN), A.length = base → ∀ F, N.length ≤ F → Na.sub (A ++ N ++ B) F r = List.range' base N.length := by
  induction H with
  | nil => intro A B hA F hF; rw [sub_neg (by omega)]; rfl
  | node base deep pts l r x N1 N2 r1 r2 hs hl h1 h2 i1 i2 =>
    intro A B hA F hF
    simp only [List.length_cons, List.length_append] at hF
    obtain ⟨F, rfl⟩ : ∃ q, F = q + 1 := ⟨F - 1, by omega⟩
    have hn := mid_get (A := A) (N := ⟨(x : Int), ((deep % 3 : Nat) : Int), r1, r2⟩ :: (N1 ++ N2)) (B := B) (j := 0) (by simp)
    rw [Nat.add_zero, hA, List.getElem?_cons_zero] at hn
    rw [sub_succ (by omega) (by rw [Int.toNat_natCast]; exact hn), Int.toNat_natCast]
    have e1 : A ++ ⟨(x : Int), ((deep % 3 : Nat) : Int), r1, r2⟩ :: (N1 ++ N2) ++ B = (A ++ [⟨(x : Int), ((deep % 3 : Nat) : Int), r1, r2⟩]) ++ N1 ++ (N2 ++ B) := by simp
    have e2 : A ++ ⟨(x : Int), ((deep % 3 : Nat) : Int), r1, r2⟩ :: (N1 ++ N2) ++ B = (A ++ ⟨(x : Int), ((deep % 3 : Nat) : Int), r1, r2⟩ :: N1) ++ N2 ++ B := by simp
    have k1 := i1 (A ++ [⟨(x : Int), ((deep % 3 : Nat) : Int), r1, r2⟩]) (N2 ++ B) (by simp [hA]) F (by omega)
    have k2 := i2 (A ++ ⟨(x : Int), ((deep % 3 : Nat) : Int), r1, r2⟩ :: N1) B (by simp [hA]; omega) F (by omega)
    rw [← e1] at k1
    rw [← e2] at k2
    rw [k1, k2]
    simp only [List.length_cons, List.length_append]
    rw [rng_cons, List.range'_append_1]
theorem le_side {i x : Nat} {b : Int} (h : le3 ps b i x = true) : axQ (ps.getD i o3) b ≤ axQ (ps.getD x o3) b := by
  rw [le3_iff] at h
  rcases h with h | ⟨h, _⟩
  · exact Rat.le_of_lt h
  · rw [h]; exact Rat.le_refl
theorem cq_m {x y : Rat} (h : x ≤ y) : 0 ≤ cmpQ x y * (-1) := by
  have h1 := cq_gt (x := x) (y := y)
  have : ¬ 0 < cmpQ x y := fun g => by have := h1.1 g; exact absurd h (Rat.not_le.2 this)
  omega
theorem cq_p {x y : Rat} (h : y ≤ x) : 0 ≤ cmpQ x y * 1 := by
  have h1 := cq_lt (x := x) (y := y)
  have : ¬ cmpQ x y < 0 := fun g => by have := h1.1 g; exact absurd h (Rat.not_le.2 this)
  omega
theorem Bt.sides (H : Bt ps base deep pts N r) : ∀ (A B : List KN), A.length = base → ∀ M, N.length ≤ M → ∀ n ∈ N, Sides (A ++ N ++ B) ps M n := by
  induction H with
  | nil => intro A B hA M hM n hn; cases hn
  | node base deep pts l r x N1 N2 r1 r2 hs hl h1 h2 i1 i2 =>
    intro A B hA M hM n hn
    simp only [List.length_cons, List.length_append] at hM
    have e1 : A ++ ⟨(x : Int), ((deep % 3 : Nat) : Int), r1, r2⟩ :: (N1 ++ N2) ++ B = (A ++ [⟨(x : Int), ((deep % 3 : Nat) : Int), r1, r2⟩]) ++ N1 ++ (N2 ++ B) := by simp
    have e2 : A ++ ⟨(x : Int), ((deep % 3 : Nat) : Int), r1, r2⟩ :: (N1 ++ N2) ++ B = (A ++ ⟨(x : Int), ((deep % 3 : Nat) : Int), r1, r2⟩ :: N1) ++ N2 ++ B := by simp
    have l1 : (A ++ [(⟨(x : Int), ((deep % 3 : Nat) : Int), r1, r2⟩ : KN)]).length = base + 1 := by simp [hA]
    have l2 : (A ++ (⟨(x : Int), ((deep % 3 : Nat) : Int), r1, r2⟩ : KN) :: N1).length = base + 1 + N1.length := by simp [hA]; omega
    rcases List.mem_cons.1 hn with rfl | hn
    · have so := srt3_sorted (ps := ps) (b := ((deep % 3 : Nat) : Int)) pts
      rw [hs, List.pairwise_append, List.pairwise_cons] at so
      have ptin : ∀ {N' : List KN} {pts' : List Nat} (p : (N'.map KN.pt).Perm (iz pts')) (n : KN), n ∈ N' → ∃ y ∈ pts', n.pt = (y : Int) := fun p n hn => by
        have := p.mem_iff.1 (List.mem_map_of_mem (f := KN.pt) hn)
        obtain ⟨y, hy, e⟩ := List.mem_map.1 this
        exact ⟨y, hy, e.symm⟩
      constructor
      · intro k hk
        have k1 := h1.sub (A ++ [⟨(x : Int), ((deep % 3 : Nat) : Int), r1, r2⟩]) (N2 ++ B) l1 M (by omega)
        rw [← e1] at k1
        simp only at hk
        rw [k1, List.mem_range'_1] at hk
        have hg := mid_get (A := A ++ [⟨(x : Int), ((deep % 3 : Nat) : Int), r1, r2⟩]) (N := N1) (B := N2 ++ B) (j := k - (base + 1)) (by omega)
        rw [l1, show base + 1 + (k - (base + 1)) = k by omega, ← e1] at hg
        have hlt : k - (base + 1) < N1.length := by omega
        rw [List.getElem?_eq_getElem hlt] at hg
        obtain ⟨y, hy, ey⟩ := ptin h1.perm _ (List.getElem_mem hlt)
        unfold side pax
        rw [List.getD_eq_getElem?_getD (l := A ++ _ ++ B), hg]
        simp only [Option.getD_some, ey, Int.toNat_natCast]
        exact cq_m (le_side (so.2.2 y hy x (List.mem_cons_self ..)))
      · intro k hk
        have k1 := h2.sub (A ++ ⟨(x : Int), ((deep % 3 : Nat) : Int), r1, r2⟩ :: N1) B l2 M (by omega)
        rw [← e2] at k1
        simp only at hk
        rw [k1, List.mem_range'_1] at hk
        have hg := mid_get (A := A ++ ⟨(x : Int), ((deep % 3 : Nat) : Int), r1, r2⟩ :: N1) (N := N2) (B := B) (j := k - (base + 1 + N1.length)) (by omega)
        rw [l2, show base + 1 + N1.length + (k - (base + 1 + N1.length)) = k by omega, ← e2] at hg
        have hlt : k - (base + 1 + N1.length) < N2.length := by omega
        rw [List.getElem?_eq_getElem hlt] at hg
        obtain ⟨y, hy, ey⟩ := ptin h2.perm _ (List.getElem_mem hlt)
        unfold side pax
        rw [List.getD_eq_getElem?_getD (l := A ++ _ ++ B), hg]
        simp only [Option.getD_some, ey, Int.toNat_natCast]
        exact cq_p (le_side (so.2.1.1 y hy))
    · rcases List.mem_append.1 hn with hn | hn
      · have := i1 (A ++ [⟨(x : Int), ((deep % 3 : Nat) : Int), r1, r2⟩]) (N2 ++ B) l1 M (by omega) n hn
        rw [← e1] at this; exact this
      · have := i2 (A ++ ⟨(x : Int), ((deep % 3 : Nat) : Int), r1, r2⟩ :: N1) B l2 M (by omega) n hn
        rw [← e2] at this; exact this
end
theorem tre_Bt (ps : List V3) : Bt ps 0 0 (List.range ps.length) (tre ps) (bt ps ps.length 0 (List.range ps.length) 0).2 := bt_Bt _ _ _ _ (by simp)
theorem tre_fits {ps : List V3} (h : ps.length ≤ 1000) : Fit (tre ps) ps := by
  have H := tre_Bt ps
  have hl := tre_len ps
  refine ⟨h, hl, ⟨fun i n hn => ?_, ?_, fun c h0 h1 => ?_⟩, fun i n hn => ?_⟩
  · have := H.own i n hn
    have hm := H.perm.mem_iff.1 (List.mem_map_of_mem (f := KN.pt) (List.mem_of_getElem? hn))
    obtain ⟨y, hy, e⟩ := List.mem_map.1 hm
    have hy := List.mem_range.1 hy
    simp only [Nat.zero_add] at this
    rw [hl] at this
    exact ⟨by omega, this.1, this.2.1, this.2.2⟩
  · refine H.perm.nodup_iff.2 ?_
    unfold iz
    rw [List.nodup_iff_pairwise_ne, List.pairwise_map]
    exact List.nodup_range.imp fun h e => h (by omega)
  · rw [H.kids c, if_pos (by omega)]
  · have := H.sides [] [] rfl ps.length (by omega) n (List.mem_of_getElem? hn)
    simpa using this
end Go.Px.Na

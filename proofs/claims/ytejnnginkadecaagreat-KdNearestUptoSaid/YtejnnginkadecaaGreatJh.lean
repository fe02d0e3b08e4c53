/- Jh: plain: heaps, and the nearest so far. -/
import Derived.Test.YtejnnginkadecaaGreatKk
import Derived.Test.YtejnnginkadecaaGreatKz
set_option linter.unusedVariables false
set_option linter.unusedSimpArgs false
namespace Go.Px.Na
theorem bhd_asym {f g : FD} (h : bhd f g) : ¬bhd g f := fun z => bhd_irr (bhd_trans h z)
/-- No one stands behind its parent. -/
def Hp (h : List FD) : Prop := ∀ i, 0 < i → i < h.length → ¬bhd (h.getD i default) (h.getD ((i - 1) / 2) default)
theorem Hp.top {h : List FD} (H : Hp h) : ∀ (b i : Nat), i ≤ b → i < h.length → ¬bhd (h.getD i default) (h.getD 0 default)
  | b, 0, _, _ => bhd_irr
  | 0, i + 1, hb, _ => by omega
  | b + 1, i + 1, hb, hi => bhd_ntrans (H (i + 1) (by omega) hi) (H.top b ((i + 1 - 1) / 2) (by omega) (by omega))
theorem sw_get {h : List FD} {i p j : Nat} (hi : i < h.length) (hp : p < h.length) : (sw h i p).getD j default = if j = p then h.getD i default else if j = i then h.getD p default else h.getD j default := by
  unfold sw
  rw [List.getD_eq_getElem?_getD, List.getElem?_set]
  by_cases e1 : p = j
  · rw [if_pos e1, if_pos (by rw [List.length_set]; omega), if_pos e1.symm]; rfl
  · rw [if_neg e1, if_neg (fun z => e1 z.symm), List.getElem?_set]
    by_cases e2 : i = j
    · rw [if_pos e2, if_pos (by omega), if_pos e2.symm]; rfl
    · rw [if_neg e2, if_neg (fun z => e2 z.symm), ← List.getD_eq_getElem?_getD]
theorem up_hp : ∀ (f : Nat) (h : List FD) (i : Nat), i ≤ f → i < h.length → (∀ j, 0 < j → j < h.length → j ≠ i → ¬bhd (h.getD j default) (h.getD ((j - 1) / 2) default)) →
    (∀ j, 0 < j → j < h.length → (j - 1) / 2 = i → 0 < i → ¬bhd (h.getD j default) (h.getD ((i - 1) / 2) default)) → Hp (upF f h i)
  | f, h, i, hf, hi, h1, h2 => by
    by_cases hs : ¬(0 < i) ∨ ¬bhd (h.getD i default) (h.getD ((i - 1) / 2) default)
    · rw [upF_stop hs]
      intro j j0 jl
      by_cases e : j = i
      · subst e; exact hs.resolve_left (fun z => z j0)
      · exact h1 j j0 jl e
    · have hb : bhd (h.getD i default) (h.getD ((i - 1) / 2) default) := Classical.byContradiction fun z => hs (.inr z)
      have i0 : 0 < i := Classical.byContradiction fun z => hs (.inl z)
      obtain ⟨f, rfl⟩ : ∃ q, f = q + 1 := ⟨f - 1, by omega⟩
      rw [upF_go i0 hb]
      obtain ⟨p, hp⟩ : ∃ p, p = (i - 1) / 2 := ⟨_, rfl⟩
      rw [← hp] at hb ⊢
      have pl : p < h.length := by omega
      have h2' : ∀ j, 0 < j → j < h.length → (j - 1) / 2 = i → ¬bhd (h.getD j default) (h.getD p default) := fun j a b c => by
        have := h2 j a b c i0; rwa [← hp] at this
      refine up_hp f (sw h i p) p (by omega) (by rw [sw_len]; exact pl) (fun j j0 jl jp => ?_) fun j j0 jl jp p0 => ?_
      · rw [sw_len] at jl
        rw [sw_get hi pl, sw_get hi pl, if_neg jp]
        by_cases e : j = i
        · rw [if_pos e, e, ← hp, if_pos rfl]; exact bhd_asym hb
        · rw [if_neg e]
          by_cases e2 : (j - 1) / 2 = p
          · rw [if_pos e2]
            have := h1 j j0 jl e
            rw [e2] at this
            exact fun z => this (bhd_trans z hb)
          · rw [if_neg e2]
            by_cases e3 : (j - 1) / 2 = i
            · rw [if_pos e3]; exact h2' j j0 jl e3
            · rw [if_neg e3]; exact h1 j j0 jl e
      · rw [sw_len] at jl
        rw [sw_get hi pl, sw_get hi pl, if_neg (show ¬j = p by omega), if_neg (show ¬(p - 1) / 2 = p by omega), if_neg (show ¬(p - 1) / 2 = i by omega)]
        have gp := h1 p p0 pl (by omega)
        by_cases e : j = i
        · rw [if_pos e]; exact gp
        · rw [if_neg e]
          have := h1 j j0 jl e
          rw [jp] at this
          exact bhd_ntrans this gp
theorem b2_same {h : List FD} {i : Nat} (e : b2 h i = i) : (2 * i + 1 < h.length → ¬bhd (h.getD (2 * i + 1) default) (h.getD i default)) ∧ (2 * i + 2 < h.length → ¬bhd (h.getD (2 * i + 2) default) (h.getD i default)) := by
  have e1 : b1 h i = i := by
    unfold b2 at e
    split at e
    · omega
    · exact e
  refine ⟨fun hl hb => ?_, fun hl hb => ?_⟩
  · rw [b1_y hl hb] at e1; omega
  · rw [b2_y hl (by rw [e1]; exact hb)] at e; omega
theorem b2_other {h : List FD} {i : Nat} (e : b2 h i ≠ i) : (b2 h i = 2 * i + 1 ∨ b2 h i = 2 * i + 2) ∧ bhd (h.getD (b2 h i) default) (h.getD i default) ∧ ∀ j, 0 < j → j < h.length → (j - 1) / 2 = i → ¬bhd (h.getD j default) (h.getD (b2 h i) default) := by
  by_cases c1 : 2 * i + 1 < h.length ∧ bhd (h.getD (2 * i + 1) default) (h.getD i default)
  · have e1 := b1_y c1.1 c1.2
    by_cases c2 : 2 * i + 2 < h.length ∧ bhd (h.getD (2 * i + 2) default) (h.getD (2 * i + 1) default)
    · have e2 := b2_y (h := h) (i := i) c2.1 (by rw [e1]; exact c2.2)
      rw [e2]
      refine ⟨.inr rfl, bhd_trans c2.2 c1.2, fun j j0 jl jp => ?_⟩
      rcases (show j = 2 * i + 1 ∨ j = 2 * i + 2 by omega) with rfl | rfl
      · exact bhd_asym c2.2
      · exact bhd_irr
    · have e2 : b2 h i = 2 * i + 1 := by unfold b2; rw [e1, if_neg c2]
      rw [e2]
      refine ⟨.inl rfl, c1.2, fun j j0 jl jp => ?_⟩
      rcases (show j = 2 * i + 1 ∨ j = 2 * i + 2 by omega) with rfl | rfl
      · exact bhd_irr
      · exact fun z => c2 ⟨jl, z⟩
  · have e1 : b1 h i = i := by unfold b1; rw [if_neg c1]
    by_cases c2 : 2 * i + 2 < h.length ∧ bhd (h.getD (2 * i + 2) default) (h.getD i default)
    · have e2 := b2_y (h := h) (i := i) c2.1 (by rw [e1]; exact c2.2)
      rw [e2]
      refine ⟨.inr rfl, c2.2, fun j j0 jl jp => ?_⟩
      rcases (show j = 2 * i + 1 ∨ j = 2 * i + 2 by omega) with rfl | rfl
      · exact fun z => c1 ⟨jl, bhd_trans z c2.2⟩
      · exact bhd_irr
    · exact absurd (by unfold b2; rw [e1, if_neg c2]) e
theorem dn_hp : ∀ (f : Nat) (h : List FD) (i : Nat), h.length ≤ i + f → i < h.length → (∀ j, 0 < j → j < h.length → (j - 1) / 2 ≠ i → ¬bhd (h.getD j default) (h.getD ((j - 1) / 2) default)) →
    (∀ j, 0 < j → j < h.length → (j - 1) / 2 = i → 0 < i → ¬bhd (h.getD j default) (h.getD ((i - 1) / 2) default)) → Hp (dnF f h i)
  | 0, h, i, hf, hi, _, _ => by omega
  | f + 1, h, i, hf, hi, h1, h2 => by
    by_cases e : b2 h i = i
    · rw [dnF_stop e]
      obtain ⟨g1, g2⟩ := b2_same e
      intro j j0 jl
      by_cases jp : (j - 1) / 2 = i
      · rw [jp]
        rcases (show j = 2 * i + 1 ∨ j = 2 * i + 2 by omega) with rfl | rfl
        · exact g1 jl
        · exact g2 jl
      · exact h1 j j0 jl jp
    · rw [dnF_go e]
      obtain ⟨g1, g2, g3⟩ := b2_other e
      have bl := (b2_rng (h := h) (i := i) hi).2
      generalize b2 h i = b at g1 g2 g3 bl ⊢
      have bp : (b - 1) / 2 = i := by omega
      refine dn_hp f (sw h i b) b (by rw [sw_len]; omega) (by rw [sw_len]; exact bl) (fun j j0 jl jp => ?_) fun j j0 jl jp b0 => ?_
      · rw [sw_len] at jl
        rw [sw_get hi bl, sw_get hi bl, if_neg jp]
        by_cases e1 : j = b
        · rw [if_pos e1, e1, bp, if_pos rfl]; exact bhd_asym g2
        · rw [if_neg e1]
          by_cases e2 : j = i
          · rw [if_pos e2, e2, if_neg (show ¬(i - 1) / 2 = i by omega)]
            exact h2 b (by omega) bl bp (by omega)
          · rw [if_neg e2]
            by_cases e3 : (j - 1) / 2 = i
            · rw [if_pos e3]; exact g3 j j0 jl e3
            · rw [if_neg e3]; exact h1 j j0 jl e3
      · rw [sw_len] at jl
        rw [sw_get hi bl, sw_get hi bl, if_neg (show ¬j = b by omega), if_neg (show ¬j = i by omega), if_neg (show ¬(b - 1) / 2 = b by omega), bp, if_pos rfl]
        have := h1 j j0 jl (by omega)
        rwa [jp] at this
theorem app_get {h : List FD} {f : FD} {j : Nat} (hj : j < h.length) : (h ++ [f]).getD j default = h.getD j default := by
  rw [List.getD_eq_getElem?_getD, List.getElem?_append_left hj, ← List.getD_eq_getElem?_getD]
theorem tk_hp {k : Int} {h : List FD} {f : FD} (hk : 0 < k) (H : Hp h) : Hp (tkF k h f) := by
  unfold tkF
  split
  · refine up_hp _ _ _ (by omega) (by simp) (fun j j0 jl je => ?_) fun j j0 jl jp _ => ?_
    · simp at jl je
      rw [app_get (by omega), app_get (by omega)]
      exact H j j0 (by omega)
    · simp at jl jp; omega
  · split
    · have gs : ∀ j, 0 < j → (h.set 0 f).getD j default = h.getD j default := fun j j0 => by
        rw [List.getD_eq_getElem?_getD, List.getElem?_set, if_neg (by omega), ← List.getD_eq_getElem?_getD]
      refine dn_hp _ _ 0 (by omega) (by rw [List.length_set]; omega) (fun j j0 jl je => ?_) fun j j0 jl jp h0 => by omega
      rw [List.length_set] at jl
      rw [gs j j0, gs _ (by omega)]
      exact H j j0 jl
    · exact H

/-! ### The nearest so far -/
theorem srtF_eq {l l' : List FD} (p : l.Perm l') : srtF l = srtF l' := srtF_one ((srtF_perm l).trans (p.trans (srtF_perm l').symm)) (srtF_sorted l) (srtF_sorted l')
theorem srtF_len (l : List FD) : (srtF l).length = l.length := (srtF_perm l).length_eq
theorem ins_far {f : FD} : ∀ (k : Nat) (S : List FD), (∀ y ∈ S.take k, bhd f y) → (insF f S).take k = if S.length < k then S ++ [f] else S.take k
  | 0, S, _ => by simp
  | k + 1, [], _ => by simp [insF]
  | k + 1, y :: r, h => by
    have hy : bhd f y := h y (by simp)
    rw [insF, if_pos hy, List.take_succ_cons, ins_far k r fun z hz => h z (by simp [hz])]
    simp only [List.length_cons, List.take_succ_cons]
    by_cases c : r.length < k
    · rw [if_pos c, if_pos (by omega)]; rfl
    · rw [if_neg c, if_neg (by omega)]
theorem ins_near {f : FD} : ∀ (k : Nat) (S : List FD) (r : FD), S[k]? = some r → bhd r f → S.Pairwise (fun f g => ¬bhd f g) → (insF f S).take (k + 1) = insF f (S.take k)
  | 0, y :: q, r, h, hb, _ => by
    simp at h; subst h
    rw [insF, if_neg (bhd_asym hb)]
    simp [insF]
  | k + 1, y :: q, r, h, hb, hp => by
    have hp2 := List.pairwise_cons.1 hp
    simp only [List.getElem?_cons_succ] at h
    rw [List.take_succ_cons, insF, insF]
    split
    · rw [List.take_succ_cons, ins_near k q r h hb hp2.2]
    · rw [List.take_succ_cons, List.take_succ_cons]
/-- A heap has the so many nearest of what was told. -/
structure Bst (k : Nat) (h V : List FD) : Prop where
  hp : Hp h
  eq : srtF h = (srtF V).take k
theorem Bst.perm {k : Nat} {h V W : List FD} (B : Bst k h V) (p : V.Perm W) : Bst k h W := ⟨B.hp, by rw [B.eq, srtF_eq p]⟩
theorem Bst.len {k : Nat} {h V : List FD} (B : Bst k h V) : h.length = min k V.length := by
  rw [← srtF_len h, B.eq, List.length_take, srtF_len]
theorem Bst.mem {k : Nat} {h V : List FD} (B : Bst k h V) {y : FD} : y ∈ h ↔ y ∈ (srtF V).take k := by
  rw [← B.eq, (srtF_perm h).mem_iff]
theorem Bst.top {k : Nat} {h V : List FD} (B : Bst k h V) {y : FD} (hy : y ∈ h) : ¬bhd y (h.getD 0 default) := by
  obtain ⟨i, hi⟩ := List.mem_iff_getElem?.1 hy
  have hl := (List.getElem?_eq_some_iff.1 hi).1
  have := B.hp.top i i (Nat.le_refl _) hl
  rwa [List.getD_eq_getElem?_getD, hi] at this
theorem ne_bhd {f g : FD} (h : f.pt ≠ g.pt) (h2 : ¬bhd f g) : bhd g f := Classical.byContradiction fun z => h (bhd_tot h2 z).2
theorem Bst.take {k : Nat} {K : Int} {h V : List FD} {f : FD} (hK : K = (k : Int)) (hk : 0 < k) (B : Bst k h V) (hf : ∀ y ∈ V, y.pt ≠ f.pt) : Bst k (tkF K h f) (f :: V) := by
  subst hK
  refine ⟨tk_hp (by omega) B.hp, ?_⟩
  have hl := B.len
  show srtF (tkF k h f) = (insF f (srtF V)).take k
  unfold tkF
  split
  · rename_i c
    have hV : V.length < k := by omega
    have e0 : (srtF V).take k = srtF V := List.take_of_length_le (by rw [srtF_len]; omega)
    have hB := B.eq
    rw [e0] at hB
    have p : h.Perm V := (srtF_perm h).symm.trans (hB ▸ srtF_perm V)
    rw [srtF_eq ((upF_perm _ _ _ (by simp)).trans ((List.perm_append_comm).trans (p.cons f)))]
    show insF f (srtF V) = _
    rw [List.take_of_length_le]
    rw [(insF_perm f _).length_eq, List.length_cons, srtF_len]; omega
  · rename_i c
    have hkl : h.length = k := by omega
    obtain ⟨q, rfl⟩ : ∃ q, k = q + 1 := ⟨k - 1, by omega⟩
    have hVl : q < (srtF V).length := by rw [srtF_len]; omega
    split
    · rename_i hb
      -- the top goes
      have htop : (srtF V)[q]? = some (h.getD 0 default) := by
        have h0 : h.getD 0 default ∈ (srtF V).take (q + 1) := B.mem.1 (by rw [List.getD_eq_getElem?_getD, List.getElem?_eq_getElem (by omega)]; exact List.getElem_mem _)
        obtain ⟨i, hi⟩ := List.mem_iff_getElem?.1 h0
        have hil := (List.getElem?_eq_some_iff.1 hi).1
        rw [List.length_take] at hil
        rw [List.getElem?_take_of_lt (by omega)] at hi
        have hs := srtF_sorted V
        rw [List.pairwise_iff_getElem] at hs
        have hq : (srtF V)[q]'hVl ∈ h := B.mem.2 (List.mem_iff_getElem?.2 ⟨q, by rw [List.getElem?_take_of_lt (by omega)]; exact List.getElem?_eq_getElem hVl⟩)
        have t1 := B.top hq
        have hi2 : (srtF V)[i]'(by omega) = h.getD 0 default := by
          rw [List.getElem?_eq_getElem (by omega)] at hi; exact Option.some.inj hi
        by_cases e : i = q
        · subst e; exact hi
        · have := hs i q (by omega) hVl (by omega)
          rw [hi2] at this
          rw [List.getElem?_eq_getElem hVl, bhd_anti t1 this]
      have e1 := ins_near q (srtF V) _ htop hb (srtF_sorted V)
      rw [e1]
      rw [srtF_eq (dnF_perm _ _ _ (by rw [List.length_set]; omega))]
      refine srtF_one ?_ (srtF_sorted _) (insF_sorted _ _ ((srtF_sorted V).sublist (List.take_sublist _ _)))
      refine (srtF_perm _).trans (.trans ?_ (insF_perm f _).symm)
      match h, hkl, B, hb, htop with
      | x :: r, hkl, B, hb, htop =>
        simp only [List.set_cons_zero]
        refine List.Perm.cons f ?_
        simp only [List.getD_cons_zero] at htop
        have p1 : (x :: r).Perm ((srtF V).take (q + 1)) := (srtF_perm (x :: r)).symm.trans (by rw [B.eq])
        rw [List.take_add_one, htop] at p1
        exact (List.perm_cons x).1 (p1.trans (List.perm_append_comm (l₁ := (srtF V).take q) (l₂ := [x])))
    · rename_i hb
      rw [ins_far (q + 1) (srtF V) fun y hy => ?_, if_neg (by omega), B.eq]
      have hyh := B.mem.2 hy
      have hyV : y ∈ V := (srtF_perm V).mem_iff.1 (List.mem_of_mem_take hy)
      exact ne_bhd (hf y hyV) (bhd_ntrans (B.top hyh) hb)
/-- What is no nearer than all of them changes nothing. -/
theorem Bst.more {k : Nat} {h V : List FD} (B : Bst k h V) (hk : k ≤ h.length) : ∀ Q : List FD, (∀ q ∈ Q, ∀ y ∈ h, bhd q y) → Bst k h (Q ++ V)
  | [], _ => B
  | q :: r, hQ => by
    have ih := Bst.more B hk r fun q hq => hQ q (by simp [hq])
    refine ⟨B.hp, ?_⟩
    show _ = (insF q (srtF (r ++ V))).take k
    have hl := ih.len
    rw [ins_far k _ fun y hy => hQ q (by simp) y (ih.mem.2 hy), if_neg (by rw [srtF_len]; omega), ih.eq]
end Go.Px.Na

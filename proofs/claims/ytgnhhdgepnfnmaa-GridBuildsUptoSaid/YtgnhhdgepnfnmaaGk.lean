/- Gk: what a play leaves: each point in the chain of its slot; with one worker the grid that is built. -/
import Derived.Test.YtgnhhdgepnfnmaaGq
set_option linter.unusedVariables false
set_option linter.unusedSimpArgs false
namespace Go.Px.Na

theorem gset_ne {α : Type} {l : List α} {p q : Nat} {v d : α} (h : p ≠ q) : (l.set q v).getD p d = l.getD p d := by
  simp only [List.getD_eq_getElem?_getD, List.getElem?_set, if_neg (Ne.symm h)]
theorem gset_eq {α : Type} {l : List α} {q : Nat} {v d : α} (h : q < l.length) : (l.set q v).getD q d = v := by
  simp [List.getD_eq_getElem?_getD, List.getElem?_set, h]
theorem Ch.set {next : List Int} {q : Nat} {v : Int} : ∀ {c : List Nat} {a : Int}, q ∉ c → Ch next a c → Ch (next.set q v) a c
  | [], a, _, h => h
  | p :: c, a, hq, h => by
    refine ⟨h.1, by simpa using h.2.1, ?_⟩
    rw [gset_ne (fun e => hq (by simp [e]))]
    exact Ch.set (fun hm => hq (by simp [hm])) h.2.2
theorem fl_set {q : Nat} {c : List Nat} : ∀ {cs : List (List Nat)} {s : Nat}, cs[s]? = some c → ((cs.set s (q :: c)).flatten).Perm (q :: cs.flatten)
  | [], s, h => by simp at h
  | x :: l, 0, h => by simp at h; subst h; simp
  | x :: l, s + 1, h => by
    have := fl_set (q := q) (cs := l) (s := s) (by simpa using h)
    simp only [List.set_cons_succ, List.flatten_cons]
    exact (List.Perm.append_left x this).trans List.perm_middle

def Held (ws : List Wk) (p : Nat) : Prop := ∃ (j : Nat) (x : Wk), ws[j]? = some x ∧ x.st ≠ 0 ∧ x.pt = p
def Ho (ws : List Wk) (i p : Nat) : Prop := ∃ (j : Nat) (x : Wk), j ≠ i ∧ ws[j]? = some x ∧ x.st ≠ 0 ∧ x.pt = p
def Dst (ws : List Wk) : Prop := ∀ (i j : Nat) (x y : Wk), ws[i]? = some x → ws[j]? = some y → x.st ≠ 0 → y.st ≠ 0 → x.pt = y.pt → i = j
section
variable {ws : List Wk} {i p : Nat} {x y : Wk}
theorem held_iff (hx : ws[i]? = some x) : Held ws p ↔ (x.st ≠ 0 ∧ x.pt = p) ∨ Ho ws i p := by
  constructor
  · rintro ⟨j, z, h1, h2, h3⟩
    by_cases hj : j = i
    · subst hj; rw [hx] at h1; cases h1; exact .inl ⟨h2, h3⟩
    · exact .inr ⟨j, z, hj, h1, h2, h3⟩
  · rintro (⟨h1, h2⟩ | ⟨j, z, _, h1, h2, h3⟩)
    · exact ⟨i, x, hx, h1, h2⟩
    · exact ⟨j, z, h1, h2, h3⟩
theorem held_set (hi : i < ws.length) : Held (ws.set i y) p ↔ (y.st ≠ 0 ∧ y.pt = p) ∨ Ho ws i p := by
  constructor
  · rintro ⟨j, z, h1, h2, h3⟩
    rw [List.getElem?_set] at h1
    by_cases hj : i = j
    · rw [if_pos hj, if_pos hi] at h1; cases h1; exact .inl ⟨h2, h3⟩
    · rw [if_neg hj] at h1; exact .inr ⟨j, z, Ne.symm hj, h1, h2, h3⟩
  · rintro (⟨h1, h2⟩ | ⟨j, z, h0, h1, h2, h3⟩)
    · exact ⟨i, y, by rw [List.getElem?_set, if_pos rfl, if_pos hi], h1, h2⟩
    · exact ⟨j, z, by rw [List.getElem?_set, if_neg (Ne.symm h0)]; exact h1, h2, h3⟩
theorem dst_ho (hd : Dst ws) (hx : ws[i]? = some x) (h : x.st ≠ 0) : ¬Ho ws i x.pt := fun ⟨j, z, h0, h1, h2, h3⟩ => h0 (hd j i z x h1 hx h2 h h3)
theorem dst_set (hd : Dst ws) (hi : i < ws.length) (h : y.st ≠ 0 → ¬Ho ws i y.pt) : Dst (ws.set i y) := by
  intro a b u v hu hv h1 h2 h3
  rw [List.getElem?_set] at hu hv
  by_cases ha : i = a
  · rw [if_pos ha, if_pos hi] at hu; cases hu
    by_cases hb : i = b
    · omega
    · rw [if_neg hb] at hv
      exact absurd ⟨b, v, Ne.symm hb, hv, h2, h3.symm⟩ (h h1)
  · rw [if_neg ha] at hu
    by_cases hb : i = b
    · rw [if_pos hb, if_pos hi] at hv; cases hv
      exact absurd ⟨a, u, Ne.symm ha, hu, h1, h3⟩ (h h2)
    · rw [if_neg hb] at hv; exact hd a b u v hu hv h1 h2 h3
end
/-- The points that were laid stand in their chains. -/
def KI (n : Nat) (ss : List Int) (w : Wd) : Prop := ∃ cs : List (List Nat), cs.length = n ∧ Chs w.heads w.next ss cs ∧ cs.flatten.Nodup ∧ (∀ p, p ∈ cs.flatten ↔ (p < w.ctr ∧ ¬Held w.ws p)) ∧ Dst w.ws ∧
  ∀ (i : Nat) (x : Wk), w.ws[i]? = some x → x.st = 3 → w.next.getD x.pt 0 = x.no
section
variable {n N W : Nat} {ss picks : List Int} {w : Wd} {i : Nat}
theorem stp_ki (hw : PF n N W ss w) (hk : KI n ss w) (hi : i < w.ws.length) (he : ena N w i = true) (hsl : ∀ p, p < N → sl ss p < n ∧ ss.getD p 0 = (sl ss p : Int)) : KI n ss (stp ss w i) := by
  obtain ⟨x, hx⟩ : ∃ x, w.ws[i]? = some x := ⟨_, List.getElem?_eq_getElem hi⟩
  obtain ⟨hs, hp⟩ := hw.wk i x hx
  obtain ⟨cs, k1, k2, k3, k4, k5, k6⟩ := hk
  have nx : ∀ (y : Wk), y.st ≠ 3 → ∀ (j : Nat) (z : Wk), (w.ws.set i y)[j]? = some z → z.st = 3 → w.next.getD z.pt 0 = z.no := fun y hy j z hz h3 => by
    rw [List.getElem?_set] at hz
    by_cases hj : i = j
    · rw [if_pos hj, if_pos hi] at hz; cases hz; exact absurd h3 hy
    · rw [if_neg hj] at hz; exact k6 j z hz h3
  unfold stp
  simp only [hx]
  split
  · rename_i h0
    have hno : ¬Ho w.ws i w.ctr := fun ⟨j, z, _, h1, h2, h3⟩ => by have := (hw.wk j z h1).2 h2; omega
    refine ⟨cs, k1, k2, k3, fun p => ?_, dst_set k5 hi fun _ => hno, nx _ (by simp)⟩
    rw [k4, held_iff hx, held_set hi]
    simp only [h0, ne_eq, not_true_eq_false, false_and, false_or, Nat.one_ne_zero, not_false_eq_true, true_and]
    constructor
    · rintro ⟨a, b⟩; exact ⟨by omega, fun h => h.elim (fun h => by omega) b⟩
    · rintro ⟨a, b⟩
      refine ⟨?_, fun h => b (.inr h)⟩
      rcases Nat.lt_or_ge p w.ctr with h | h
      · exact h
      · exact absurd (.inl (by omega)) b
  rename_i h0
  have hpN : x.pt < N := Nat.lt_of_lt_of_le (hp h0) hw.cl
  have hno := dst_ho k5 hx h0
  have same : ∀ (st : Nat) (no : Int), st ≠ 0 → ∀ p, Held (w.ws.set i ⟨st, x.pt, no⟩) p ↔ Held w.ws p := fun st no h p => by
    rw [held_iff hx, held_set hi]; simp [h0, h]
  split
  · exact ⟨cs, k1, k2, k3, fun p => by rw [k4, same _ _ (by simp)], dst_set k5 hi fun _ => hno, nx _ (by simp)⟩
  split
  · rename_i h2
    have hnc : x.pt ∉ cs.flatten := fun hm => ((k4 _).1 hm).2 ((held_iff hx).2 (.inl ⟨h0, rfl⟩))
    refine ⟨cs, k1, fun j c hc => ?_, k3, fun p => by rw [k4, same _ _ (by simp)], dst_set k5 hi fun _ => hno, fun j z hz h3 => ?_⟩
    · obtain ⟨g1, g2⟩ := k2 j c hc
      exact ⟨g1.set fun hm => hnc (List.mem_flatten.2 ⟨c, List.mem_of_getElem? hc, hm⟩), g2⟩
    · rw [List.getElem?_set] at hz
      by_cases hj : i = j
      · rw [if_pos hj, if_pos hi] at hz; cases hz
        exact gset_eq (by rw [hw.nl]; exact hpN)
      · rw [if_neg hj] at hz
        simp only
        rw [gset_ne (fun e => hno ⟨j, z, Ne.symm hj, hz, by omega, e⟩)]
        exact k6 j z hz h3
  rename_i h1 h2
  have h3 : x.st = 3 := by omega
  split
  · rename_i hf
    obtain ⟨hs1, hs2⟩ := hsl x.pt hpN
    obtain ⟨c, hc⟩ : ∃ c, cs[sl ss x.pt]? = some c := ⟨_, List.getElem?_eq_getElem (by omega)⟩
    obtain ⟨g1, g2⟩ := k2 _ c hc
    have hnc : x.pt ∉ cs.flatten := fun hm => ((k4 _).1 hm).2 ((held_iff hx).2 (.inl ⟨h0, rfl⟩))
    have hperm := fl_set (q := x.pt) hc
    refine ⟨cs.set (sl ss x.pt) (x.pt :: c), by simp [k1], fun j d hd => ?_, (hperm.nodup_iff).2 (List.nodup_cons.2 ⟨hnc, k3⟩), fun p => ?_, dst_set k5 hi fun h => absurd rfl h, nx _ (by simp)⟩
    · rw [List.getElem?_set] at hd
      by_cases hj : sl ss x.pt = j
      · rw [if_pos hj, if_pos (by omega)] at hd; cases hd
        subst hj
        refine ⟨?_, fun p hp => ?_⟩
        · simp only
          rw [gset_eq (by rw [hw.hl]; exact hs1)]
          refine ⟨rfl, by rw [hw.nl]; exact hpN, ?_⟩
          rw [k6 i x hx h3, ← hf]; exact g1
        · rcases List.mem_cons.1 hp with rfl | hp
          · exact hs2
          · exact g2 p hp
      · rw [if_neg hj] at hd
        simp only
        rw [gset_ne (Ne.symm hj)]
        exact k2 j d hd
    · rw [hperm.mem_iff, List.mem_cons, k4, held_iff hx, held_set hi]
      simp only [ne_eq, not_true_eq_false, false_and, false_or, h0, not_false_eq_true, true_and]
      constructor
      · rintro (rfl | ⟨a, b⟩)
        · exact ⟨hp h0, hno⟩
        · exact ⟨a, fun h => b (.inr h)⟩
      · rintro ⟨a, b⟩
        by_cases e : p = x.pt
        · exact .inl e
        · exact .inr ⟨a, fun h => h.elim (fun h => e h.symm) b⟩
  · exact ⟨cs, k1, k2, k3, fun p => by rw [k4, same _ _ (by simp)], dst_set k5 hi fun _ => hno, nx _ (by simp)⟩
/-- At the end the grid fits. -/
theorem ki_good (hw : PF n N W ss w) (hk : KI n ss w) (hc : w.ctr = N) (hf : ∀ x ∈ w.ws, x.st = 0) : Good w.heads w.next ss := by
  obtain ⟨cs, k1, k2, k3, k4, _, _⟩ := hk
  refine ⟨cs, by rw [k1, hw.hl], k2, k3, ?_⟩
  have hm : ∀ p, p ∈ cs.flatten ↔ p < N := fun p => by
    rw [k4, hc]
    exact ⟨fun h => h.1, fun h => ⟨h, fun ⟨j, x, h1, h2, _⟩ => h2 (hf x (List.mem_of_getElem? h1))⟩⟩
  rw [hw.nl]
  refine Nat.le_antisymm (nd_len k3 fun p hp => (hm p).1 hp) ?_
  have := nd_sub (l := List.range N) (m := cs.flatten) List.nodup_range fun p hp => (hm p).2 (List.mem_range.1 hp)
  simpa using this
/-- One worker: what it has laid so far. -/
def A1 (n N : Nat) (ss : List Int) (w : Wd) : Prop := ∃ x, w.ws = [x] ∧ ∃ c, w.ctr = (if x.st = 0 then c else c + 1) ∧ w.heads = bh n ss c ∧ (x.st ≠ 0 → x.pt = c) ∧
  (x.st = 2 ∨ x.st = 3 → x.no = (bh n ss c).getD (ss.getD c 0).toNat 0) ∧ w.next = (if x.st = 3 then bn n ss (c + 1) ++ List.replicate (N - (c + 1)) (-1) else bn n ss c ++ List.replicate (N - c) (-1))
theorem stp_a1 (hw : PF n N 1 ss w) (ha : A1 n N ss w) (hi : i < w.ws.length) (he : ena N w i = true) : A1 n N ss (stp ss w i) := by
  obtain ⟨x, e1, c, e2, e3, e4, e5, e6⟩ := ha
  have hi0 : i = 0 := by rw [e1] at hi; simpa using hi
  subst hi0
  have hx : w.ws[0]? = some x := by rw [e1]; rfl
  obtain ⟨hs, hp⟩ := hw.wk 0 x hx
  unfold stp
  simp only [hx]
  simp only [e1, List.set_cons_zero]
  split
  · rename_i h0
    rw [h0] at e2 e6
    simp only [if_true] at e2
    rw [if_neg (by decide)] at e6
    exact ⟨_, rfl, c, by simp [e2], e3, fun _ => e2, fun h => (by rcases h with h | h <;> cases h), by rw [e6]; rfl⟩
  rename_i h0
  rw [if_neg h0] at e2
  have hcN : c < N := by have := hw.cl; omega
  have hpt := e4 h0
  split
  · rename_i h1
    rw [h1] at e6
    rw [if_neg (by decide)] at e6
    exact ⟨_, rfl, c, by simp [e2], e3, fun _ => hpt, fun _ => by simp only [sl, hpt, e3], by rw [e6]; rfl⟩
  split
  · rename_i h2
    rw [h2] at e6
    rw [if_neg (by decide)] at e6
    refine ⟨_, rfl, c, by simp [e2], e3, fun _ => hpt, fun _ => e5 (.inl h2), ?_⟩
    simp only [if_true]
    rw [e6, hpt, e5 (.inl h2), bn_pad hcN]
  rename_i h1 h2
  have h3 : x.st = 3 := by omega
  rw [if_pos h3] at e6
  rw [if_pos (by rw [e5 (.inr h3), e3, sl, hpt])]
  exact ⟨_, rfl, c + 1, by simp [e2], by simp only [sl, hpt, e3]; rfl, fun h => absurd rfl h, fun h => (by rcases h with h | h <;> cases h), by rw [e6]; rfl⟩

/-- The world ahead of the first step. -/
def w0 (n N W : Nat) : Wd := ⟨List.replicate n (-1), List.replicate N (-1), 0, List.replicate W ⟨0, 0, 0⟩⟩
theorem w0_pf : PF n N W ss (w0 n N W) := ⟨by simp [w0], by simp [w0], Nat.zero_le _, by simp [w0], fun i x hx => by
  have := List.mem_replicate.1 (List.mem_of_getElem? hx)
  rw [this.2]; exact ⟨by decide, fun h => absurd rfl h⟩⟩
theorem w0_ki : KI n ss (w0 n N W) := by
  refine ⟨List.replicate n [], by simp, fun i c hc => ?_, by simp, fun p => ?_, ?_, ?_⟩
  · have h1 := List.mem_replicate.1 (List.mem_of_getElem? hc)
    have h2 := (List.getElem?_eq_some_iff.1 hc).1
    rw [List.length_replicate] at h2
    rw [h1.2]
    refine ⟨?_, fun p hp => by cases hp⟩
    simp [w0, Ch, List.getD_eq_getElem?_getD, h2]
  · simp [w0]
  · intro i j x y hx _ h1
    have := List.mem_replicate.1 (List.mem_of_getElem? hx)
    rw [this.2] at h1; exact absurd rfl h1
  · intro i x hx h1
    have := List.mem_replicate.1 (List.mem_of_getElem? hx)
    rw [this.2] at h1; cases h1
theorem w0_a1 : A1 n N ss (w0 n N 1) := ⟨⟨0, 0, 0⟩, rfl, 0, rfl, rfl, fun h => absurd rfl h, fun h => (by rcases h with h | h <;> cases h), by simp [w0, bn]⟩
theorem sum_rep (f : Wk → Nat) (x : Wk) (hx : f x = 0) : ∀ W, sum f (List.replicate W x) = 0
  | 0 => rfl
  | W + 1 => by have := sum_rep f x hx W; simp only [sum, List.replicate_succ, List.map_cons, List.sum_cons] at *; omega
theorem w0_phi : phi ss N W (w0 n N W) = N * (3 * W + 1) := by
  unfold phi
  rw [show (w0 n N W).ws = List.replicate W ⟨0, 0, 0⟩ from rfl, sum_rep _ _ rfl]; rfl
theorem w0_psi : psi N (w0 n N W) = 4 * N := by
  unfold psi
  rw [show (w0 n N W).ws = List.replicate W ⟨0, 0, 0⟩ from rfl, sum_rep _ _ rfl]; rfl
/-- THE PLAY: it ends; within so many steps; it leaves a grid that fits; with one worker the one that is built. -/
theorem play_all (hW : 0 < W) (hsl : ∀ p, p < N → sl ss p < n ∧ ss.getD p 0 = (sl ss p : Int)) : ∃ K, can N (itw ss picks N (w0 n N W) K) = [] ∧ (∀ j, j < K → can N (itw ss picks N (w0 n N W) j) ≠ []) ∧ (∀ k, k ≤ K → PF n N W ss (itw ss picks N (w0 n N W) k)) ∧
    4 * N ≤ K ∧ K ≤ N * (3 * W + 1) ∧ Good (itw ss picks N (w0 n N W) K).heads (itw ss picks N (w0 n N W) K).next ss ∧
    (W = 1 → (itw ss picks N (w0 n N W) K).heads = bh n ss N ∧ (itw ss picks N (w0 n N W) K).next = bn n ss N) := by
  obtain ⟨K, h1, h2, h3⟩ := play_ends (picks := picks) (w0_pf (n := n) (N := N) (W := W) (ss := ss)) fun p hp => (hsl p hp).1
  have hpf : ∀ k, k ≤ K → PF n N W ss (itw ss picks N (w0 n N W) k) := fun k hk => itw_inv (I := PF n N W ss) w0_pf (fun w i hw _ he => stp_wf hw he) k fun j hj => h2 j (by omega)
  have hki := (itw_inv (I := fun w => PF n N W ss w ∧ KI n ss w) ⟨w0_pf (n := n) (N := N) (W := W), w0_ki⟩ (fun w i hw hi he => ⟨stp_wf hw.1 he, stp_ki hw.1 hw.2 hi he hsl⟩) K h2 (picks := picks)).2
  obtain ⟨g1, g2⟩ := can_nil (hpf K (Nat.le_refl _)) hW h1
  have h4 := play_many (picks := picks) (w0_pf (n := n) (N := N) (W := W) (ss := ss)) h2
  rw [w0_phi] at h3
  rw [w0_psi] at h4
  have h5 : psi N (itw ss picks N (w0 n N W) K) = 0 := by
    unfold psi
    rw [g1, sum_zero fun x hx => by unfold mn; rw [if_pos (g2 x hx)]]; omega
  refine ⟨K, h1, h2, hpf, by omega, by omega, ki_good (hpf K (Nat.le_refl _)) hki g1 g2, fun e => ?_⟩
  subst e
  obtain ⟨x, e1, c, e2, e3, e4, e5, e6⟩ := (itw_inv (I := fun w => PF n N 1 ss w ∧ A1 n N ss w) ⟨w0_pf (n := n) (N := N) (W := 1), w0_a1⟩ (fun w i hw hi he => ⟨stp_wf hw.1 he, stp_a1 hw.1 hw.2 hi he⟩) K h2 (picks := picks)).2
  have hx0 : x.st = 0 := g2 x (by rw [e1]; simp)
  rw [if_pos hx0, g1] at e2
  subst e2
  rw [if_neg (by rw [hx0]; decide), Nat.sub_self, List.replicate_zero, List.append_nil] at e6
  exact ⟨e3, e6⟩
end
end Go.Px.Na

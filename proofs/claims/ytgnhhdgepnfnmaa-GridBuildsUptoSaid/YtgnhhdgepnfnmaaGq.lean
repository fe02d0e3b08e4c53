/- Gq: plays of workers: that they end, within so many steps, and what they leave. -/
import Derived.Test.YtgnhhdgepnfnmaaGc
set_option linter.unusedVariables false
set_option linter.unusedSimpArgs false
namespace Go.Px.Na

structure Wk where
  st : Nat
  pt : Nat
  no : Int
structure Wd where
  heads : List Int
  next : List Int
  ctr : Nat
  ws : List Wk
def sl (ss : List Int) (p : Nat) : Nat := (ss.getD p 0).toNat
/-- A worker's step. -/
def stp (ss : List Int) (w : Wd) (i : Nat) : Wd :=
  match w.ws[i]? with
  | none => w
  | some x =>
    if x.st = 0 then ⟨w.heads, w.next, w.ctr + 1, w.ws.set i ⟨1, w.ctr, x.no⟩⟩
    else if x.st = 1 then ⟨w.heads, w.next, w.ctr, w.ws.set i ⟨2, x.pt, w.heads.getD (sl ss x.pt) 0⟩⟩
    else if x.st = 2 then ⟨w.heads, w.next.set x.pt x.no, w.ctr, w.ws.set i ⟨3, x.pt, x.no⟩⟩
    else if w.heads.getD (sl ss x.pt) 0 = x.no then ⟨w.heads.set (sl ss x.pt) x.pt, w.next, w.ctr, w.ws.set i ⟨0, x.pt, x.no⟩⟩
    else ⟨w.heads, w.next, w.ctr, w.ws.set i ⟨1, x.pt, x.no⟩⟩
/-- Can the worker make a step? -/
def ena (N : Nat) (w : Wd) (i : Nat) : Bool := decide ((w.ws.getD i ⟨0, 0, 0⟩).st ≠ 0) || decide (w.ctr < N)
def canTo (N : Nat) (w : Wd) (m : Nat) : List Nat := (List.range m).filter (ena N w)
def can (N : Nat) (w : Wd) : List Nat := canTo N w w.ws.length
/-- Which of so many is picked. -/
def pk (picks : List Int) (k m : Nat) : Nat := if k < picks.length then (picks.getD k 0 % (m : Int)).toNat else 0
def nxt (ss : List Int) (picks : List Int) (N : Nat) (w : Wd) (k : Nat) : Wd := stp ss w ((can N w).getD (pk picks k (can N w).length) 0)
def itw (ss : List Int) (picks : List Int) (N : Nat) (w0 : Wd) : Nat → Wd
  | 0 => w0
  | k + 1 => nxt ss picks N (itw ss picks N w0 k) k
theorem pk_lt {picks : List Int} {k m : Nat} (h : 0 < m) : pk picks k m < m := by
  unfold pk; split
  · have h1 := Int.emod_nonneg (picks.getD k 0) (b := (m : Int)) (by omega)
    have h2 := Int.emod_lt_of_pos (picks.getD k 0) (b := (m : Int)) (by omega)
    omega
  · exact h
theorem can_mem {N : Nat} {w : Wd} {i : Nat} (h : i ∈ can N w) : i < w.ws.length ∧ ena N w i = true := by
  simp only [can, canTo, List.mem_filter, List.mem_range] at h; exact h

/-! ### Sums -/
def sum (f : Wk → Nat) (l : List Wk) : Nat := (l.map f).sum
theorem sum_set {f : Wk → Nat} {y x : Wk} : ∀ {l : List Wk} {i : Nat}, l[i]? = some x → sum f (l.set i y) + f x = sum f l + f y
  | [], i, h => by simp at h
  | a :: l, 0, h => by simp at h; subst h; simp [sum]; omega
  | a :: l, i + 1, h => by
    have := sum_set (f := f) (l := l) (i := i) (y := y) (by simpa using h)
    simp only [sum, List.set_cons_succ, List.map_cons, List.sum_cons] at this ⊢
    omega
theorem sum_le {f g : Wk → Nat} (h : ∀ x, g x ≤ f x + 3) : ∀ (l : List Wk), sum g l ≤ sum f l + 3 * l.length
  | [] => by simp [sum]
  | a :: l => by
    have := sum_le h l
    have := h a
    simp only [sum, List.map_cons, List.sum_cons, List.length_cons] at *
    omega
theorem sum_le1 {f g : Wk → Nat} (h : ∀ x, g x ≤ f x + 3) {y : Wk} (hy : g y ≤ f y) : ∀ {l : List Wk} {i : Nat}, l[i]? = some y → sum g l ≤ sum f l + 3 * (l.length - 1)
  | [], i, hi => by simp at hi
  | a :: l, 0, hi => by
    simp at hi; subst hi
    have := sum_le h l
    simp only [sum, List.map_cons, List.sum_cons, List.length_cons] at *
    omega
  | a :: l, i + 1, hi => by
    have hi' : l[i]? = some y := by simpa using hi
    have := sum_le1 h hy hi'
    have := h a
    have hlt := (List.getElem?_eq_some_iff.1 hi').1
    simp only [sum, List.map_cons, List.sum_cons, List.length_cons] at *
    omega
theorem sum_zero {f : Wk → Nat} : ∀ {l : List Wk}, (∀ x ∈ l, f x = 0) → sum f l = 0
  | [], _ => rfl
  | a :: l, h => by
    have h1 := sum_zero (l := l) fun x hx => h x (by simp [hx])
    have h2 := h a (by simp)
    simp only [sum, List.map_cons, List.sum_cons] at *
    omega

/-! ### What is so in every play -/
structure PF (n N W : Nat) (ss : List Int) (w : Wd) : Prop where
  hl : w.heads.length = n
  nl : w.next.length = N
  cl : w.ctr ≤ N
  wl : w.ws.length = W
  wk : ∀ (i : Nat) (x : Wk), w.ws[i]? = some x → x.st ≤ 3 ∧ (x.st ≠ 0 → x.pt < w.ctr)
def cost (ss : List Int) (W : Nat) (heads : List Int) (x : Wk) : Nat :=
  if x.st = 0 then 0 else 3 * (W - 1) + (if x.st = 1 then 3 else (if heads.getD (sl ss x.pt) 0 = x.no then 0 else 3) + (if x.st = 2 then 2 else 1))
def phi (ss : List Int) (N W : Nat) (w : Wd) : Nat := (N - w.ctr) * (3 * W + 1) + sum (cost ss W w.heads) w.ws
def mn (x : Wk) : Nat := if x.st = 0 then 0 else if x.st = 1 then 3 else if x.st = 2 then 2 else 1
def psi (N : Nat) (w : Wd) : Nat := 4 * (N - w.ctr) + sum mn w.ws
section
variable {n N W : Nat} {ss picks : List Int} {w : Wd} {i : Nat} {x : Wk}
theorem cost_le (h h' : List Int) (x : Wk) : cost ss W h' x ≤ cost ss W h x + 3 := by
  unfold cost; split
  · omega
  · split
    · omega
    · split <;> split <;> omega
theorem ena_x (he : ena N w i = true) (hx : w.ws[i]? = some x) : x.st ≠ 0 ∨ w.ctr < N := by
  have e : w.ws.getD i ⟨0, 0, 0⟩ = x := by simp [List.getD_eq_getElem?_getD, hx]
  rw [ena, e] at he
  simpa using he
theorem stp_wf (hw : PF n N W ss w) (he : ena N w i = true) : PF n N W ss (stp ss w i) := by
  unfold stp
  cases hx : w.ws[i]? with
  | none => exact hw
  | some x =>
    simp only
    obtain ⟨hs, hp⟩ := hw.wk i x hx
    have hwk : ∀ (c : Nat) (y : Wk), w.ctr ≤ c → y.st ≤ 3 → (y.st ≠ 0 → y.pt < c) → ∀ (j : Nat) (z : Wk), (w.ws.set i y)[j]? = some z → z.st ≤ 3 ∧ (z.st ≠ 0 → z.pt < c) := by
      intro c y hc h1 h2 j z hz
      rw [List.getElem?_set] at hz
      split at hz
      · split at hz
        · cases hz; exact ⟨h1, h2⟩
        · cases hz
      · obtain ⟨a, b⟩ := hw.wk j z hz
        exact ⟨a, fun h => Nat.lt_of_lt_of_le (b h) hc⟩
    split
    · rename_i h0
      have hc : w.ctr < N := by rcases ena_x he hx with h | h; exact absurd h0 h; exact h
      exact ⟨hw.hl, hw.nl, hc, by simp [hw.wl], hwk _ _ (by simp) (by simp) (fun _ => by simp)⟩
    rename_i h0
    split
    · exact ⟨hw.hl, hw.nl, hw.cl, by simp [hw.wl], hwk _ _ (Nat.le_refl _) (by simp) (fun _ => hp h0)⟩
    split
    · exact ⟨hw.hl, by simp [hw.nl], hw.cl, by simp [hw.wl], hwk _ _ (Nat.le_refl _) (by simp) (fun _ => hp h0)⟩
    split
    · exact ⟨by simp [hw.hl], hw.nl, hw.cl, by simp [hw.wl], hwk _ _ (Nat.le_refl _) (by simp) (fun h => absurd rfl h)⟩
    · exact ⟨hw.hl, hw.nl, hw.cl, by simp [hw.wl], hwk _ _ (Nat.le_refl _) (by simp) (fun _ => hp h0)⟩
theorem stp_phi (hw : PF n N W ss w) (hi : i < w.ws.length) (he : ena N w i = true) (hsl : ∀ p, p < N → sl ss p < n) : phi ss N W (stp ss w i) + 1 ≤ phi ss N W w := by
  obtain ⟨x, hx⟩ : ∃ x, w.ws[i]? = some x := ⟨_, List.getElem?_eq_getElem hi⟩
  obtain ⟨hs, hp⟩ := hw.wk i x hx
  have hW : 0 < W := by rw [← hw.wl]; omega
  unfold stp phi
  simp only [hx]
  split
  · rename_i h0
    have hc : w.ctr < N := by rcases ena_x he hx with h | h; exact absurd h0 h; exact h
    have := sum_set (f := cost ss W w.heads) (y := ⟨1, w.ctr, x.no⟩) hx
    have e1 : cost ss W w.heads x = 0 := by unfold cost; rw [if_pos h0]
    have e2 : cost ss W w.heads ⟨1, w.ctr, x.no⟩ = 3 * (W - 1) + 3 := by unfold cost; rw [if_neg (Nat.succ_ne_zero _), if_pos rfl]
    obtain ⟨d, hd⟩ : ∃ d, N - w.ctr = d + 1 := ⟨N - w.ctr - 1, by omega⟩
    have e3 : (d + 1) * (3 * W + 1) = d * (3 * W + 1) + (3 * W + 1) := Nat.succ_mul d _
    rw [hd, show N - (w.ctr + 1) = d by omega, e3]
    simp only
    omega
  rename_i h0
  split
  · rename_i h1
    have := sum_set (f := cost ss W w.heads) (y := ⟨2, x.pt, w.heads.getD (sl ss x.pt) 0⟩) hx
    have e1 : cost ss W w.heads x = 3 * (W - 1) + 3 := by unfold cost; rw [if_neg h0, if_pos h1]
    have e2 : cost ss W w.heads ⟨2, x.pt, w.heads.getD (sl ss x.pt) 0⟩ = 3 * (W - 1) + 2 := by unfold cost; rw [if_neg (Nat.succ_ne_zero _), if_neg (fun z => by injection z with z; cases z), if_pos rfl, if_pos rfl]
    simp only
    omega
  rename_i h1
  split
  · rename_i h2
    have := sum_set (f := cost ss W w.heads) (y := ⟨3, x.pt, x.no⟩) hx
    have e1 : cost ss W w.heads x = 3 * (W - 1) + ((if w.heads.getD (sl ss x.pt) 0 = x.no then 0 else 3) + 2) := by unfold cost; rw [if_neg h0, if_neg h1, if_pos h2]
    have e2 : cost ss W w.heads ⟨3, x.pt, x.no⟩ = 3 * (W - 1) + ((if w.heads.getD (sl ss x.pt) 0 = x.no then 0 else 3) + 1) := by unfold cost; rw [if_neg (Nat.succ_ne_zero _), if_neg (fun z => by injection z with z; cases z)]; rfl
    simp only
    omega
  rename_i h2
  have h3 : x.st = 3 := by omega
  split
  · rename_i hf
    have h4 := sum_set (f := cost ss W w.heads) (y := ⟨0, x.pt, x.no⟩) hx
    have h5 := sum_le1 (f := cost ss W w.heads) (g := cost ss W (w.heads.set (sl ss x.pt) x.pt)) (cost_le _ _) (y := ⟨0, x.pt, x.no⟩) (by simp [cost]) (l := w.ws.set i ⟨0, x.pt, x.no⟩) (i := i) (by simp [hi])
    rw [List.length_set, hw.wl] at h5
    have e1 : cost ss W w.heads x = 3 * (W - 1) + 1 := by unfold cost; rw [if_neg h0, if_neg h1, if_pos hf, if_neg h2]
    have e2 : cost ss W w.heads ⟨0, x.pt, x.no⟩ = 0 := by unfold cost; rw [if_pos rfl]
    rw [e1, e2] at h4
    simp only
    omega
  · rename_i hf
    have := sum_set (f := cost ss W w.heads) (y := ⟨1, x.pt, x.no⟩) hx
    have e1 : cost ss W w.heads x = 3 * (W - 1) + 4 := by unfold cost; rw [if_neg h0, if_neg h1, if_neg hf, if_neg h2]
    have e2 : cost ss W w.heads ⟨1, x.pt, x.no⟩ = 3 * (W - 1) + 3 := by unfold cost; rw [if_neg (Nat.succ_ne_zero _), if_pos rfl]
    rw [e1, e2] at this
    simp only
    omega
theorem stp_psi (hw : PF n N W ss w) (hi : i < w.ws.length) (he : ena N w i = true) : psi N w ≤ psi N (stp ss w i) + 1 := by
  obtain ⟨x, hx⟩ : ∃ x, w.ws[i]? = some x := ⟨_, List.getElem?_eq_getElem hi⟩
  obtain ⟨hs, hp⟩ := hw.wk i x hx
  unfold stp psi
  simp only [hx]
  split
  · rename_i h0
    have hc : w.ctr < N := by rcases ena_x he hx with h | h; exact absurd h0 h; exact h
    have := sum_set (f := mn) (y := ⟨1, w.ctr, x.no⟩) hx
    have e1 : mn x = 0 := by simp [mn, h0]
    have e2 : mn ⟨1, w.ctr, x.no⟩ = 3 := by simp [mn]
    simp only at *
    omega
  rename_i h0
  split
  · rename_i h1
    have := sum_set (f := mn) (y := ⟨2, x.pt, w.heads.getD (sl ss x.pt) 0⟩) hx
    have e1 : mn x = 3 := by simp [mn, h1]
    have e2 : mn ⟨2, x.pt, w.heads.getD (sl ss x.pt) 0⟩ = 2 := by simp [mn]
    simp only at *
    omega
  rename_i h1
  split
  · rename_i h2
    have := sum_set (f := mn) (y := ⟨3, x.pt, x.no⟩) hx
    have e1 : mn x = 2 := by simp [mn, h2]
    have e2 : mn ⟨3, x.pt, x.no⟩ = 1 := by simp [mn]
    simp only at *
    omega
  rename_i h2
  have e1 : mn x = 1 := by simp [mn, h0, h1, h2]
  split
  · have := sum_set (f := mn) (y := ⟨0, x.pt, x.no⟩) hx
    have e2 : mn ⟨0, x.pt, x.no⟩ = 0 := by simp [mn]
    simp only at *
    omega
  · have := sum_set (f := mn) (y := ⟨1, x.pt, x.no⟩) hx
    have e2 : mn ⟨1, x.pt, x.no⟩ = 3 := by simp [mn]
    simp only at *
    omega
/-- What a step keeps, each state of a play has. -/
theorem itw_inv {I : Wd → Prop} {w0 : Wd} (h0 : I w0) (hs : ∀ w i, I w → i < w.ws.length → ena N w i = true → I (stp ss w i)) : ∀ (k : Nat), (∀ j, j < k → can N (itw ss picks N w0 j) ≠ []) → I (itw ss picks N w0 k)
  | 0, _ => h0
  | k + 1, h => by
    have ih := itw_inv h0 hs k fun j hj => h j (by omega)
    have hne := h k (by omega)
    have hm : (can N (itw ss picks N w0 k)).getD (pk picks k (can N (itw ss picks N w0 k)).length) 0 ∈ can N (itw ss picks N w0 k) := by
      have := pk_lt (picks := picks) (k := k) (List.length_pos_iff.2 hne)
      rw [List.getD_eq_getElem?_getD, List.getElem?_eq_getElem this]
      exact List.getElem_mem this
    obtain ⟨h1, h2⟩ := can_mem hm
    exact hs _ _ ih h1 h2
/-- At the end all are free, and all points were taken. -/
theorem can_nil (hw : PF n N W ss w) (hW : 0 < W) (h : can N w = []) : w.ctr = N ∧ ∀ x ∈ w.ws, x.st = 0 := by
  have hall : ∀ i, i < w.ws.length → ena N w i = false := fun i hi => by
    cases he : ena N w i with
    | false => rfl
    | true =>
      exfalso
      have : i ∈ can N w := by simp [can, canTo, hi, he]
      rw [h] at this; cases this
  have h0 := hall 0 (by rw [hw.wl]; exact hW)
  simp only [ena, Bool.or_eq_false_iff, decide_eq_false_iff_not] at h0
  refine ⟨by have := hw.cl; omega, fun x hx => ?_⟩
  obtain ⟨i, hi⟩ := List.getElem?_of_mem hx
  have h1 := hall i (List.getElem?_eq_some_iff.1 hi).1
  simp only [ena, Bool.or_eq_false_iff, decide_eq_false_iff_not, List.getD_eq_getElem?_getD, hi, Option.getD_some] at h1
  have := h1.1; omega
/-- A play ends, within so many steps. -/
theorem play_ends {w0 : Wd} (hw : PF n N W ss w0) (hsl : ∀ p, p < N → sl ss p < n) : ∃ K, can N (itw ss picks N w0 K) = [] ∧ (∀ j, j < K → can N (itw ss picks N w0 j) ≠ []) ∧ K + phi ss N W (itw ss picks N w0 K) ≤ phi ss N W w0 := by
  have step : ∀ k, (∀ j, j < k → can N (itw ss picks N w0 j) ≠ []) → PF n N W ss (itw ss picks N w0 k) ∧ k + phi ss N W (itw ss picks N w0 k) ≤ phi ss N W w0 := by
    intro k
    induction k with
    | zero => intro _; exact ⟨hw, by simp [itw]⟩
    | succ k ih =>
      intro h
      obtain ⟨h1, h2⟩ := ih fun j hj => h j (by omega)
      have hne := h k (by omega)
      have hm : (can N (itw ss picks N w0 k)).getD (pk picks k (can N (itw ss picks N w0 k)).length) 0 ∈ can N (itw ss picks N w0 k) := by
        have := pk_lt (picks := picks) (k := k) (List.length_pos_iff.2 hne)
        rw [List.getD_eq_getElem?_getD, List.getElem?_eq_getElem this]
        exact List.getElem_mem this
      obtain ⟨g1, g2⟩ := can_mem hm
      have := stp_phi h1 g1 g2 hsl
      exact ⟨stp_wf h1 g2, by show k + 1 + phi ss N W (stp ss _ _) ≤ _; omega⟩
  by_cases hex : ∃ k, can N (itw ss picks N w0 k) = []
  · obtain ⟨k, hk⟩ := hex
    have : ∃ K, can N (itw ss picks N w0 K) = [] ∧ ∀ j, j < K → can N (itw ss picks N w0 j) ≠ [] := by
      induction k using Nat.strongRecOn with
      | ind k ih =>
        by_cases h : ∃ j, j < k ∧ can N (itw ss picks N w0 j) = []
        · obtain ⟨j, h1, h2⟩ := h; exact ih j h1 h2
        · exact ⟨k, hk, fun j h1 h2 => h ⟨j, h1, h2⟩⟩
    obtain ⟨K, h1, h2⟩ := this
    exact ⟨K, h1, h2, (step K h2).2⟩
  · exfalso
    have := (step (phi ss N W w0 + 1) fun j _ h => hex ⟨j, h⟩).2
    omega
theorem play_many {w0 : Wd} (hw : PF n N W ss w0) {K : Nat} (hK : ∀ j, j < K → can N (itw ss picks N w0 j) ≠ []) : psi N w0 ≤ psi N (itw ss picks N w0 K) + K := by
  have : ∀ k, (∀ j, j < k → can N (itw ss picks N w0 j) ≠ []) → PF n N W ss (itw ss picks N w0 k) ∧ psi N w0 ≤ psi N (itw ss picks N w0 k) + k := by
    intro k
    induction k with
    | zero => intro _; exact ⟨hw, by simp [itw]⟩
    | succ k ih =>
      intro h
      obtain ⟨h1, h2⟩ := ih fun j hj => h j (by omega)
      have hne := h k (by omega)
      have hm : (can N (itw ss picks N w0 k)).getD (pk picks k (can N (itw ss picks N w0 k)).length) 0 ∈ can N (itw ss picks N w0 k) := by
        have := pk_lt (picks := picks) (k := k) (List.length_pos_iff.2 hne)
        rw [List.getD_eq_getElem?_getD, List.getElem?_eq_getElem this]
        exact List.getElem_mem this
      obtain ⟨g1, g2⟩ := can_mem hm
      have := stp_psi h1 g1 g2
      exact ⟨stp_wf h1 g2, by show _ ≤ psi N (stp ss _ _) + (k + 1); omega⟩
  exact (this K hK).2
end
end Go.Px.Na

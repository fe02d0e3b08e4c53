/- Kt: plain: the nearest points told one by one; the document's tree, the points in a row, fits. -/
import Derived.Test.YtejnnginkadecaaGreatJs
import Derived.Test.YtejnnginkadecaaGreatKu
set_option linter.unusedVariables false
set_option linter.unusedSimpArgs false
namespace Go.Px.Na
/-- Behind all that are no farther, ahead of the first that is farther. -/
theorem insF_cut {x : FD} : ∀ {F : List FD} {i : Nat}, (∀ y ∈ F, y.pt < x.pt) → i ≤ F.length → (∀ j, j < i → (F.getD j default).far ≤ x.far) → (i < F.length → ¬(F.getD i default).far ≤ x.far) → insF x F = F.take i ++ x :: F.drop i
  | [], i, _, hi, _, _ => by
    obtain rfl : i = 0 := by simpa using hi
    rfl
  | y :: r, 0, hp, _, _, hn => by
    have h1 := hn (by simp)
    have h2 : x.far < y.far := Rat.not_le.1 h1
    have : ¬bhd x y := fun z => by
      rcases z with z | ⟨z, _⟩
      · exact h1 (Rat.le_of_lt z)
      · exact h1 (by show y.far ≤ x.far; rw [z]; exact Rat.le_refl)
    simp [insF, this]
  | y :: r, i + 1, hp, hi, hj, hn => by
    have h1 : y.far ≤ x.far := hj 0 (by omega)
    have hb : bhd x y := by
      by_cases e : x.far = y.far
      · exact .inr ⟨e, hp y (by simp)⟩
      · refine .inl ?_
        have : y.far ≠ x.far := fun q => e q.symm
        grind
    have ih := insF_cut (x := x) (F := r) (i := i) (fun z hz => hp z (by simp [hz])) (by simpa using hi) (fun j hji => hj (j + 1) (by omega)) (fun hl => hn (by simpa using hl))
    simp only [insF, if_pos hb, ih, List.take_succ_cons, List.drop_succ_cons, List.cons_append]
theorem srtF_app (l : List FD) (x : FD) : srtF (l ++ [x]) = insF x (srtF l) := by
  rw [srtF_eq (l' := x :: l) List.perm_append_comm]
  rfl
/-- Points told by a number each: by their number first. -/
def numF (n : Nat) (q : Nat → Rat) : List FD := (List.range n).map fun (i : Nat) => ⟨(i : Int), q i⟩
theorem numF_succ (n : Nat) (q : Nat → Rat) : numF (n + 1) q = numF n q ++ [⟨(n : Int), q n⟩] := by
  unfold numF
  rw [List.range_succ, List.map_append]
  rfl
theorem numF_mem {n : Nat} {q : Nat → Rat} {f : FD} : f ∈ numF n q ↔ ∃ i, i < n ∧ f = ⟨(i : Int), q i⟩ := by
  unfold numF
  simp only [List.mem_map, List.mem_range]
  exact ⟨fun ⟨i, h, e⟩ => ⟨i, h, e.symm⟩, fun ⟨i, h, e⟩ => ⟨i, h, e.symm⟩⟩
theorem srtN_mem {n : Nat} {q : Nat → Rat} {f : FD} (h : f ∈ srtF (numF n q)) : ∃ i, i < n ∧ f = ⟨(i : Int), q i⟩ := numF_mem.1 ((srtF_perm _).mem_iff.1 h)
theorem srtN_len (n : Nat) (q : Nat → Rat) : (srtF (numF n q)).length = n := by rw [srtF_len]; simp [numF]
theorem srtN_cut {n : Nat} {q : Nat → Rat} {i : Nat} (hi : i ≤ n) (hj : ∀ j, j < i → ((srtF (numF n q)).getD j default).far ≤ q n) (hn : i < n → ¬((srtF (numF n q)).getD i default).far ≤ q n) :
    srtF (numF (n + 1) q) = (srtF (numF n q)).take i ++ ⟨(n : Int), q n⟩ :: (srtF (numF n q)).drop i := by
  rw [numF_succ, srtF_app]
  refine insF_cut (fun y hy => ?_) (by rw [srtN_len]; exact hi) hj (by rw [srtN_len]; exact hn)
  obtain ⟨k, hk, rfl⟩ := srtN_mem hy
  show (k : Int) < (n : Int)
  omega
theorem allF_num (ps : List V3) (c : V3) : allF ps c = numF ps.length fun i => far (ps.getD i o3) c := rfl

/-! ### The points in a row -/
def lin : Nat → List Int → List KN
  | _, [] => []
  | b, p :: r => ⟨p, 0, -1, if r.length = 0 then -1 else ((b + 1 : Nat) : Int)⟩ :: lin (b + 1) r
theorem lin_len : ∀ (b : Nat) (l : List Int), (lin b l).length = l.length
  | _, [] => rfl
  | b, p :: r => by simp [lin, lin_len (b + 1) r]
theorem lin_pt : ∀ (b : Nat) (l : List Int), (lin b l).map KN.pt = l
  | _, [] => rfl
  | b, p :: r => by simp [lin, lin_pt (b + 1) r]
theorem lin_at : ∀ (b : Nat) (l : List Int) (j : Nat) (p : Int), l[j]? = some p → (lin b l)[j]? = some ⟨p, 0, -1, if j + 1 = l.length then -1 else ((b + j + 1 : Nat) : Int)⟩
  | _, [], j, p, h => by simp at h
  | b, x :: r, 0, p, h => by
    simp only [List.getElem?_cons_zero, Option.some.injEq] at h
    subst h
    simp only [lin, List.getElem?_cons_zero, List.length_cons, Option.some.injEq]
    by_cases e : r.length = 0
    · rw [if_pos e, if_pos (by omega)]
    · rw [if_neg e, if_neg (by omega)]
  | b, x :: r, j + 1, p, h => by
    have := lin_at (b + 1) r j p (by simpa using h)
    simp only [lin, List.getElem?_cons_succ, this, List.length_cons]
    by_cases e : j + 1 = r.length
    · rw [if_pos e, if_pos (by omega)]
    · rw [if_neg e, if_neg (by omega), show b + 1 + j + 1 = b + (j + 1) + 1 by omega]
theorem lin_kids : ∀ (b : Nat) (l : List Int) (c : Nat), (kids (lin b l)).count (c : Int) = if b < c ∧ c < b + l.length then 1 else 0
  | b, [], c => by
    rw [if_neg (by simp only [List.length_nil]; omega)]; rfl
  | b, p :: r, c => by
    have e : kids (lin b (p :: r)) = -1 :: (if r.length = 0 then -1 else ((b + 1 : Nat) : Int)) :: kids (lin (b + 1) r) := by simp [lin, kids]
    rw [e, List.count_cons, List.count_cons, lin_kids (b + 1) r c]
    simp only [List.length_cons, beq_iff_eq]
    by_cases h0 : r.length = 0
    · simp only [h0, if_true]
      split <;> split <;> split <;> omega
    · simp only [h0, if_false]
      split <;> split <;> split <;> split <;> omega
/-- The document's tree. -/
def linT (ps : List V3) : List KN := lin 0 ((srtF (numF ps.length fun i => (ps.getD i o3).x)).map FD.pt)
theorem linT_len (ps : List V3) : (linT ps).length = ps.length := by
  unfold linT; rw [lin_len, List.length_map, srtN_len]
theorem linT_fits {ps : List V3} (h : ps.length ≤ 1000) : Fit (linT ps) ps := by
  have hl := linT_len ps
  unfold linT at *
  generalize hF : srtF (numF ps.length fun i => (ps.getD i o3).x) = F at hl
  have hFl : F.length = ps.length := by rw [← hF]; exact srtN_len _ _
  have hFm : ∀ f ∈ F, ∃ i, i < ps.length ∧ f = ⟨(i : Int), (ps.getD i o3).x⟩ := fun f hf => srtN_mem (by rw [hF]; exact hf)
  have hFs : F.Pairwise (fun f g => ¬bhd f g) := by rw [← hF]; exact srtF_sorted _
  have at_ : ∀ (i : Nat) (n : KN), (lin 0 (F.map FD.pt))[i]? = some n → ∃ f, F[i]? = some f ∧ n = ⟨f.pt, 0, -1, if i + 1 = ps.length then -1 else ((i + 1 : Nat) : Int)⟩ := fun i n hn => by
    have hi : i < F.length := by
      have := (List.getElem?_eq_some_iff.1 hn).1
      rw [lin_len, List.length_map] at this; exact this
    have hf : F[i]? = some F[i] := List.getElem?_eq_getElem hi
    have := lin_at 0 (F.map FD.pt) i F[i].pt (by rw [List.getElem?_map, hf]; rfl)
    rw [hn] at this
    simp only [Option.some.injEq, List.length_map, hFl, Nat.zero_add] at this
    exact ⟨F[i], hf, this⟩
  have V : ∀ i n, (lin 0 (F.map FD.pt))[i]? = some n → KOwn n i ps.length := fun i n hn => by
    obtain ⟨f, hf, rfl⟩ := at_ i n hn
    obtain ⟨k, hk, rfl⟩ := hFm f (List.mem_of_getElem? hf)
    have hi := (List.getElem?_eq_some_iff.1 hf).1
    refine ⟨⟨by show (0 : Int) ≤ (k : Int); omega, by show (k : Int) < _; omega⟩, ⟨by show (0 : Int) ≤ 0; omega, by show (0 : Int) ≤ 2; omega⟩, .inl rfl, ?_⟩
    by_cases e : i + 1 = ps.length
    · exact .inl (if_pos e)
    · refine .inr ?_
      show (i : Int) < (if i + 1 = ps.length then (-1 : Int) else _) ∧ (if i + 1 = ps.length then (-1 : Int) else _) < _
      rw [if_neg e]
      omega
  refine ⟨h, hl, ⟨V, ?_, fun c h0 h1 => ?_⟩, fun i n hn => ?_⟩
  · rw [lin_pt, ← hF]
    have hp := (srtF_perm (numF ps.length fun i => (ps.getD i o3).x)).map FD.pt
    refine hp.nodup_iff.2 ?_
    unfold numF
    rw [List.map_map, List.nodup_iff_pairwise_ne, List.pairwise_map]
    exact List.nodup_range.imp fun h e => h (by simp only [Function.comp] at e; omega)
  · rw [lin_kids, if_pos (by rw [List.length_map]; omega)]
  · obtain ⟨f, hf, hne⟩ := at_ i n hn
    refine ⟨fun k hk => ?_, fun k hk => ?_⟩
    · rw [show n.lf = -1 by rw [hne], sub_neg (by omega)] at hk
      cases hk
    · obtain ⟨g0, g1, g2⟩ := sub_ge V _ _ _ hk
      have hik : i < k := by
        have : n.rt = if i + 1 = ps.length then -1 else ((i + 1 : Nat) : Int) := by rw [hne]
        split at this <;> omega
      have hkn : (lin 0 (F.map FD.pt))[k]? = some (lin 0 (F.map FD.pt))[k] := List.getElem?_eq_getElem g2
      obtain ⟨g, hg, hge⟩ := at_ k _ hkn
      have hd : (lin 0 (F.map FD.pt)).getD k default = (lin 0 (F.map FD.pt))[k] := by rw [List.getD_eq_getElem?_getD, hkn]; rfl
      obtain ⟨a, ha, rfl⟩ := hFm f (List.mem_of_getElem? hf)
      obtain ⟨b, hb, rfl⟩ := hFm g (List.mem_of_getElem? hg)
      have hi := (List.getElem?_eq_some_iff.1 hf)
      have hk2 := (List.getElem?_eq_some_iff.1 hg)
      have hs := List.pairwise_iff_getElem.1 hFs i k hi.1 hk2.1 hik
      rw [hi.2, hk2.2] at hs
      show 0 ≤ cmpQ (axQ (ps.getD ((lin 0 (F.map FD.pt)).getD k default).pt.toNat o3) n.ax) (axQ (ps.getD n.pt.toNat o3) n.ax) * 1
      rw [hd, hge, hne]
      refine cq_p ?_
      show (ps.getD a o3).x ≤ (ps.getD b o3).x
      exact Rat.not_lt.1 fun z => hs (.inl z)
end Go.Px.Na

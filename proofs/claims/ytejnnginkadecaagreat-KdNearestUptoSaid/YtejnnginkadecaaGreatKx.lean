/- Kx: plain: how the library sorts, by a comparison that answers as an order does wherever two are not one: it meets no element with itself. -/
import Derived.Sort.LotA
import Derived.Sort.LotB
import Derived.Sort.LotC
import Derived.Sort.LotD3
import Derived.Sort.LotD4
set_option linter.unusedVariables false
set_option linter.unusedSimpArgs false
namespace Go.Px.Na
open Go.Sort
variable {α : Type} [Inhabited α]
/-- None twice. -/
def Nd (d : Array α) : Prop := ∀ i j, i < d.size → j < d.size → i ≠ j → d[i]! ≠ d[j]!
/-- So many as before, and none twice, if none was. -/
def Kp (d d' : Array α) : Prop := d'.size = d.size ∧ (Nd d → Nd d')
theorem Kp.refl (d : Array α) : Kp d d := ⟨rfl, id⟩
theorem Kp.trans {a b c : Array α} (h : Kp a b) (g : Kp b c) : Kp a c := ⟨g.1.trans h.1, fun z => g.2 (h.2 z)⟩
theorem Kp.swp {d : Array α} {i j : Nat} (hi : i < d.size) (hj : j < d.size) : Kp d (swp d i j) := by
  refine ⟨swp_size d i j, fun h p q hp hq hne => ?_⟩
  rw [swp_size] at hp hq
  rw [swp_get d hi hj, swp_get d hi hj]
  by_cases p1 : p = j
  · rw [if_pos p1, if_neg (by omega)]
    by_cases q1 : q = i
    · rw [if_pos q1]; exact h i j hi hj (by omega)
    · rw [if_neg q1]; exact h i q hi hq (by omega)
  · rw [if_neg p1]
    by_cases p2 : p = i
    · rw [if_pos p2]
      by_cases q1 : q = j
      · rw [if_pos q1]; exact h j i hj hi (by omega)
      · rw [if_neg q1, if_neg (by omega)]; exact h j q hj hq (by omega)
    · rw [if_neg p2]
      by_cases q1 : q = j
      · rw [if_pos q1]; exact h p i hp hi p2
      · rw [if_neg q1]
        by_cases q2 : q = i
        · rw [if_pos q2]; exact h p j hp hj p1
        · rw [if_neg q2]; exact h p q hp hq hne
theorem PermIn.kp {a b : Nat} {d d' : Array α} (hb : b ≤ d.size) (h : PermIn a b d d') : Kp d d' := by
  refine ⟨h.1, fun hn => ?_⟩
  have hall := permIn_mono d d' a b 0 d.size (by omega) hb (Nat.le_refl _) h
  have hp := hall.2.2
  rw [Array.extract_size] at hp
  rw [show d'.extract 0 d.size = d' by rw [← h.1, Array.extract_size]] at hp
  have h1 : d.toList.Nodup := by
    rw [List.nodup_iff_pairwise_ne, List.pairwise_iff_getElem]
    intro i j hi hj hij
    have := hn i j (by simpa using hi) (by simpa using hj) (by omega)
    rw [getElem!_pos d i (by simpa using hi), getElem!_pos d j (by simpa using hj)] at this
    simpa using this
  have h2 : d'.toList.Nodup := hp.nodup_iff.2 h1
  intro i j hi hj hij
  rw [getElem!_pos d' i hi, getElem!_pos d' j hj]
  rw [List.nodup_iff_pairwise_ne, List.pairwise_iff_getElem] at h2
  rcases Nat.lt_or_ge i j with g | g
  · exact h2 i j (by simpa using hi) (by simpa using hj) g
  · exact (h2 j i (by simpa using hj) (by simpa using hi) (by omega)).symm
section
variable {lt lu : α → α → Bool} (he : ∀ x y, x ≠ y → lt x y = lu x y)
/-! ### insertionSort -/
theorem insInner_kp {lt : α → α → Bool} (a : Nat) : ∀ (j : Nat) (d : Array α), j < d.size → Kp d (insInner lt a j d)
  | 0, d, _ => .refl d
  | j + 1, d, h => by
    rw [insInner]
    split
    · exact (Kp.swp (by omega) (by omega)).trans (insInner_kp a j _ (by rw [swp_size]; omega))
    · exact .refl d
theorem insOuter_kp {lt : α → α → Bool} (a b : Nat) : ∀ (k i : Nat) (d : Array α), b - i = k → b ≤ d.size → Kp d (insOuter lt a b i d)
  | k, i, d, hk, hb => by
    rw [insOuter]
    split
    · have h1 := insInner_kp (lt := lt) a i d (by omega)
      match k, hk with
      | 0, hk => omega
      | k + 1, hk => exact h1.trans (insOuter_kp a b k (i + 1) _ (by omega) (by rw [h1.1]; exact hb))
    · exact .refl d
include he
theorem insInner_eq (a : Nat) : ∀ (j : Nat) (d : Array α), j < d.size → Nd d → insInner lt a j d = insInner lu a j d
  | 0, d, _, _ => rfl
  | j + 1, d, h, hn => by
    rw [insInner, insInner, he _ _ (hn (j + 1) j h (by omega) (by omega)), insInner_eq a j _ (by rw [swp_size]; omega) ((Kp.swp (by omega) (by omega)).2 hn)]
theorem insOuter_eq (a b : Nat) : ∀ (k i : Nat) (d : Array α), b - i = k → b ≤ d.size → Nd d → insOuter lt a b i d = insOuter lu a b i d
  | k, i, d, hk, hb, hn => by
    rw [insOuter.eq_def lt, insOuter.eq_def lu]
    split
    · have h1 := insInner_kp (lt := lu) a i d (by omega)
      rw [insInner_eq he a i d (by omega) hn]
      match k, hk with
      | 0, hk => omega
      | k + 1, hk => exact insOuter_eq a b k (i + 1) _ (by omega) (by rw [h1.1]; exact hb) (h1.2 hn)
    · rfl
theorem insertionSort_eq {d : Array α} {a b : Nat} (hb : b ≤ d.size) (hn : Nd d) : insertionSort lt d a b = insertionSort lu d a b := insOuter_eq he a b _ _ d rfl hb hn
omit he
/-! ### heapSort -/
theorem siftDown_kp {lt : α → α → Bool} (hi first : Nat) : ∀ (k root : Nat) (d : Array α), hi - root ≤ k → first + hi ≤ d.size → Kp d (siftDown lt hi first root d)
  | k, root, d, hk, hs => by
    rw [siftDown]
    split
    · exact .refl d
    · match k, hk with
      | 0, hk => omega
      | k + 1, hk =>
        split
        · split
          · exact .refl d
          · split
            · exact (Kp.swp (by omega) (by omega)).trans (siftDown_kp hi first k _ _ (by omega) (by rw [swp_size]; exact hs))
            · exact .refl d
        · split
          · exact .refl d
          · exact (Kp.swp (by omega) (by omega)).trans (siftDown_kp hi first k _ _ (by omega) (by rw [swp_size]; exact hs))
include he
theorem siftDown_eq (hi first : Nat) : ∀ (k root : Nat) (d : Array α), hi - root ≤ k → first + hi ≤ d.size → Nd d → siftDown lt hi first root d = siftDown lu hi first root d
  | k, root, d, hk, hs, hn => by
    rw [siftDown.eq_def lt, siftDown.eq_def lu]
    split
    · rfl
    · rename_i hroot
      match k, hk with
      | 0, hk => omega
      | k + 1, hk =>
        have e1 : (decide (2 * root + 1 + 1 < hi) && lt d[first + (2 * root + 1)]! d[first + (2 * root + 1) + 1]!) = (decide (2 * root + 1 + 1 < hi) && lu d[first + (2 * root + 1)]! d[first + (2 * root + 1) + 1]!) := by
          by_cases h : 2 * root + 1 + 1 < hi
          · rw [he _ _ (hn _ _ (by omega) (by omega) (by omega))]
          · simp [h]
        rw [e1]
        split
        · rename_i hc
          have hc2 : 2 * root + 2 < hi := by
            simp only [Bool.and_eq_true, decide_eq_true_eq] at hc; omega
          rw [he _ _ (hn (first + root) (first + (2 * root + 2)) (by omega) (by omega) (by omega))]
          split
          · rfl
          · exact siftDown_eq hi first k _ _ (by omega) (by rw [swp_size]; exact hs) ((Kp.swp (by omega) (by omega)).2 hn)
        · rw [he _ _ (hn (first + root) (first + (2 * root + 1)) (by omega) (by omega) (by omega))]
          split
          · rfl
          · exact siftDown_eq hi first k _ _ (by omega) (by rw [swp_size]; exact hs) ((Kp.swp (by omega) (by omega)).2 hn)
omit he
theorem heapBuild_kp {lt : α → α → Bool} (hi first : Nat) : ∀ (k : Nat) (d : Array α), first + hi ≤ d.size → Kp d (heapBuild lt hi first k d)
  | 0, d, _ => .refl d
  | k + 1, d, hs => by
    have h1 := siftDown_kp (lt := lt) hi first _ k d (Nat.le_refl _) hs
    exact h1.trans (heapBuild_kp hi first k _ (by rw [h1.1]; exact hs))
include he
theorem heapBuild_eq (hi first : Nat) : ∀ (k : Nat) (d : Array α), first + hi ≤ d.size → Nd d → heapBuild lt hi first k d = heapBuild lu hi first k d
  | 0, d, _, _ => rfl
  | k + 1, d, hs, hn => by
    have h1 := siftDown_kp (lt := lu) hi first _ k d (Nat.le_refl _) hs
    rw [heapBuild, heapBuild, siftDown_eq he hi first _ k d (Nat.le_refl _) hs hn]
    exact heapBuild_eq hi first k _ (by rw [h1.1]; exact hs) (h1.2 hn)
theorem heapPop_eq (first : Nat) : ∀ (k : Nat) (d : Array α), first + k ≤ d.size → Nd d → heapPop lt first k d = heapPop lu first k d
  | 0, d, _, _ => rfl
  | k + 1, d, hs, hn => by
    have h0 : Kp d (swp d first (first + k)) := .swp (by omega) (by omega)
    have h1 := siftDown_kp (lt := lu) k first _ 0 (swp d first (first + k)) (Nat.le_refl _) (by rw [swp_size]; omega)
    rw [heapPop, heapPop, siftDown_eq he k first _ 0 _ (Nat.le_refl _) (by rw [swp_size]; omega) (h0.2 hn)]
    exact heapPop_eq first k _ (by rw [h1.1, h0.1]; omega) (h1.2 (h0.2 hn))
theorem heapSort_eq {d : Array α} {a b : Nat} (hab : a ≤ b) (hb : b ≤ d.size) (hn : Nd d) : heapSort lt d a b = heapSort lu d a b := by
  have h1 := heapBuild_kp (lt := lu) (b - a) a ((b - a - 1) / 2 + 1) d (by omega)
  unfold heapSort
  rw [heapBuild_eq he _ _ _ d (by omega) hn]
  exact heapPop_eq he a (b - a) _ (by rw [h1.1]; omega) (h1.2 hn)
omit he
/-! ### The partitions -/
theorem scanUp_congr {p q : α → Bool} (d : Array α) (j : Nat) : ∀ (k i : Nat), j + 1 - i = k → (∀ t, i ≤ t → t ≤ j → p d[t]! = q d[t]!) → scanUp p d j i = scanUp q d j i
  | k, i, hk, h => by
    rw [scanUp.eq_def p, scanUp.eq_def q]
    by_cases hi : i ≤ j
    · rw [h i (Nat.le_refl _) hi]
      split
      · match k, hk with
        | 0, hk => omega
        | k + 1, hk => exact scanUp_congr d j k (i + 1) (by omega) fun t h1 h2 => h t (by omega) h2
      · rfl
    · simp [hi]
theorem scanDown_congr {p q : α → Bool} (d : Array α) (i : Nat) : ∀ j, (∀ t, i ≤ t → t ≤ j → p d[t]! = q d[t]!) → scanDown p d i j = scanDown q d i j
  | 0, _ => rfl
  | j + 1, h => by
    rw [scanDown, scanDown]
    by_cases hi : i ≤ j + 1
    · rw [h (j + 1) hi (Nat.le_refl _)]
      split
      · exact scanDown_congr d i j fun t h1 h2 => h t h1 (by omega)
      · rfl
    · simp [hi]
include he
theorem up_eq {d : Array α} {a i j : Nat} (ha : a < i) (hj : j < d.size) (hn : Nd d) : scanUp (fun x => lt x d[a]!) d j i = scanUp (fun x => lu x d[a]!) d j i :=
  scanUp_congr d j _ i rfl fun t h1 h2 => he _ _ (hn t a (by omega) (by omega) (by omega))
theorem dn_eq {d : Array α} {a i j : Nat} (ha : a < i) (hj : j < d.size) (hn : Nd d) : scanDown (fun x => !lt x d[a]!) d i j = scanDown (fun x => !lu x d[a]!) d i j :=
  scanDown_congr d i j fun t h1 h2 => congrArg Bool.not (he _ _ (hn t a (by omega) (by omega) (by omega)))
theorem up_eq2 {d : Array α} {a i j : Nat} (ha : a < i) (hj : j < d.size) (hn : Nd d) : scanUp (fun x => !lt d[a]! x) d j i = scanUp (fun x => !lu d[a]! x) d j i :=
  scanUp_congr d j _ i rfl fun t h1 h2 => congrArg Bool.not (he _ _ (hn a t (by omega) (by omega) (by omega)))
theorem dn_eq2 {d : Array α} {a i j : Nat} (ha : a < i) (hj : j < d.size) (hn : Nd d) : scanDown (fun x => lt d[a]! x) d i j = scanDown (fun x => lu d[a]! x) d i j :=
  scanDown_congr d i j fun t h1 h2 => he _ _ (hn a t (by omega) (by omega) (by omega))
theorem partLoop_same (a : Nat) : ∀ (k i j : Nat) (d : Array α), j + 1 - i ≤ k → a < i → j < d.size → Nd d → partLoop lt a i j d = partLoop lu a i j d
  | k, i, j, d, hk, ha, hj, hn => by
    have hu := scanUp_ge (fun x => lu x d[a]!) d j i
    rw [partLoop_eq lt, partLoop_eq lu, up_eq he ha hj hn, dn_eq he (by omega) hj hn]
    have hd := scanDown_le (fun x => !lu x d[a]!) d (scanUp (fun x => lu x d[a]!) d j i) j
    generalize scanDown (fun x => !lu x d[a]!) d (scanUp (fun x => lu x d[a]!) d j i) j = j2 at hd ⊢
    generalize scanUp (fun x => lu x d[a]!) d j i = i2 at hu ⊢
    split
    · rfl
    · match k, hk with
      | 0, hk => omega
      | k + 1, hk => exact partLoop_same a k _ _ _ (by omega) (by omega) (by rw [swp_size]; omega) ((Kp.swp (by omega) (by omega)).2 hn)
theorem partEqLoop_same (a : Nat) : ∀ (k i j : Nat) (d : Array α), j + 1 - i ≤ k → a < i → j < d.size → Nd d → partEqLoop lt a i j d = partEqLoop lu a i j d
  | k, i, j, d, hk, ha, hj, hn => by
    have hu := scanUp_ge (fun x => !lu d[a]! x) d j i
    rw [partEqLoop_eq lt, partEqLoop_eq lu, up_eq2 he ha hj hn, dn_eq2 he (by omega) hj hn]
    have hd := scanDown_le (fun x => lu d[a]! x) d (scanUp (fun x => !lu d[a]! x) d j i) j
    generalize scanDown (fun x => lu d[a]! x) d (scanUp (fun x => !lu d[a]! x) d j i) j = j2 at hd ⊢
    generalize scanUp (fun x => !lu d[a]! x) d j i = i2 at hu ⊢
    split
    · rfl
    · match k, hk with
      | 0, hk => omega
      | k + 1, hk => exact partEqLoop_same a k _ _ _ (by omega) (by omega) (by rw [swp_size]; omega) ((Kp.swp (by omega) (by omega)).2 hn)
theorem partition_same {d : Array α} {a b pivot : Nat} (hab : a < b) (hb : b ≤ d.size) (hp : pivot < d.size) (hn : Nd d) : partition lt d a b pivot = partition lu d a b pivot := by
  have h0 : Kp d (swp d a pivot) := .swp (by omega) hp
  have hn0 := h0.2 hn
  have hs0 := h0.1
  unfold partition
  simp only []
  generalize swp d a pivot = e at hn0 hs0 ⊢
  have hu := scanUp_ge (fun x => lu x e[a]!) e (b - 1) (a + 1)
  rw [up_eq he (by omega) (by omega) hn0, dn_eq he (by omega) (by omega) hn0]
  have hd := scanDown_le (fun x => !lu x e[a]!) e (scanUp (fun x => lu x e[a]!) e (b - 1) (a + 1)) (b - 1)
  generalize scanDown (fun x => !lu x e[a]!) e (scanUp (fun x => lu x e[a]!) e (b - 1) (a + 1)) (b - 1) = j2 at hd ⊢
  generalize scanUp (fun x => lu x e[a]!) e (b - 1) (a + 1) = i2 at hu ⊢
  split
  · rfl
  · rw [partLoop_same he a _ _ _ _ (Nat.le_refl _) (by omega) (by rw [swp_size]; omega) ((Kp.swp (by omega) (by omega)).2 hn0)]
theorem partitionEqual_same {d : Array α} {a b pivot : Nat} (hab : a < b) (hb : b ≤ d.size) (hp : pivot < d.size) (hn : Nd d) : partitionEqual lt d a b pivot = partitionEqual lu d a b pivot := by
  have h0 : Kp d (swp d a pivot) := .swp (by omega) hp
  exact partEqLoop_same he a _ _ _ _ (Nat.le_refl _) (by omega) (by rw [swp_size]; omega) (h0.2 hn)
omit he
/-! ### partialInsertionSort -/
theorem scanSorted_rng {lt : α → α → Bool} (d : Array α) (b : Nat) : ∀ (k i : Nat), b - i = k → i ≤ b → i ≤ scanSorted lt d b i ∧ scanSorted lt d b i ≤ b
  | k, i, hk, hi => by
    rw [scanSorted]
    split
    · rename_i hc
      simp only [Bool.and_eq_true, decide_eq_true_eq] at hc
      match k, hk with
      | 0, hk => omega
      | k + 1, hk => have := scanSorted_rng (lt := lt) d b k (i + 1) (by omega) (by omega); omega
    · omega
theorem shiftDown_kp {lt : α → α → Bool} : ∀ (j : Nat) (d : Array α), j < d.size → Kp d (shiftDown lt j d)
  | 0, d, _ => .refl d
  | j + 1, d, h => by
    rw [shiftDown]
    split
    · exact .refl d
    · exact (Kp.swp (by omega) (by omega)).trans (shiftDown_kp j _ (by rw [swp_size]; omega))
theorem shiftUp_kp {lt : α → α → Bool} (b : Nat) : ∀ (k j : Nat) (d : Array α), b - j = k → 0 < j → b ≤ d.size → Kp d (shiftUp lt b j d)
  | k, j, d, hk, h0, hb => by
    rw [shiftUp]
    split
    · split
      · exact .refl d
      · match k, hk with
        | 0, hk => omega
        | k + 1, hk => exact (Kp.swp (by omega) (by omega)).trans (shiftUp_kp b k (j + 1) _ (by omega) (by omega) (by rw [swp_size]; omega))
    · exact .refl d
include he
theorem scanSorted_same {d : Array α} {b : Nat} (hb : b ≤ d.size) (hn : Nd d) : ∀ (k i : Nat), b - i = k → 0 < i → scanSorted lt d b i = scanSorted lu d b i
  | k, i, hk, h0 => by
    rw [scanSorted.eq_def lt, scanSorted.eq_def lu]
    by_cases hi : i < b
    · rw [he _ _ (hn i (i - 1) (by omega) (by omega) (by omega))]
      split
      · match k, hk with
        | 0, hk => omega
        | k + 1, hk => exact scanSorted_same hb hn k (i + 1) (by omega) (by omega)
      · rfl
    · simp [hi]
theorem shiftDown_same : ∀ (j : Nat) (d : Array α), j < d.size → Nd d → shiftDown lt j d = shiftDown lu j d
  | 0, d, _, _ => rfl
  | j + 1, d, h, hn => by
    rw [shiftDown, shiftDown, he _ _ (hn (j + 1) j h (by omega) (by omega)), shiftDown_same j _ (by rw [swp_size]; omega) ((Kp.swp (by omega) (by omega)).2 hn)]
theorem shiftUp_same (b : Nat) : ∀ (k j : Nat) (d : Array α), b - j = k → 0 < j → b ≤ d.size → Nd d → shiftUp lt b j d = shiftUp lu b j d
  | k, j, d, hk, h0, hb, hn => by
    rw [shiftUp.eq_def lt, shiftUp.eq_def lu]
    split
    · rw [he _ _ (hn j (j - 1) (by omega) (by omega) (by omega))]
      split
      · rfl
      · match k, hk with
        | 0, hk => omega
        | k + 1, hk => exact shiftUp_same b k (j + 1) _ (by omega) (by omega) (by rw [swp_size]; omega) ((Kp.swp (by omega) (by omega)).2 hn)
    · rfl
theorem partialIns_same (a b : Nat) : ∀ (s i : Nat) (d : Array α), 0 < i → i ≤ b → b ≤ d.size → Nd d → partialIns lt a b s i d = partialIns lu a b s i d
  | 0, i, d, _, _, _, _ => rfl
  | s + 1, i, d, h0, hi, hb, hn => by
    rw [partialIns_succ, partialIns_succ, scanSorted_same he hb hn _ i rfl h0]
    have hr := scanSorted_rng (lt := lu) d b _ i rfl hi
    generalize scanSorted lu d b i = k at hr ⊢
    split
    · rfl
    · split
      · rfl
      · have k0 : Kp d (swp d k (k - 1)) := .swp (by omega) (by omega)
        generalize swp d k (k - 1) = d1 at k0 ⊢
        have e1 : fixDown lt a k d1 = fixDown lu a k d1 := by
          unfold fixDown
          rw [shiftDown_same he (k - 1) d1 (by rw [k0.1]; omega) (k0.2 hn)]
        have k1 : Kp d (fixDown lu a k d1) := by
          unfold fixDown
          split
          · exact k0.trans (shiftDown_kp (k - 1) d1 (by rw [k0.1]; omega))
          · exact k0
        rw [e1]
        generalize fixDown lu a k d1 = d2 at k1 ⊢
        have e2 : fixUp lt b k d2 = fixUp lu b k d2 := by
          unfold fixUp
          rw [shiftUp_same he b _ (k + 1) d2 rfl (by omega) (by rw [k1.1]; omega) (k1.2 hn)]
        have k2 : Kp d (fixUp lu b k d2) := by
          unfold fixUp
          split
          · exact k1.trans (shiftUp_kp b _ (k + 1) d2 rfl (by omega) (by rw [k1.1]; omega))
          · exact k1
        rw [e2]
        exact partialIns_same a b s k _ (by omega) (by omega) (by rw [k2.1]; omega) (k2.2 hn)
theorem partialInsertionSort_same {d : Array α} {a b : Nat} (hab : a < b) (hb : b ≤ d.size) (hn : Nd d) : partialInsertionSort lt d a b = partialInsertionSort lu d a b :=
  partialIns_same he a b 5 (a + 1) d (by omega) (by omega) hb hn
/-! ### The pivot -/
end
end Go.Px.Na

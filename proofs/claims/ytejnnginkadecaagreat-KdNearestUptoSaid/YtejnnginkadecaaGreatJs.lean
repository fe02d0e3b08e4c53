/- Js: plain: what the seeker finds by a tree that fits: the nearest. -/
import Derived.Test.YtejnnginkadecaaGreatJh
import Derived.Test.YtejnnginkadecaaGreatKv
import Derived.Test.YtejnnginkadecaaGreatKo
set_option linter.unusedVariables false
set_option linter.unusedSimpArgs false
namespace Go.Px.Na
/-- A node's point, and how far it is. -/
def fdN (ps : List V3) (c : V3) (n : KN) : FD := ⟨n.pt, far (ps.getD n.pt.toNat o3) c⟩
def ofN (ns : List KN) (ps : List V3) (c : V3) (l : List Nat) : List FD := l.map fun j => fdN ps c (ns.getD j default)
theorem set_off {bs : List Bool} {i j : Nat} (h : i ≠ j) : (bs.set i true).getD j false = bs.getD j false := by
  rw [List.getD_eq_getElem?_getD, List.getElem?_set, if_neg h, ← List.getD_eq_getElem?_getD]
theorem sub_mono {ns : List KN} : ∀ (f g : Nat) (a : Int) (j : Nat), f ≤ g → j ∈ sub ns f a → j ∈ sub ns g a
  | 0, g, a, j, _, h => by cases h
  | f + 1, 0, a, j, hg, _ => by omega
  | f + 1, g + 1, a, j, hg, h => by
    obtain ⟨n, h0, hn, h⟩ := sub_in h
    rw [sub_succ h0 hn]
    rcases h with h | h | h
    · rw [h]; exact List.mem_cons_self ..
    · have := sub_mono f g n.lf j (by omega) h; simp [this]
    · have := sub_mono f g n.rt j (by omega) h; simp [this]
theorem sq_le {d u : Rat} (h0 : 0 ≤ d) (h : d ≤ u) : d * d ≤ u * u := by
  have h1 : 0 ≤ (u - d) * (u + d) := Rat.mul_nonneg (by grind) (by grind)
  have h2 : (u - d) * (u + d) = u * u - d * d := by grind
  rw [h2] at h1
  grind
theorem far_ax {q c : V3} {b : Int} : (axQ c b - axQ q b) * (axQ c b - axQ q b) ≤ far q c := by
  have hx := sq_nonneg (c.x - q.x)
  have hy := sq_nonneg (c.y - q.y)
  have hz := sq_nonneg (c.z - q.z)
  simp only [far, V3.dot, V3.sub, axQ]
  split
  · grind
  · split <;> grind
theorem le_m {x y : Rat} (h : 0 ≤ cmpQ x y * (-1)) : x ≤ y := by
  refine Rat.not_lt.1 fun g => ?_
  have := (cq_gt (x := x) (y := y)).2 g
  omega
theorem le_p {x y : Rat} (h : 0 ≤ cmpQ x y * 1) : y ≤ x := by
  refine Rat.not_lt.1 fun g => ?_
  have := (cq_lt (x := x) (y := y)).2 g
  omega
/-- What lies on the farther side is no nearer than the plane. -/
theorem far_side {ns : List KN} {ps : List V3} {c : V3} {m : Nat} {n : KN} (hS : Sides ns ps m n) {j : Nat} (hj : j ∈ sub ns m (sndK ps c n)) : dq ps c n * dq ps c n ≤ (fdN ps c (ns.getD j default)).far := by
  refine Rat.le_trans ?_ (far_ax (q := ps.getD (ns.getD j default).pt.toNat o3) (c := c) (b := n.ax))
  unfold sndK at hj
  have hd : dq ps c n = axQ c n.ax - pax ps n := rfl
  split at hj
  · rename_i h0
    have h1 := le_m (hS.1 j hj)
    exact sq_le (Rat.le_of_lt h0) (by rw [hd]; grind)
  · rename_i h0
    have h1 := le_p (hS.2 j hj)
    have e : ∀ x : Rat, x * x = (-x) * (-x) := fun x => by grind
    rw [e (dq ps c n), e (axQ c n.ax - _)]
    exact sq_le (by rw [hd] at h0 ⊢; grind) (by rw [hd]; grind)
section
variable {ns : List KN} {ps : List V3} {c : V3} {k m : Nat}
theorem pt_ne (hn : (ns.map KN.pt).Nodup) {i j : Nat} (hi : i < ns.length) (hj : j < ns.length) (h : i ≠ j) : (ns.getD i default).pt ≠ (ns.getD j default).pt := by
  have g : ∀ i, ∀ hi : i < ns.length, (ns.getD i default).pt = (ns.map KN.pt)[i]'(by simpa using hi) := fun i hi => by
    rw [List.getD_eq_getElem?_getD, List.getElem?_eq_getElem hi]; simp
  rw [g i hi, g j hj]
  rw [List.nodup_iff_pairwise_ne, List.pairwise_iff_getElem] at hn
  rcases Nat.lt_or_ge i j with q | q
  · exact hn i j _ _ q
  · exact (hn j i _ _ (by omega)).symm
theorem seek_best (T : TS ns m) (hpm : ps.length = m) (hSd : ∀ (i : Nat) (n : KN), ns[i]? = some n → Sides ns ps m n) (hk : 0 < k) : ∀ (f : Nat) (s : SK) (a : Int) (V : List FD), f ≤ m → Wi m f a →
    (∀ j ∈ sub ns f a, s.seen.getD j false = false) → (∀ j ∈ sub ns f a, s.has.getD (ns.getD j default).pt.toNat false = false) → (∀ j ∈ sub ns f a, ∀ y ∈ V, y.pt ≠ (ns.getD j default).pt) → Bst k s.heap V →
    Bst k (seek ns ps c k f s a).heap (ofN ns ps c (sub ns f a) ++ V) ∧ (∀ j, j ∉ sub ns f a → (seek ns ps c k f s a).seen.getD j false = s.seen.getD j false) ∧
      ∀ p : Nat, (∀ j ∈ sub ns f a, (ns.getD j default).pt ≠ (p : Int)) → (seek ns ps c k f s a).has.getD p false = s.has.getD p false
  | 0, s, a, V, hf, hw, h1, h2, h3, B => ⟨B, fun _ _ => rfl, fun _ _ => rfl⟩
  | f + 1, s, a, V, hf, hw, h1, h2, h3, B => by
    have hm := T.len
    have hS := T.shp
    by_cases a0 : a = -1
    · subst a0
      rw [seek_out (.inl (by omega)), sub_neg (by omega)]
      exact ⟨B, fun _ _ => rfl, fun _ _ => rfl⟩
    obtain ⟨g0, g1, g2⟩ := hw.resolve_left a0
    obtain ⟨n, hn⟩ : ∃ n, ns[a.toNat]? = some n := ⟨_, List.getElem?_eq_getElem (by omega)⟩
    have hnd := getD_at hn
    have ho := hS.1 _ n hn
    have hwn : Wi m (f + 1) ((a.toNat : Nat) : Int) := by rw [Int.toNat_of_nonneg g0]; exact hw
    have wl := Wi.lf ho hwn
    have wr := Wi.rt ho hwn
    rw [sub_succ g0 hn] at h1 h2 h3 ⊢
    have ha1 := h1 a.toNat (List.mem_cons_self ..)
    have ha2 := h2 a.toNat (List.mem_cons_self ..)
    have ha3 := h3 a.toNat (List.mem_cons_self ..)
    rw [hnd] at ha2 ha3
    have geL : ∀ j ∈ sub ns f n.lf, a.toNat < j ∧ j < ns.length := fun j hj => by
      have := sub_ge hS.1 f n.lf j hj; have := ho.2.2.1; omega
    have geR : ∀ j ∈ sub ns f n.rt, a.toNat < j ∧ j < ns.length := fun j hj => by
      have := sub_ge hS.1 f n.rt j hj; have := ho.2.2.2; omega
    have apart : ∀ j, j ∈ sub ns f n.lf → j ∈ sub ns f n.rt → False := fun j hl hr => sub_apart T hn f f j j (Nat.le_refl _) hl hr
    have hno : ¬(a < 0 ∨ (ns.length : Int) ≤ a ∨ s.seen.getD a.toNat false = true) := by
      rw [ha1]; simp; omega
    rw [seek_eq hno hn (by have := ho.1; omega)]
    have e2 : sk2 ps c (k : Int) (sk1 s a) n = ⟨tkF k s.heap (fdN ps c n), s.seen.set a.toNat true, s.has.set n.pt.toNat true⟩ := by
      unfold sk2; rw [if_neg (by show ¬s.has.getD n.pt.toNat false = true; rw [ha2]; simp)]; rfl
    have B2 : Bst k (sk2 ps c (k : Int) (sk1 s a) n).heap (fdN ps c n :: V) := by rw [e2]; exact B.take rfl hk ha3
    have se2 : ∀ j, j ≠ a.toNat → (sk2 ps c (k : Int) (sk1 s a) n).seen.getD j false = s.seen.getD j false := fun j hj => by rw [e2]; exact set_off (fun e => hj e.symm)
    have hs2 : ∀ p : Nat, n.pt ≠ (p : Int) → (sk2 ps c (k : Int) (sk1 s a) n).has.getD p false = s.has.getD p false := fun p hp => by rw [e2]; exact set_off (by have := ho.1; omega)
    have hFS : (fstK ps c n = n.lf ∧ sndK ps c n = n.rt) ∨ (fstK ps c n = n.rt ∧ sndK ps c n = n.lf) := by
      unfold fstK sndK; split
      · exact .inr ⟨rfl, rfl⟩
      · exact .inl ⟨rfl, rfl⟩
    -- what both children have in common
    have inF : ∀ j, j ∈ sub ns f (fstK ps c n) → j ∈ sub ns f n.lf ∨ j ∈ sub ns f n.rt := fun j hj => by
      rcases hFS with ⟨e, _⟩ | ⟨e, _⟩ <;> rw [e] at hj
      · exact .inl hj
      · exact .inr hj
    have inS : ∀ j, j ∈ sub ns f (sndK ps c n) → j ∈ sub ns f n.lf ∨ j ∈ sub ns f n.rt := fun j hj => by
      rcases hFS with ⟨_, e⟩ | ⟨_, e⟩ <;> rw [e] at hj
      · exact .inr hj
      · exact .inl hj
    have memIn : ∀ j, j ∈ sub ns f n.lf ∨ j ∈ sub ns f n.rt → j ∈ a.toNat :: (sub ns f n.lf ++ sub ns f n.rt) := fun j hj => by
      rcases hj with hj | hj <;> simp [hj]
    have geA : ∀ j, j ∈ sub ns f n.lf ∨ j ∈ sub ns f n.rt → a.toNat < j ∧ j < ns.length := fun j hj => hj.elim (geL j) (geR j)
    have apFS : ∀ j, j ∈ sub ns f (fstK ps c n) → j ∈ sub ns f (sndK ps c n) → False := fun j h h' => by
      rcases hFS with ⟨e, e'⟩ | ⟨e, e'⟩ <;> rw [e] at h <;> rw [e'] at h'
      · exact apart j h h'
      · exact apart j h' h
    have wF : Wi m f (fstK ps c n) := by rcases hFS with ⟨e, _⟩ | ⟨e, _⟩ <;> rw [e] <;> assumption
    have wS : Wi m f (sndK ps c n) := by rcases hFS with ⟨_, e⟩ | ⟨_, e⟩ <;> rw [e] <;> assumption
    have nF : ¬a < fstK ps c n → fstK ps c n < 0 := fun h => by
      have := ho.2.2.1; have := ho.2.2.2
      rcases hFS with ⟨e, _⟩ | ⟨e, _⟩ <;> rw [e] at h ⊢ <;> omega
    have nS : ¬a < sndK ps c n → sndK ps c n < 0 := fun h => by
      have := ho.2.2.1; have := ho.2.2.2
      rcases hFS with ⟨_, e⟩ | ⟨_, e⟩ <;> rw [e] at h ⊢ <;> omega
    have al : a.toNat < ns.length := by omega
    have ptA : ∀ j, j ∈ sub ns f n.lf ∨ j ∈ sub ns f n.rt → (ns.getD j default).pt ≠ n.pt := fun j hj => by
      have := geA j hj
      have := pt_ne hS.2.1 this.2 al (by omega)
      rwa [hnd] at this
    have ptN : ∀ j, j < ns.length → (((ns.getD j default).pt.toNat : Nat) : Int) = (ns.getD j default).pt := fun j hj => by
      have := hS.1 j (ns.getD j default) (by rw [List.getD_eq_getElem?_getD, List.getElem?_eq_getElem hj]; rfl)
      have := this.1; omega
    have farS : ∀ j, j ∈ sub ns f (sndK ps c n) → dq ps c n * dq ps c n ≤ (fdN ps c (ns.getD j default)).far := fun j hj => far_side (hSd _ n hn) (sub_mono f m _ j (by omega) hj)
    unfold s3K
    generalize sk2 ps c (k : Int) (sk1 s a) n = s2 at B2 se2 hs2 ⊢
    obtain ⟨s3, e3⟩ : ∃ s3, s3 = (if a < fstK ps c n then seek ns ps c (k : Int) f s2 (fstK ps c n) else s2) := ⟨_, rfl⟩
    have H3 : Bst k s3.heap (ofN ns ps c (sub ns f (fstK ps c n)) ++ fdN ps c n :: V) ∧ (∀ j, j ∉ sub ns f (fstK ps c n) → s3.seen.getD j false = s2.seen.getD j false) ∧
        ∀ p : Nat, (∀ j ∈ sub ns f (fstK ps c n), (ns.getD j default).pt ≠ (p : Int)) → s3.has.getD p false = s2.has.getD p false := by
      rw [e3]
      split
      · refine seek_best T hpm hSd hk f s2 (fstK ps c n) (fdN ps c n :: V) (by omega) wF (fun j hj => ?_) (fun j hj => ?_) (fun j hj y hy => ?_) B2
        · have := geA j (inF j hj)
          rw [se2 j (by omega)]; exact h1 j (memIn j (inF j hj))
        · have := geA j (inF j hj)
          rw [hs2 _ (by rw [ptN j this.2]; exact (ptA j (inF j hj)).symm)]; exact h2 j (memIn j (inF j hj))
        · rcases List.mem_cons.1 hy with rfl | hy
          · exact (ptA j (inF j hj)).symm
          · exact h3 j (memIn j (inF j hj)) y hy
      · rename_i hc
        rw [sub_neg (nF hc)]
        exact ⟨B2, fun _ _ => rfl, fun _ _ => rfl⟩
    rw [← e3]
    clear e3
    obtain ⟨B3, se3, hs3⟩ := H3
    obtain ⟨s4, e4⟩ : ∃ s4, s4 = (if goK ps c (k : Int) s3 a n then seek ns ps c (k : Int) f s3 (sndK ps c n) else s3) := ⟨_, rfl⟩
    have H4 : Bst k s4.heap (ofN ns ps c (sub ns f (sndK ps c n)) ++ (ofN ns ps c (sub ns f (fstK ps c n)) ++ fdN ps c n :: V)) ∧ (∀ j, j ∉ sub ns f (sndK ps c n) → s4.seen.getD j false = s3.seen.getD j false) ∧
        ∀ p : Nat, (∀ j ∈ sub ns f (sndK ps c n), (ns.getD j default).pt ≠ (p : Int)) → s4.has.getD p false = s3.has.getD p false := by
      rw [e4]
      split
      · refine seek_best T hpm hSd hk f s3 (sndK ps c n) _ (by omega) wS (fun j hj => ?_) (fun j hj => ?_) (fun j hj y hy => ?_) B3
        · have := geA j (inS j hj)
          rw [se3 j (fun z => apFS j z hj), se2 j (by omega)]; exact h1 j (memIn j (inS j hj))
        · have := geA j (inS j hj)
          rw [hs3 _ (fun i hi => by
            rw [ptN j this.2]
            exact pt_ne hS.2.1 (geA i (inF i hi)).2 this.2 (fun e => apFS j (e ▸ hi) hj)), hs2 _ (by rw [ptN j this.2]; exact (ptA j (inS j hj)).symm)]
          exact h2 j (memIn j (inS j hj))
        · rcases List.mem_append.1 hy with hy | hy
          · obtain ⟨i, hi, rfl⟩ := List.mem_map.1 hy
            exact pt_ne hS.2.1 (geA i (inF i hi)).2 (geA j (inS j hj)).2 (fun e => apFS j (e ▸ hi) hj)
          · rcases List.mem_cons.1 hy with rfl | hy
            · exact (ptA j (inS j hj)).symm
            · exact h3 j (memIn j (inS j hj)) y hy
      · rename_i hc
        refine ⟨?_, fun _ _ => rfl, fun _ _ => rfl⟩
        by_cases hlt : a < sndK ps c n
        · have hc2 : ¬((s3.heap.length : Int) < k ∨ dq ps c n * dq ps c n ≤ (s3.heap.getD 0 default).far) := fun z => hc ⟨hlt, z⟩
          have hkl : k ≤ s3.heap.length := by
            have : ¬((s3.heap.length : Int) < k) := fun z => hc2 (.inl z)
            omega
          have hd : (s3.heap.getD 0 default).far < dq ps c n * dq ps c n := Rat.not_le.1 fun z => hc2 (.inr z)
          refine B3.more hkl _ fun q hq y hy => ?_
          obtain ⟨j, hj, rfl⟩ := List.mem_map.1 hq
          have t1 := farS j hj
          have t2 : y.far ≤ (s3.heap.getD 0 default).far := Rat.not_lt.1 fun z => B3.top hy (.inl z)
          exact .inl (by grind)
        · rw [sub_neg (nS hlt)]
          exact B3
    rw [← e4]
    clear e4
    obtain ⟨B4, se4, hs4⟩ := H4
    have inFS : ∀ j, (j ∈ sub ns f n.lf ∨ j ∈ sub ns f n.rt) ↔ (j ∈ sub ns f (fstK ps c n) ∨ j ∈ sub ns f (sndK ps c n)) := fun j => by
      rcases hFS with ⟨e, e'⟩ | ⟨e, e'⟩ <;> rw [e, e']
      exact or_comm
    refine ⟨B4.perm ?_, fun j hj => ?_, fun p hp => ?_⟩
    · have e0 : ofN ns ps c (a.toNat :: (sub ns f n.lf ++ sub ns f n.rt)) = fdN ps c n :: (ofN ns ps c (sub ns f n.lf) ++ ofN ns ps c (sub ns f n.rt)) := by
        simp only [ofN, List.map_cons, List.map_append, hnd]
      rw [e0]
      have mid : ∀ A C : List FD, (A ++ (C ++ fdN ps c n :: V)).Perm (fdN ps c n :: (A ++ C ++ V)) := fun A C => by
        rw [← List.append_assoc]
        exact List.perm_middle
      rcases hFS with ⟨e, e'⟩ | ⟨e, e'⟩ <;> rw [e, e']
      · refine (mid _ _).trans ?_
        exact ((List.perm_append_comm).append_right V).cons _
      · exact mid _ _
    · have hj' : j ∉ sub ns f (fstK ps c n) ∧ j ∉ sub ns f (sndK ps c n) := ⟨fun z => hj (memIn j (inF j z)), fun z => hj (memIn j (inS j z))⟩
      rw [se4 j hj'.2, se3 j hj'.1, se2 j (fun e => hj (by rw [e]; exact List.mem_cons_self ..))]
    · rw [hs4 p (fun j hj => hp j (memIn j (inS j hj))), hs3 p (fun j hj => hp j (memIn j (inF j hj))), hs2 p (by have := hp a.toNat (List.mem_cons_self ..); rwa [hnd] at this)]
end
theorem perm_nd {α : Type} [BEq α] [LawfulBEq α] {l l' : List α} (h : l.Nodup) (h' : l'.Nodup) (hm : ∀ x, x ∈ l ↔ x ∈ l') : l.Perm l' := by
  rw [List.perm_iff_count]
  intro x
  have c1 := List.nodup_iff_count.1 h x
  have c2 := List.nodup_iff_count.1 h' x
  have p1 := List.count_pos_iff (a := x) (l := l)
  have p2 := List.count_pos_iff (a := x) (l := l')
  have := hm x
  by_cases g : x ∈ l
  · have := p1.2 g; have := p2.2 ((hm x).1 g); omega
  · have a : ¬0 < l.count x := fun z => g (p1.1 z)
    have b : ¬0 < l'.count x := fun z => g ((hm x).2 (p2.1 z))
    omega
/-- All points, and how far they are. -/
def allF (ps : List V3) (c : V3) : List FD := (List.range ps.length).map fun (i : Nat) => ⟨(i : Int), far (ps.getD i o3) c⟩
theorem near_all {ns : List KN} {ps : List V3} {c : V3} {k : Nat} (hF : Fit ns ps) (hk : 0 < k) : srtF (hpF ns ps c k) = (srtF (allF ps c)).take k := by
  have hm := hF.2.1
  have T : TS ns ps.length := ⟨hm, hF.2.2.1⟩
  by_cases h0 : ps.length = 0
  · unfold hpF allF
    rw [hm, h0]
    simp [seek, sk0, srtF]
  have B0 : Bst k (sk0 ns.length ps.length).heap [] := ⟨fun i h1 h2 => by simp [sk0] at h2, by simp [sk0, srtF]⟩
  have rep : ∀ n j : Nat, (List.replicate n false).getD j false = false := fun n j => by
    rw [List.getD_eq_getElem?_getD, List.getElem?_replicate]; split <;> rfl
  have hB := (seek_best (c := c) T rfl hF.2.2.2 hk ps.length (sk0 ns.length ps.length) 0 [] (Nat.le_refl _) (.inr ⟨by omega, by omega, by omega⟩) (fun j _ => rep _ j) (fun j _ => rep _ _) (fun j _ y hy => by cases hy) B0).1
  rw [List.append_nil] at hB
  have hh : hpF ns ps c k = (seek ns ps c (k : Int) ps.length (sk0 ns.length ps.length) 0).heap := by unfold hpF; rw [hm]
  rw [hh, hB.eq]
  congr 1
  refine srtF_eq ?_
  have p1 : (sub ns ps.length 0).Perm (List.range ps.length) := perm_nd (sub_nodup T _ _) List.nodup_range fun x => by
    rw [List.mem_range]
    exact ⟨fun hx => by have := sub_ge hF.2.2.1.1 _ _ x hx; omega, fun hx => sub_all T x x (Nat.le_refl _) hx⟩
  have e1 : ofN ns ps c (List.range ps.length) = (ns.map KN.pt).map fun z => ⟨z, far (ps.getD z.toNat o3) c⟩ := by
    rw [List.map_map]
    unfold ofN
    rw [← hm]
    refine List.ext_getElem? fun i => ?_
    rw [List.getElem?_map, List.getElem?_map]
    by_cases hi : i < ns.length
    · rw [List.getElem?_range hi, List.getElem?_eq_getElem hi]
      simp only [Option.map_some, List.getD_eq_getElem?_getD, List.getElem?_eq_getElem hi, Option.getD_some]
      rfl
    · rw [List.getElem?_eq_none (by simpa using hi), List.getElem?_eq_none (by omega)]
      rfl
  have p2 : (ns.map KN.pt).Perm (iz (List.range ps.length)) := by
    refine perm_nd hF.2.2.1.2.1 ?_ fun x => ?_
    · unfold iz
      rw [List.nodup_iff_pairwise_ne, List.pairwise_map]
      exact List.nodup_range.imp fun h e => h (by omega)
    · have hr : ∀ x ∈ ns.map KN.pt, 0 ≤ x ∧ x < (ps.length : Int) := fun x hx => by
        obtain ⟨n, hn, rfl⟩ := List.mem_map.1 hx
        obtain ⟨j, hj⟩ := List.mem_iff_getElem?.1 hn
        exact (hF.2.2.1.1 j n hj).1
      constructor
      · intro hx
        have := hr x hx
        exact List.mem_map.2 ⟨x.toNat, List.mem_range.2 (by omega), by omega⟩
      · intro hx
        obtain ⟨i, hi, rfl⟩ := List.mem_map.1 hx
        have hi := List.mem_range.1 hi
        have h1 : ((ns.map KN.pt).map Int.toNat).Nodup := by
          rw [List.nodup_iff_pairwise_ne, List.pairwise_map]
          refine List.Pairwise.imp_of_mem (fun {a b} ha hb hne => ?_) hF.2.2.1.2.1
          have := hr a ha; have := hr b hb
          omega
        have h2 := nd_all ps.length _ h1 (fun x hx => by
          obtain ⟨y, hy, rfl⟩ := List.mem_map.1 hx
          have := hr y hy; omega) (by simpa using hm) i hi
        obtain ⟨y, hy, e⟩ := List.mem_map.1 h2
        have := hr y hy
        rw [show (i : Int) = y by omega]; exact hy
  refine (p1.map _).trans ?_
  show (ofN ns ps c (List.range ps.length)).Perm _
  rw [e1]
  refine (p2.map _).trans ?_
  unfold iz allF
  rw [List.map_map]
  exact .refl _
end Go.Px.Na

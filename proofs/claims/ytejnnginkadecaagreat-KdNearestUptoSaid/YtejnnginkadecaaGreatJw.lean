/- Jw: rows of what is found, sorted by the library, of any length; what the seeker tells by any tree at all. -/
import Derived.Test.YtejnnginkadecaaGreatKj
import Derived.Test.YtejnnginkadecaaGreatKo
set_option maxRecDepth 20000
set_option maxHeartbeats 4000000
set_option linter.unusedVariables false
set_option linter.unusedSimpArgs false
namespace Go.Px.Na
open Go.RowKit Go.Sort Go.Proofs
open Go.Proofs.Tryz (prog)
theorem sorts_any : SortsK prog F.slices_SortFunc___kd_found_kd_found_ 4 4611686018427387903 := by
  intro m enc hk h1 cf lu hO he g cb blk cap d w hn hb eg hcmp hH hblk
  exact sort_calls Go.Proofs.Tryz.sortF 4 (fun _ => rfl) (fun _ => rfl) enc hk h1 cf lu hO he g cb blk cap d w hn (by omega) eg hcmp hH hblk
/-- What a heap holds by any tree at all. -/
structure Wd (m : Nat) (k : Int) (s : SK) : Prop where
  nd : (s.heap.map FD.pt).Nodup
  rng : ∀ f ∈ s.heap, 0 ≤ f.pt ∧ f.pt < m ∧ s.has.getD f.pt.toNat false = true
  len : (s.heap.length : Int) ≤ k
  has : s.has.length = m
theorem Wd.one {m : Nat} {k : Int} {s : SK} {i : Int} (W : Wd m k s) : Wd m k (sk1 s i) := ⟨W.nd, W.rng, W.len, W.has⟩
theorem set_at {bs : List Bool} {i : Nat} (h : i < bs.length) : (bs.set i true).getD i false = true := by simp [List.getD_eq_getElem?_getD, h]
theorem set_on {bs : List Bool} {i j : Nat} (h : bs.getD j false = true) : (bs.set i true).getD j false = true := by
  by_cases e : i = j
  · subst e
    refine set_at (Classical.byContradiction fun z => ?_)
    rw [List.getD_eq_getElem?_getD, List.getElem?_eq_none (by omega)] at h
    cases h
  · rw [List.getD_eq_getElem?_getD, List.getElem?_set, if_neg e, ← List.getD_eq_getElem?_getD]; exact h
theorem Wd.two {ps : List V3} {c : V3} {k : Int} {s : SK} {n : KN} (W : Wd ps.length k s) (hk : 0 < k) (g0 : 0 ≤ n.pt) (g1 : n.pt < (ps.length : Int)) : Wd ps.length k (sk2 ps c k s n) := by
  unfold sk2
  split
  · exact W
  · rename_i e
    generalize hf : (FD.mk n.pt (far (ps.getD n.pt.toNat o3) c)) = f
    have hfp : f.pt = n.pt := by rw [← hf]
    have hne : ∀ y ∈ s.heap, y.pt ≠ f.pt := fun y hy z => e (by have := (W.rng y hy).2.2; rwa [z, hfp] at this)
    have new : ∀ y, (0 ≤ y.pt ∧ y.pt < (ps.length : Int) ∧ s.has.getD y.pt.toNat false = true) ∨ y = f → 0 ≤ y.pt ∧ y.pt < (ps.length : Int) ∧ (s.has.set n.pt.toNat true).getD y.pt.toNat false = true := fun y hy => by
      rcases hy with ⟨a, b, c⟩ | rfl
      · exact ⟨a, b, set_on c⟩
      · rw [hfp]; exact ⟨g0, g1, set_at (by rw [W.has]; omega)⟩
    have hl := tkF_len (h := s.heap) (f := f) hk
    have len : ((tkF k s.heap f).length : Int) ≤ k := by
      rw [hl]; have := W.len; split <;> omega
    have has : (s.has.set n.pt.toNat true).length = ps.length := by rw [List.length_set]; exact W.has
    unfold tkF at len ⊢
    split
    · rename_i c
      have p := upF_perm (s.heap ++ [f]).length (s.heap ++ [f]) ((s.heap ++ [f]).length - 1) (by simp)
      rw [if_pos c] at len
      refine ⟨(p.map FD.pt).nodup_iff.2 ?_, fun y hy => new y ?_, len, has⟩
      · rw [List.map_append]
        refine nd_app W.nd fun z => ?_
        obtain ⟨y, hy, e⟩ := List.mem_map.1 z
        exact hne y hy e
      · rcases List.mem_append.1 (p.mem_iff.1 hy) with h | h
        · exact .inl (W.rng y h)
        · simp at h; exact .inr h
    · rename_i c
      rw [if_neg c] at len
      split
      · rename_i hb
        rw [if_pos hb] at len
        have hl0 : 0 < s.heap.length := by omega
        have p := dnF_perm (s.heap.set 0 f).length (s.heap.set 0 f) 0 (by rw [List.length_set]; exact hl0)
        refine ⟨(p.map FD.pt).nodup_iff.2 ?_, fun y hy => new y ?_, len, has⟩
        · match h : s.heap, hl0 with
          | x :: r, _ =>
            have nd := W.nd
            rw [h] at nd hne
            simp only [List.set_cons_zero, List.map_cons, List.nodup_cons] at nd ⊢
            refine ⟨fun z => ?_, nd.2⟩
            obtain ⟨y, hy, e⟩ := List.mem_map.1 z
            exact hne y (by simp [hy]) e
        · rcases List.mem_or_eq_of_mem_set (p.mem_iff.1 hy) with h | h
          · exact .inl (W.rng y h)
          · exact .inr h
      · exact ⟨W.nd, fun y hy => new y (.inl (W.rng y hy)), W.len, has⟩
theorem Wd.seek {ns : List KN} {ps : List V3} {c : V3} {k : Int} (hk : 0 < k) : ∀ (f : Nat) (s : SK) (i : Int), Wd ps.length k s → Wd ps.length k (Na.seek ns ps c k f s i)
  | 0, s, i, h => h
  | f + 1, s, i, h => by
    by_cases h1 : i < 0 ∨ (ns.length : Int) ≤ i ∨ s.seen.getD i.toNat false = true
    · rw [seek_out h1]; exact h
    · obtain ⟨n, hn⟩ : ∃ n, ns[i.toNat]? = some n := ⟨_, List.getElem?_eq_getElem (by omega)⟩
      by_cases g : n.pt < 0 ∨ (ps.length : Int) ≤ n.pt
      · rw [seek_bad h1 hn g]; exact h.one
      · rw [seek_eq h1 hn g]
        have h2 : Wd ps.length k (sk2 ps c k (sk1 s i) n) := h.one.two hk (by omega) (by omega)
        have h3 : Wd ps.length k (s3K ns ps c k f s i n) := by
          unfold s3K
          split
          · exact Wd.seek hk f _ _ h2
          · exact h2
        split
        · exact Wd.seek hk f _ _ h3
        · exact h3
theorem hpF_wd {ns : List KN} {ps : List V3} {c : V3} {k : Int} (hk : 0 < k) : Wd ps.length k (Na.seek ns ps c k ns.length (sk0 ns.length ps.length) 0) :=
  Wd.seek hk _ _ _ ⟨by simp [sk0], fun f hf => by simp [sk0] at hf, by simp [sk0]; omega, by simp [sk0]⟩
/-- The nearest points, by any tree. -/
def nearF (ns : List KN) (ps : List V3) (c : V3) (k : Int) : List Int := if 0 < k then (srtF (hpF ns ps c k)).map FD.pt else []
theorem f_near {L M : Nat} {rs : List RV} {ps : List V3} {ns : List KN} {rc : RV} {c : V3} {k : Int} (H : NVs L rs ps) (hc : NV M rc c) (hl : L ≤ 10000000000) (hM : M ≤ 10000000000) (hn1 : ns.length ≤ 100000) (hr1 : rs.length ≤ 90000) :
    PureCalls prog F.kd_Nearest [.agg [kl ns], .one (vl rs), .agg (gW rc.l), .one (.int .i64 k)] [.one (il (nearF ns ps c k))] := by
  unfold nearF
  split
  · rename_i hk
    have hok := hpF_ok (ns := ns) H hc hk
    have W := hpF_wd (ns := ns) (ps := ps) (c := c) hk
    have hsm := hok.small
    have hlen := H.len
    refine f_Nearest H hc hl hM hk hn1 hr1 (srtF_perm _).length_eq ?_
    refine t_sortF sorts_any sorts_none hok.far (by unfold LL; omega) W.nd ?_
    show (Na.seek ns ps c k ns.length (sk0 ns.length ps.length) 0).heap.length ≤ _
    omega
  · exact f_Nearest_no (by omega)
end Go.Px.Na

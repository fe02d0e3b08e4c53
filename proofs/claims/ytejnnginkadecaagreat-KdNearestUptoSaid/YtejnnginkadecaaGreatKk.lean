/- Kk: the nearest points: what the seeker does at a node. -/
import Derived.Test.YtejnnginkadecaaGreatKg
set_option maxRecDepth 40000
set_option maxHeartbeats 40000000
set_option linter.unusedVariables false
set_option linter.unusedSimpArgs false
namespace Go.Px.Na
open Go.RowKit
open Go.Proofs.Tryz (prog)
theorem sw_perm {h : List FD} {i p : Nat} (hi : i < h.length) (hp : p < h.length) : (sw h i p).Perm h := by
  unfold sw
  by_cases e : i = p
  · subst e
    rw [List.set_set, List.getD_eq_getElem?_getD, List.getElem?_eq_getElem hi]
    simp
  · rw [List.getD_eq_getElem?_getD, List.getD_eq_getElem?_getD, List.getElem?_eq_getElem hi, List.getElem?_eq_getElem hp]
    exact List.set_set_perm hi hp
theorem upF_perm : ∀ (f : Nat) (h : List FD) (i : Nat), i < h.length → (upF f h i).Perm h
  | 0, h, i, _ => .refl _
  | f + 1, h, i, hi => by
    rw [upF]
    split
    · exact (upF_perm f _ _ (by rw [sw_len]; omega)).trans (sw_perm hi (by omega))
    · exact .refl _
theorem dnF_perm : ∀ (f : Nat) (h : List FD) (i : Nat), i < h.length → (dnF f h i).Perm h
  | 0, h, i, _ => .refl _
  | f + 1, h, i, hi => by
    rw [dnF]
    split
    · exact .refl _
    · have := b2_rng hi
      exact (dnF_perm f _ _ (by rw [sw_len]; omega)).trans (sw_perm hi (by omega))
theorem Fars.perm {L : Nat} {h h' : List FD} (H : Fars L h) (p : h'.Perm h) : Fars L h' := fun f hf => H f (p.mem_iff.1 hf)

/-- A point is taken, if it is one of the nearest so far. -/
def tkF (k : Int) (h : List FD) (f : FD) : List FD :=
  if (h.length : Int) < k then upF (h ++ [f]).length (h ++ [f]) ((h ++ [f]).length - 1)
  else if bhd (h.getD 0 default) f then dnF (h.set 0 f).length (h.set 0 f) 0 else h
theorem tkF_len {k : Int} {h : List FD} {f : FD} (hk : 0 < k) : (tkF k h f).length = if (h.length : Int) < k then h.length + 1 else h.length := by
  unfold tkF
  split
  · rw [(upF_perm _ _ _ (by simp)).length_eq]; simp
  · split
    · rw [(dnF_perm _ _ _ (by rw [List.length_set]; omega)).length_eq]; simp
    · rfl
theorem tkF_far {L : Nat} {k : Int} {h : List FD} {f : FD} (hk : 0 < k) (H : Fars L h) (hf : Sm L f.far) : Fars L (tkF k h f) := by
  unfold tkF
  split
  · refine Fars.perm (fun g hg => ?_) (upF_perm _ _ _ (by simp))
    rcases List.mem_append.1 hg with h1 | h1
    · exact H g h1
    · simp at h1; subst h1; exact hf
  · split
    · exact Fars.perm (H.set hf) (dnF_perm _ _ _ (by rw [List.length_set]; omega))
    · exact H

/-- What a seeker holds: the heap, the nodes seen, the points had. -/
structure SK where
  heap : List FD
  seen : List Bool
  has : List Bool
def sk1 (s : SK) (i : Int) : SK := ⟨s.heap, s.seen.set i.toNat true, s.has⟩
def sk2 (ps : List V3) (c : V3) (k : Int) (s : SK) (n : KN) : SK :=
  if s.has.getD n.pt.toNat false = true then s else ⟨tkF k s.heap ⟨n.pt, far (ps.getD n.pt.toNat o3) c⟩, s.seen, s.has.set n.pt.toNat true⟩
def dq (ps : List V3) (c : V3) (n : KN) : Rat := axQ c n.ax - axQ (ps.getD n.pt.toNat o3) n.ax
def fstK (ps : List V3) (c : V3) (n : KN) : Int := if 0 < dq ps c n then n.rt else n.lf
def sndK (ps : List V3) (c : V3) (n : KN) : Int := if 0 < dq ps c n then n.lf else n.rt
/-- What a seeker holds once it has looked at a node and at what is below it. -/
def seek (ns : List KN) (ps : List V3) (c : V3) (k : Int) : Nat → SK → Int → SK
  | 0, s, _ => s
  | f + 1, s, i =>
    if i < 0 ∨ (ns.length : Int) ≤ i ∨ s.seen.getD i.toNat false = true then s else
    if (ns.getD i.toNat default).pt < 0 ∨ (ps.length : Int) ≤ (ns.getD i.toNat default).pt then sk1 s i else
    let s2 := sk2 ps c k (sk1 s i) (ns.getD i.toNat default)
    let s3 := if i < fstK ps c (ns.getD i.toNat default) then seek ns ps c k f s2 (fstK ps c (ns.getD i.toNat default)) else s2
    if i < sndK ps c (ns.getD i.toNat default) ∧ ((s3.heap.length : Int) < k ∨ dq ps c (ns.getD i.toNat default) * dq ps c (ns.getD i.toNat default) ≤ (s3.heap.getD 0 default).far) then seek ns ps c k f s3 (sndK ps c (ns.getD i.toNat default)) else s3
section
variable {ns : List KN} {ps : List V3} {c : V3} {k : Int} {f : Nat} {s : SK} {i : Int} {n : KN}
theorem seek_out (h : i < 0 ∨ (ns.length : Int) ≤ i ∨ s.seen.getD i.toNat false = true) : seek ns ps c k f s i = s := by
  cases f with
  | zero => rfl
  | succ f => rw [seek, if_pos h]
/-- What is behind the nearer side. -/
def s3K (ns : List KN) (ps : List V3) (c : V3) (k : Int) (f : Nat) (s : SK) (i : Int) (n : KN) : SK :=
  if i < fstK ps c n then seek ns ps c k f (sk2 ps c k (sk1 s i) n) (fstK ps c n) else sk2 ps c k (sk1 s i) n
def goK (ps : List V3) (c : V3) (k : Int) (s3 : SK) (i : Int) (n : KN) : Prop := i < sndK ps c n ∧ ((s3.heap.length : Int) < k ∨ dq ps c n * dq ps c n ≤ (s3.heap.getD 0 default).far)
instance (s3 : SK) : Decidable (goK ps c k s3 i n) := inferInstanceAs (Decidable (_ ∧ (_ ∨ _)))
theorem seek_bad (h : ¬(i < 0 ∨ (ns.length : Int) ≤ i ∨ s.seen.getD i.toNat false = true)) (hn : ns[i.toNat]? = some n) (g : n.pt < 0 ∨ (ps.length : Int) ≤ n.pt) : seek ns ps c k (f + 1) s i = sk1 s i := by
  have e : ns.getD i.toNat default = n := by simp [List.getD_eq_getElem?_getD, hn]
  rw [seek, if_neg h, e, if_pos g]
theorem seek_eq (h : ¬(i < 0 ∨ (ns.length : Int) ≤ i ∨ s.seen.getD i.toNat false = true)) (hn : ns[i.toNat]? = some n) (g : ¬(n.pt < 0 ∨ (ps.length : Int) ≤ n.pt)) :
    seek ns ps c k (f + 1) s i = if goK ps c k (s3K ns ps c k f s i n) i n then seek ns ps c k f (s3K ns ps c k f s i n) (sndK ps c n) else s3K ns ps c k f s i n := by
  have e : ns.getD i.toNat default = n := by simp [List.getD_eq_getElem?_getD, hn]
  rw [seek, if_neg h, e, if_neg g]
  rfl
/-- What a seeker holds is in order. -/
structure OkS (L : Nat) (ns : List KN) (m : Nat) (s : SK) : Prop where
  seen : s.seen.length = ns.length
  has : s.has.length = m
  heap : s.heap.length ≤ s.has.count true
  far : Fars L s.heap
variable {L m : Nat}
theorem OkS.small (h : OkS L ns m s) : s.heap.length ≤ m := by
  have := h.heap; have := List.count_le_length (a := true) (l := s.has); have := h.has; omega
theorem OkS.one (h : OkS L ns m s) : OkS L ns m (sk1 s i) := ⟨by simp [sk1, h.seen], h.has, h.heap, h.far⟩
theorem count_set {bs : List Bool} {j : Nat} (hj : j < bs.length) (h : bs.getD j false = false) : (bs.set j true).count true = bs.count true + 1 := by
  induction bs generalizing j with
  | nil => simp at hj
  | cons b r ih =>
    cases j with
    | zero =>
      simp at h; subst h; simp
    | succ j =>
      have := ih (j := j) (by simpa using hj) (by simpa using h)
      simp only [List.set_cons_succ, List.count_cons, this]; omega
theorem OkS.two (h : OkS L ns m s) (hk : 0 < k) (g0 : 0 ≤ n.pt) (g1 : n.pt < m) (hf : Sm L (Na.far (ps.getD n.pt.toNat o3) c)) : OkS L ns m (sk2 ps c k s n) := by
  unfold sk2
  split
  · exact h
  · rename_i e
    refine ⟨h.seen, by simp [h.has], ?_, tkF_far hk h.far hf⟩
    have h1 := count_set (bs := s.has) (j := n.pt.toNat) (by rw [h.has]; omega) (by simpa using e)
    simp only [h1, tkF_len hk]
    have := h.heap
    split <;> omega
theorem OkS.seek (hm : ps.length = m) (hk : 0 < k) (hf : ∀ j, j < m → Sm L (Na.far (ps.getD j o3) c)) : ∀ (f : Nat) (s : SK) (i : Int), OkS L ns m s → OkS L ns m (Na.seek ns ps c k f s i)
  | 0, s, i, h => h
  | f + 1, s, i, h => by
    by_cases h1 : i < 0 ∨ (ns.length : Int) ≤ i ∨ s.seen.getD i.toNat false = true
    · rw [seek_out h1]; exact h
    · obtain ⟨n, hn⟩ : ∃ n, ns[i.toNat]? = some n := ⟨_, List.getElem?_eq_getElem (by omega)⟩
      by_cases g : n.pt < 0 ∨ (ps.length : Int) ≤ n.pt
      · rw [seek_bad h1 hn g]; exact h.one
      · rw [seek_eq h1 hn g]
        have h2 : OkS L ns m (sk2 ps c k (sk1 s i) n) := h.one.two hk (by omega) (by omega) (hf _ (by omega))
        have h3 : OkS L ns m (s3K ns ps c k f s i n) := by
          unfold s3K
          split
          · exact OkS.seek hm hk hf f _ _ h2
          · exact h2
        split
        · exact OkS.seek hm hk hf f _ _ h3
        · exact h3
end

/-- A seeker's cells, and the node to look at. -/
def ski (ns : List KN) (rs : List RV) (rc : RV) (k : Int) (s : SK) (i : Int) : List DV :=
  [kl ns, vl rs, .bool rc.x.neg, nl rc.x.num, nl rc.x.den, .bool rc.y.neg, nl rc.y.num, nl rc.y.den, .bool rc.z.neg, nl rc.z.num, nl rc.z.den, .int .i64 k, fl s.heap, bl s.seen, bl s.has, .int .i64 i]
def skS (ns : List KN) (rs : List RV) (rc : RV) (k : Int) (s : SK) : List DV := skc ns rs rc k s.heap s.seen s.has
theorem fl_app {a b : List FD} (h : a.length + b.length ≤ 1000000) : Prim.den (.app 4 64) [fl a, fl b] = some (fl (a ++ b)) := by
  simp only [fl, Prim.den]
  rw [if_pos ⟨fm_len fd_len a, fm_len fd_len b, by omega⟩]
  simp
theorem d_cq_le {x y : Rat} : Prim.den (.bin .leq) [.int .i64 (cmpQ x y), .int .i64 0] = some (.bool (decide (x ≤ y))) := by
  rw [d_leq]
  have h1 := cq_gt (x := x) (y := y)
  have : (cmpQ x y ≤ 0) ↔ x ≤ y := by
    constructor
    · intro h; exact Rat.not_lt.1 fun g => by have := h1.2 g; omega
    · intro h; exact Int.not_lt.1 fun g => by have := h1.1 g; exact absurd h (Rat.not_le.2 this)
  rw [show decide (cmpQ x y ≤ 0) = decide (x ≤ y) from decide_eq_decide.2 this]

section
variable {P : Program} {As : List (List DV → Prop)} {ρ : List DV} {Q : List AV → Prop}
theorem get_far {x i : Px.A} {h : List FD} {ki : IntKind} {j : Int} {k : IR} {f : FD} (h0 : 0 ≤ j) (hr : h[j.toNat]? = some f) (hx : ∀ l, Px.A.ev (ρ ++ l) x = fl h) (hi : ∀ l, Px.A.ev (ρ ++ l) i = .int ki j) (hk : IRwp P As (ρ ++ gD [f.far]) k Q) : IRwp P As ρ (getsI x i 4 3 1 k) Q :=
  gets_ok h0 (by have := (List.getElem?_eq_some_iff.1 hr).1; omega) 3 1 ρ (gD [f.far]) hx hi rfl (fun t ht => by rw [fm_get fd_len (1 + t) hr (by omega), Nat.add_comm 1 t]; rfl) hk
end
theorem f_seek {L M : Nat} {rs : List RV} {ps : List V3} {ns : List KN} {rc : RV} {c : V3} {k : Int} (H : NVs L rs ps) (hc : NV M rc c) (hl : L ≤ 10000000000) (hM : M ≤ 10000000000) (hk : 0 < k) (hn1 : ns.length ≤ 100000) (hr1 : rs.length ≤ 90000) :
    ∀ (f : Nat) (s : SK) (i : Int), OkS (6 * (M + L + 1) + 2) ns rs.length s → 0 ≤ i → (ns.length : Int) - i ≤ f →
    TurnCalls prog F.__kd_seeker__node skT [.pl] 0 (ski ns rs rc k s i) (skS ns rs rc k (seek ns ps c k f s i))
  | f, s, i, ho, h0, hf => by
    have hlen := H.len
    have hfar : ∀ j, j < rs.length → Sm (6 * (M + L + 1) + 2) (far (ps.getD j o3) c) := fun j hj => Sm_far (nvs_at H hj).sm hc.sm
    refine symTurn_sound hmix tree___kd_seeker__node (by kernel_rfl) rfl ?_
    unfold ir___kd_seeker__node
    simp only [ski]
    refine primS (.bool false) (d_lss.trans (by rw [decide_eq_false (by omega)])) ?_
    refine itF rfl ?_
    refine primS (.int .i64 (ns.length : Int)) rfl ?_
    refine primS (.bool (decide ((ns.length : Int) ≤ i))) d_geq ?_
    refine itD rfl (fun c1 => ?_) (fun c1 => ?_)
    · refine ret_step ?_
      rw [seek_out (.inr (.inl c1))]; rfl
    have hil : i.toNat < ns.length := by omega
    obtain ⟨n, hn⟩ : ∃ n, ns[i.toNat]? = some n := ⟨_, List.getElem?_eq_getElem hil⟩
    refine primS (.bool true) (bl_inb h0 (by rw [ho.seen]; omega)) ?_
    refine primS (.bool (s.seen.getD i.toNat false)) (bl_get h0 (by rw [ho.seen]; omega)) ?_
    refine itb_step rfl (fun c2 => ?_) (fun c2 => ?_)
    · refine ret_step ?_
      rw [seek_out (.inr (.inr c2))]; rfl
    have hno : ¬(i < 0 ∨ (ns.length : Int) ≤ i ∨ s.seen.getD i.toNat false = true) := by
      rw [c2]; simp; omega
    obtain ⟨f, rfl⟩ : ∃ q, f = q + 1 := ⟨f - 1, by omega⟩
    refine primS (.bool true) (bl_inb h0 (by rw [ho.seen]; omega)) ?_
    refine primS (bl (s.seen.set i.toNat true)) (bl_set h0 (by rw [ho.seen]; omega)) ?_
    refine primS (.bool true) (kl_inb h0 (by omega)) ?_
    try simp only [List.cons_append, List.nil_append]
    try simp only [List.cons_append, List.nil_append]
    refine get_knZ h0 hn (fun _ => rfl) (fun _ => rfl) ?_
    simp only [KN.l, List.cons_append, List.nil_append]
    refine primS (.bool (decide (n.pt < 0))) d_lss ?_
    refine itD rfl (fun c3 => ?_) (fun c3 => ?_)
    · refine ret_step ?_
      rw [seek_bad hno hn (.inl c3)]; rfl
    refine primS (.int .i64 (rs.length : Int)) rfl ?_
    refine primS (.bool (decide ((rs.length : Int) ≤ n.pt))) d_geq ?_
    refine itD rfl (fun c4 => ?_) (fun c4 => ?_)
    · refine ret_step ?_
      rw [seek_bad hno hn (.inr (by omega))]; rfl
    have p0 : 0 ≤ n.pt := by omega
    have p1 : n.pt < (rs.length : Int) := by omega
    have p2 : n.pt.toNat < rs.length := by omega
    have o1 : OkS (6 * (M + L + 1) + 2) ns rs.length (sk1 s i) := ho.one
    have o2 : OkS (6 * (M + L + 1) + 2) ns rs.length (sk2 ps c k (sk1 s i) n) := o1.two hk p0 p1 (hfar _ p2)
    rw [seek_eq hno hn (by omega)]
    have nP := nvs_at H p2
    refine join_step (fun ds => ds = [.int .i64 i, kl ns, vl rs, .bool rc.x.neg, nl rc.x.num, nl rc.x.den, .bool rc.y.neg, nl rc.y.num, nl rc.y.den, .bool rc.z.neg, nl rc.z.num, nl rc.z.den, .int .i64 k, .int .i64 n.pt, .int .i64 n.ax, .int .i64 n.lf, .int .i64 n.rt, fl (sk2 ps c k (sk1 s i) n).heap, bl (sk2 ps c k (sk1 s i) n).seen, bl (sk2 ps c k (sk1 s i) n).has]) ?_ ?_
    · refine primS (.bool true) (bl_inb p0 (by rw [ho.has]; omega)) ?_
      refine primS (.bool (s.has.getD n.pt.toNat false)) (bl_get p0 (by rw [ho.has]; omega)) ?_
      refine primS (.bool (!s.has.getD n.pt.toNat false)) rfl ?_
      try simp only [List.cons_append, List.nil_append]
      refine itb_step rfl (fun e => ?_) (fun e => ?_)
      · have e' : ¬(sk1 s i).has.getD n.pt.toNat false = true := by
          show ¬s.has.getD n.pt.toNat false = true
          intro z; rw [z] at e; cases e
        refine primS (.bool true) (bl_inb p0 (by rw [ho.has]; omega)) ?_
        refine primS (bl (s.has.set n.pt.toNat true)) (bl_set p0 (by rw [ho.has]; omega)) ?_
        refine primS (.bool true) (vl_inb p0 (by omega)) ?_
        try simp only [List.cons_append, List.nil_append]
        try simp only [List.cons_append, List.nil_append]
        refine get_ptZ p0 (List.getElem?_eq_getElem p2) (fun _ => rfl) (fun _ => rfl) ?_
        simp only [gW, RV.l, List.cons_append, List.nil_append]
        refine call_step (f_ball_Far nP hc ⟨hl, hM⟩) rfl ?_
        simp only [fa_agg, fa_nil, gD, List.cons_append, List.nil_append, List.append_nil]
        have hs2 : sk2 ps c k (sk1 s i) n = ⟨tkF k s.heap ⟨n.pt, far (ps.getD n.pt.toNat o3) c⟩, s.seen.set i.toNat true, s.has.set n.pt.toNat true⟩ := by
          unfold sk2; rw [if_neg e']; rfl
        have hsF : Sm (6 * (M + L + 1) + 2) (FD.mk n.pt (far (ps.getD n.pt.toNat o3) c)).far := hfar _ p2
        have hsm := ho.small
        rw [hs2]
        generalize hfd : (FD.mk n.pt (far (ps.getD n.pt.toNat o3) c)) = fd at hsF ⊢
        have efd : FD.l fd = [.int .i64 n.pt, .bool (decide ((far (ps.getD n.pt.toNat o3) c).num < 0)), nn (far (ps.getD n.pt.toNat o3) c).num.natAbs, nn (far (ps.getD n.pt.toNat o3) c).den] := by rw [← hfd]; rfl
        refine primS (.int .i64 (s.heap.length : Int)) rfl ?_
        refine primS (.bool (decide ((s.heap.length : Int) < k))) d_lss ?_
        refine itD rfl (fun c5 => ?_) (fun c5 => ?_)
        · refine primS (fl [fd]) (by show _ = some (DV.list 1 (FD.l fd ++ [])); rw [efd]; rfl) ?_
          refine primS (fl (s.heap ++ [fd])) (fl_app (by simp; omega)) ?_
          try simp only [List.cons_append, List.nil_append]
          refine turn_step (f_up (h := s.heap ++ [fd]) (L := 6 * (M + L + 1) + 2) (by unfold LL; omega) (by simp) (by simp; omega) (fun g hg => ?_)) ?_
          · rcases List.mem_append.1 hg with h1 | h1
            · exact ho.far g h1
            · simp at h1; subst h1; exact hsF
          simp only [skc, List.cons_append, List.nil_append]
          refine jump_step rfl ?_
          unfold tkF
          rw [if_pos c5]
          rfl
        · have hne : 0 < s.heap.length := by omega
          refine primS (.bool true) (fl_inb (by omega) (by first | omega | (dsimp only; omega))) ?_
          try simp only [List.cons_append, List.nil_append]
          refine get_fd (j := (0 : Int)) (by omega) (fd_at hne) (fun _ => rfl) (fun _ => rfl) ?_
          simp only [FD.l, gD, List.cons_append, List.nil_append]
          refine call_step (res := [.one (.bool (decide (bhd (s.heap.getD 0 default) fd)))]) (by
            have := f_behind (f := s.heap.getD 0 default) (g := fd) (L := 6 * (M + L + 1) + 2) (ho.far.get hne) hsF (by unfold LL; omega)
            rw [efd] at this
            exact this) rfl ?_
          simp only [fa_one, fa_nil, List.cons_append, List.nil_append]
          refine itD rfl (fun c6 => ?_) (fun c6 => ?_)
          · refine primS (.bool true) (fl_inb (by omega) (by first | omega | (dsimp only; omega))) ?_
            try simp only [List.cons_append, List.nil_append]
            refine primS (fl (s.heap.set 0 fd)) (by
              have := fl_set (h := s.heap) (k := .i64) (i := 0) (f := fd) (by omega) (by omega)
              rw [efd] at this
              exact this) ?_
            try simp only [List.cons_append, List.nil_append]
            refine turn_step (f_down (h := s.heap.set 0 fd) (L := 6 * (M + L + 1) + 2) (by unfold LL; omega) (by rw [List.length_set]; omega) (by rw [List.length_set]; omega) (ho.far.set hsF)) ?_
            simp only [skc, List.cons_append, List.nil_append]
            refine jump_step rfl ?_
            unfold tkF
            rw [if_neg c5, if_pos c6]
            rfl
          · refine jump_step rfl ?_
            unfold tkF
            rw [if_neg c5, if_neg c6]
            rfl
      · have hs2 : sk2 ps c k (sk1 s i) n = sk1 s i := by
          unfold sk2; rw [if_pos (by show s.has.getD n.pt.toNat false = true; cases hb : s.has.getD n.pt.toNat false with | true => rfl | false => rw [hb] at e; cases e)]
        refine jump_step rfl ?_
        rw [hs2]
        rfl
    intro ds hds
    subst hds
    unfold s3K
    generalize sk2 ps c k (sk1 s i) n = s2 at o2 ⊢
    refine call_step (f_axis rc n.ax) rfl ?_
    simp only [HH, gW, gD, V3.l, M4.l, Fr.l, Sp.l, RV.l, RM.l, RF.l, RS.l]
    refine primS (.bool true) (vl_inb p0 (by omega)) ?_
    try simp only [List.cons_append, List.nil_append]
    refine get_ptZ p0 (List.getElem?_eq_getElem p2) (fun _ => rfl) (fun _ => rfl) ?_
    simp only [gW, RV.l, List.cons_append, List.nil_append]
    refine call_step (f_axis rs[n.pt.toNat] n.ax) rfl ?_
    simp only [HH, gW, gD, V3.l, M4.l, Fr.l, Sp.l, RV.l, RM.l, RF.l, RS.l]
    have nD : Num (M + L + 1) (cr (dq ps c n)) (dq ps c n) := Num.of ((num_ax hc n.ax).sm.sub (num_ax nP n.ax).sm)
    refine cs1 (n_rat_Sub (k0 := dq ps c n) ((num_ax hc n.ax).mono (by unfold LL; omega)) ((num_ax nP n.ax).mono (by unfold LL; omega)) rfl) ?_
    simp only [gD, List.cons_append, List.nil_append]
    refine join_step (fun ds => ds = [.int .i64 i, .int .i64 (fstK ps c n), .int .i64 (sndK ps c n), kl ns, vl rs, .bool rc.x.neg, nl rc.x.num, nl rc.x.den, .bool rc.y.neg, nl rc.y.num, nl rc.y.den, .bool rc.z.neg, nl rc.z.num, nl rc.z.den, .int .i64 k, .bool (decide ((dq ps c n).num < 0)), nn (dq ps c n).num.natAbs, nn (dq ps c n).den, fl s2.heap, bl s2.seen, bl s2.has]) ?_ ?_
    · refine call_step (f_rat_Sign nD (by unfold LL; omega)) rfl ?_
      simp only [HH, gW, gD, V3.l, M4.l, Fr.l, Sp.l, RV.l, RM.l, RF.l, RS.l]
      refine primS (.bool (decide (0 < dq ps c n))) pr_gt ?_
      refine itD rfl (fun e => ?_) (fun e => ?_)
      · refine jump_step rfl ?_
        unfold fstK sndK
        rw [if_pos e, if_pos e]
        rfl
      · refine jump_step rfl ?_
        unfold fstK sndK
        rw [if_neg e, if_neg e]
        rfl
    intro ds hds
    subst hds
    have hfuel : ∀ j : Int, i < j → (ns.length : Int) - j ≤ f := fun j hj => by omega
    obtain ⟨s3, hs3⟩ : ∃ s3, s3 = (if i < fstK ps c n then seek ns ps c k f s2 (fstK ps c n) else s2) := ⟨_, rfl⟩
    have o3 : OkS (6 * (M + L + 1) + 2) ns rs.length s3 := by
      rw [hs3]
      split
      · exact OkS.seek hlen.symm hk hfar f _ _ o2
      · exact o2
    rw [← hs3]
    generalize fstK ps c n = fs at hs3 ⊢
    refine join_step (fun ds => ds = [.int .i64 i, .int .i64 (sndK ps c n), kl ns, vl rs, .bool rc.x.neg, nl rc.x.num, nl rc.x.den, .bool rc.y.neg, nl rc.y.num, nl rc.y.den, .bool rc.z.neg, nl rc.z.num, nl rc.z.den, .int .i64 k, .bool (decide ((dq ps c n).num < 0)), nn (dq ps c n).num.natAbs, nn (dq ps c n).den, fl s3.heap, bl s3.seen, bl s3.has]) ?_ ?_
    · refine primS (.bool (decide (i < fs))) d_gtr ?_
      refine itD rfl (fun e => ?_) (fun e => ?_)
      · rw [if_pos e] at hs3
        refine turn_step (f_seek H hc hl hM hk hn1 hr1 f s2 fs o2 (by omega) (hfuel fs e)) ?_
        simp only [skS, skc, List.cons_append, List.nil_append]
        refine jump_step rfl ?_
        rw [hs3]
        rfl
      · rw [if_neg e] at hs3
        refine jump_step rfl ?_
        rw [hs3]
        rfl
    intro ds hds
    subst hds
    clear hs3 o2 o1
    refine primS (.bool (decide (i < sndK ps c n))) d_gtr ?_
    refine itD rfl (fun c7 => ?_) (fun c7 => ?_)
    · refine primS (.int .i64 (s3.heap.length : Int)) rfl ?_
      refine primS (.bool (decide ((s3.heap.length : Int) < k))) d_lss ?_
      refine itD rfl (fun c8 => ?_) (fun c8 => ?_)
      · refine turn_step (f_seek H hc hl hM hk hn1 hr1 f s3 (sndK ps c n) o3 (by omega) (hfuel _ c7)) ?_
        simp only [skS, skc, List.cons_append, List.nil_append]
        refine ret_step ?_
        rw [if_pos (show goK ps c k s3 i n from ⟨c7, .inl c8⟩)]
        rfl
      · have hne : 0 < s3.heap.length := by omega
        refine primS (rlN2 nD nD) rfl ?_
        try simp only [List.cons_append, List.nil_append]
        refine cs1 (n_rat_Product_2 (nD.mono (by unfold LL; omega)) (nD.mono (by unfold LL; omega)) rfl) ?_
        simp only [gD, List.cons_append, List.nil_append]
        refine primS (.bool true) (fl_inb (by omega) (by first | omega | (dsimp only; omega))) ?_
        try simp only [List.cons_append, List.nil_append]
        refine get_far (j := (0 : Int)) (by omega) (fd_at hne) (fun _ => rfl) (fun _ => rfl) ?_
        simp only [gD, List.cons_append, List.nil_append]
        refine call_step (n_rat_Cmp ((Num.of (nD.sm.mul nD.sm)).mono (by unfold LL; omega)) ((Num.of (o3.far.get hne)).mono (by unfold LL; omega))) rfl ?_
        simp only [HH, gW, gD, V3.l, M4.l, Fr.l, Sp.l, RV.l, RM.l, RF.l, RS.l]
        refine primS (.bool (decide (dq ps c n * dq ps c n ≤ (s3.heap.getD 0 default).far))) d_cq_le ?_
        refine itD rfl (fun c9 => ?_) (fun c9 => ?_)
        · refine turn_step (f_seek H hc hl hM hk hn1 hr1 f s3 (sndK ps c n) o3 (by omega) (hfuel _ c7)) ?_
          simp only [skS, skc, List.cons_append, List.nil_append]
          refine ret_step ?_
          rw [if_pos (show goK ps c k s3 i n from ⟨c7, .inr c9⟩)]
          rfl
        · refine ret_step ?_
          rw [if_neg (show ¬goK ps c k s3 i n from fun z => z.2.elim c8 c9)]
          rfl
    · refine ret_step ?_
      rw [if_neg (show ¬goK ps c k s3 i n from fun z => c7 z.1)]
      rfl
end Go.Px.Na

/- Kg: the nearest points: the heap's other way, and what the seeker does at a node. -/
import Derived.Test.YtejnnginkadecaaGreatKf
set_option maxRecDepth 40000
set_option maxHeartbeats 40000000
set_option linter.unusedVariables false
set_option linter.unusedSimpArgs false
namespace Go.Px.Na
open Go.RowKit
open Go.Proofs.Tryz (prog)
/-- Which of a place and its first child stands behind. -/
def b1 (h : List FD) (i : Nat) : Nat := if 2 * i + 1 < h.length ∧ bhd (h.getD (2 * i + 1) default) (h.getD i default) then 2 * i + 1 else i
/-- Which of a place and its two children stands behind the others. -/
def b2 (h : List FD) (i : Nat) : Nat := if 2 * i + 2 < h.length ∧ bhd (h.getD (2 * i + 2) default) (h.getD (b1 h i) default) then 2 * i + 2 else b1 h i
section
variable {h : List FD} {i : Nat}
theorem b1_y (h1 : 2 * i + 1 < h.length) (h2 : bhd (h.getD (2 * i + 1) default) (h.getD i default)) : b1 h i = 2 * i + 1 := if_pos ⟨h1, h2⟩
theorem b1_n1 (h1 : ¬2 * i + 1 < h.length) : b1 h i = i := if_neg fun e => h1 e.1
theorem b1_n2 (h1 : ¬bhd (h.getD (2 * i + 1) default) (h.getD i default)) : b1 h i = i := if_neg fun e => h1 e.2
theorem b2_y (h1 : 2 * i + 2 < h.length) (h2 : bhd (h.getD (2 * i + 2) default) (h.getD (b1 h i) default)) : b2 h i = 2 * i + 2 := if_pos ⟨h1, h2⟩
theorem b2_n1 (h1 : ¬2 * i + 2 < h.length) : b2 h i = b1 h i := if_neg fun e => h1 e.1
theorem b2_n2 (h1 : ¬bhd (h.getD (2 * i + 2) default) (h.getD (b1 h i) default)) : b2 h i = b1 h i := if_neg fun e => h1 e.2
theorem b1_rng (hi : i < h.length) : i ≤ b1 h i ∧ b1 h i < h.length := by
  unfold b1; split <;> omega
theorem b2_rng (hi : i < h.length) : i ≤ b2 h i ∧ b2 h i < h.length := by
  have := b1_rng hi
  unfold b2; split <;> omega
end
/-- The first one goes down. -/
def dnF : Nat → List FD → Nat → List FD
  | 0, h, _ => h
  | f + 1, h, i => if b2 h i = i then h else dnF f (sw h i (b2 h i)) (b2 h i)
theorem dnF_stop {f : Nat} {h : List FD} {i : Nat} (e : b2 h i = i) : dnF (f + 1) h i = h := by rw [dnF, if_pos e]
theorem dnF_go {f : Nat} {h : List FD} {i : Nat} (e : b2 h i ≠ i) : dnF (f + 1) h i = dnF f (sw h i (b2 h i)) (b2 h i) := by rw [dnF, if_neg e]
theorem b_end {h : List FD} {i : Nat} (hi : h.length ≤ 2 * i + 1) : b2 h i = i := by
  rw [b2_n1 (by omega), b1_n1 (by omega)]
theorem dnF_fuel : ∀ (f g : Nat) (h : List FD) (i : Nat), h.length ≤ i + f + 1 → h.length ≤ i + g + 1 → dnF f h i = dnF g h i
  | 0, 0, h, i, _, _ => rfl
  | 0, g + 1, h, i, hf, _ => by rw [dnF_stop (f := g) (h := h) (i := i) (b_end (by omega))]; rfl
  | f + 1, 0, h, i, _, hg => by rw [dnF_stop (f := f) (h := h) (i := i) (b_end (by omega))]; rfl
  | f + 1, g + 1, h, i, hf, hg => by
    by_cases e : b2 h i = i
    · rw [dnF_stop e, dnF_stop e]
    · rw [dnF_go e, dnF_go e]
      have : i < b2 h i := by
        by_cases hi : i < h.length
        · have := b2_rng hi; omega
        · exact absurd (b_end (by omega)) e
      exact dnF_fuel f g _ _ (by rw [sw_len]; omega) (by rw [sw_len]; omega)
theorem f_down {L : Nat} (hL : L ≤ LL) {ns : List KN} {rs : List RV} {rc : RV} {k : Int} {h : List FD} {seen has : List Bool} (hne : 0 < h.length) (hb : h.length ≤ 100000) (hF : Fars L h) :
    TurnCalls prog F.__kd_seeker__down skT [] 0 (skc ns rs rc k h seen has) (skc ns rs rc k (dnF h.length h 0) seen has) := by
  refine symTurn_sound hmix tree___kd_seeker__down (by kernel_rfl) rfl ?_
  unfold ir___kd_seeker__down
  simp only [skc]
  refine loop_st (fun s : Nat × List FD => [.int .i64 (s.1 : Int), kl ns, vl rs, .bool rc.x.neg, nl rc.x.num, nl rc.x.den, .bool rc.y.neg, nl rc.y.num, nl rc.y.den, .bool rc.z.neg, nl rc.z.num, nl rc.z.den, .int .i64 k, fl s.2, bl seen, bl has])
    (fun s => s.1 < s.2.length ∧ s.2.length = h.length ∧ Fars L s.2 ∧ dnF h.length s.2 s.1 = dnF h.length h 0) (fun s => h.length - s.1) (0, h) ⟨hne, rfl, hF, rfl⟩ rfl (fun _ => rfl) fun s hs X hX => ?_
  obtain ⟨i, q⟩ := s
  obtain ⟨h1, h2, h3, h4⟩ := hs
  simp only at h1 h2 h3 h4
  refine join_step (fun ds => ds = [.int .i64 (i : Int), .int .i64 (b2 q i : Int), kl ns, vl rs, .bool rc.x.neg, nl rc.x.num, nl rc.x.den, .bool rc.y.neg, nl rc.y.num, nl rc.y.den, .bool rc.z.neg, nl rc.z.num, nl rc.z.den, .int .i64 k, fl q, bl seen, bl has]) ?_ ?_
  · refine primS (.int .i64 ((2 * i : Nat) : Int)) ((d_mul64 (by omega) (by omega)).trans (by simp)) ?_
    refine primS (.int .i64 ((2 * i + 1 : Nat) : Int)) ((d_add64 (by omega) (by omega)).trans (by simp)) ?_
    refine primS (.int .i64 ((2 * i : Nat) : Int)) ((d_mul64 (by omega) (by omega)).trans (by simp)) ?_
    try simp only [List.cons_append, List.nil_append]
    refine primS (.int .i64 ((2 * i + 2 : Nat) : Int)) ((d_add64 (by omega) (by omega)).trans (by simp)) ?_
    generalize hl : 2 * i + 1 = l
    generalize hr : 2 * i + 2 = r
    try simp only [List.cons_append, List.nil_append]
    refine primS (.int .i64 (q.length : Int)) rfl ?_
    refine primS (.bool (decide ((l : Int) < (q.length : Int)))) d_lss ?_
    refine itD rfl (fun c => ?_) (fun c => ?_)
    · have hl2 : l < q.length := by omega
      refine primS (.bool true) (fl_inb (by omega) (by first | omega | (dsimp only; omega) | (simp only [List.length_set]; omega))) ?_
      try simp only [List.cons_append, List.nil_append]
      refine get_fd (j := ((l : Nat) : Int)) (by omega) (by rw [Int.toNat_natCast]; exact fd_at hl2) (fun _ => rfl) (fun _ => rfl) ?_
      simp only [FD.l, gD, List.cons_append, List.nil_append]
      refine primS (.bool true) (fl_inb (by omega) (by first | omega | (dsimp only; omega) | (simp only [List.length_set]; omega))) ?_
      try simp only [List.cons_append, List.nil_append]
      refine get_fd (j := ((i : Nat) : Int)) (by omega) (by rw [Int.toNat_natCast]; exact fd_at h1) (fun _ => rfl) (fun _ => rfl) ?_
      simp only [FD.l, gD, List.cons_append, List.nil_append]
      refine call_step (f_behind (f := q.getD l default) (g := q.getD i default) (h3.get hl2) (h3.get h1) hL) rfl ?_
      simp only [fa_one, fa_nil, List.cons_append, List.nil_append]
      refine itD rfl (fun e => ?_) (fun e => ?_)
      · have eb1 : b1 q i = l := by have := b1_y (h := q) (i := i); rw [hl] at this; exact this hl2 e
        refine primS (.int .i64 (q.length : Int)) rfl ?_
        refine primS (.bool (decide ((r : Int) < (q.length : Int)))) d_lss ?_
        refine itD rfl (fun c2 => ?_) (fun c2 => ?_)
        · have hr2 : r < q.length := by omega
          refine primS (.bool true) (fl_inb (by omega) (by first | omega | (dsimp only; omega) | (simp only [List.length_set]; omega))) ?_
          try simp only [List.cons_append, List.nil_append]
          refine get_fd (j := ((r : Nat) : Int)) (by omega) (by rw [Int.toNat_natCast]; exact fd_at hr2) (fun _ => rfl) (fun _ => rfl) ?_
          simp only [FD.l, gD, List.cons_append, List.nil_append]
          refine primS (.bool true) (fl_inb (by omega) (by first | omega | (dsimp only; omega) | (simp only [List.length_set]; omega))) ?_
          try simp only [List.cons_append, List.nil_append]
          refine get_fd (j := ((l : Nat) : Int)) (by omega) (by rw [Int.toNat_natCast]; exact fd_at hl2) (fun _ => rfl) (fun _ => rfl) ?_
          simp only [FD.l, gD, List.cons_append, List.nil_append]
          refine call_step (f_behind (f := q.getD r default) (g := q.getD l default) (h3.get hr2) (h3.get hl2) hL) rfl ?_
          simp only [fa_one, fa_nil, List.cons_append, List.nil_append]
          refine itD rfl (fun c3 => ?_) (fun c3 => ?_)
          · have eb : b2 q i = r := by have := b2_y (h := q) (i := i); rw [hr, eb1] at this; exact this hr2 c3
            exact jump_step rfl (by show ([_, _, _, _, _, _, _, _, _, _, _, _, _, _, _, _, _] : List DV) = _; rw [eb]; rfl)
          · have eb : b2 q i = l := by have := b2_n2 (h := q) (i := i); rw [hr, eb1] at this; exact this c3
            exact jump_step rfl (by show ([_, _, _, _, _, _, _, _, _, _, _, _, _, _, _, _, _] : List DV) = _; rw [eb]; rfl)
        · have eb : b2 q i = l := by have := b2_n1 (h := q) (i := i); rw [hr, eb1] at this; exact this (by omega)
          exact jump_step rfl (by show ([_, _, _, _, _, _, _, _, _, _, _, _, _, _, _, _, _] : List DV) = _; rw [eb]; rfl)
      · have eb1 : b1 q i = i := by have := b1_n2 (h := q) (i := i); rw [hl] at this; exact this e
        refine primS (.int .i64 (q.length : Int)) rfl ?_
        refine primS (.bool (decide ((r : Int) < (q.length : Int)))) d_lss ?_
        refine itD rfl (fun c2 => ?_) (fun c2 => ?_)
        · have hr2 : r < q.length := by omega
          refine primS (.bool true) (fl_inb (by omega) (by first | omega | (dsimp only; omega) | (simp only [List.length_set]; omega))) ?_
          try simp only [List.cons_append, List.nil_append]
          refine get_fd (j := ((r : Nat) : Int)) (by omega) (by rw [Int.toNat_natCast]; exact fd_at hr2) (fun _ => rfl) (fun _ => rfl) ?_
          simp only [FD.l, gD, List.cons_append, List.nil_append]
          refine primS (.bool true) (fl_inb (by omega) (by first | omega | (dsimp only; omega) | (simp only [List.length_set]; omega))) ?_
          try simp only [List.cons_append, List.nil_append]
          refine get_fd (j := ((i : Nat) : Int)) (by omega) (by rw [Int.toNat_natCast]; exact fd_at h1) (fun _ => rfl) (fun _ => rfl) ?_
          simp only [FD.l, gD, List.cons_append, List.nil_append]
          refine call_step (f_behind (f := q.getD r default) (g := q.getD i default) (h3.get hr2) (h3.get h1) hL) rfl ?_
          simp only [fa_one, fa_nil, List.cons_append, List.nil_append]
          refine itD rfl (fun c3 => ?_) (fun c3 => ?_)
          · have eb : b2 q i = r := by have := b2_y (h := q) (i := i); rw [hr, eb1] at this; exact this hr2 c3
            exact jump_step rfl (by show ([_, _, _, _, _, _, _, _, _, _, _, _, _, _, _, _, _] : List DV) = _; rw [eb]; rfl)
          · have eb : b2 q i = i := by have := b2_n2 (h := q) (i := i); rw [hr, eb1] at this; exact this c3
            exact jump_step rfl (by show ([_, _, _, _, _, _, _, _, _, _, _, _, _, _, _, _, _] : List DV) = _; rw [eb]; rfl)
        · have eb : b2 q i = i := by have := b2_n1 (h := q) (i := i); rw [hr, eb1] at this; exact this (by omega)
          exact jump_step rfl (by show ([_, _, _, _, _, _, _, _, _, _, _, _, _, _, _, _, _] : List DV) = _; rw [eb]; rfl)
    · have eb1 : b1 q i = i := b1_n1 (by omega)
      refine primS (.int .i64 (q.length : Int)) rfl ?_
      refine primS (.bool (decide ((r : Int) < (q.length : Int)))) d_lss ?_
      refine itD rfl (fun c2 => ?_) (fun c2 => ?_)
      · have hr2 : r < q.length := by omega
        refine primS (.bool true) (fl_inb (by omega) (by first | omega | (dsimp only; omega) | (simp only [List.length_set]; omega))) ?_
        try simp only [List.cons_append, List.nil_append]
        refine get_fd (j := ((r : Nat) : Int)) (by omega) (by rw [Int.toNat_natCast]; exact fd_at hr2) (fun _ => rfl) (fun _ => rfl) ?_
        simp only [FD.l, gD, List.cons_append, List.nil_append]
        refine primS (.bool true) (fl_inb (by omega) (by first | omega | (dsimp only; omega) | (simp only [List.length_set]; omega))) ?_
        try simp only [List.cons_append, List.nil_append]
        refine get_fd (j := ((i : Nat) : Int)) (by omega) (by rw [Int.toNat_natCast]; exact fd_at h1) (fun _ => rfl) (fun _ => rfl) ?_
        simp only [FD.l, gD, List.cons_append, List.nil_append]
        refine call_step (f_behind (f := q.getD r default) (g := q.getD i default) (h3.get hr2) (h3.get h1) hL) rfl ?_
        simp only [fa_one, fa_nil, List.cons_append, List.nil_append]
        refine itD rfl (fun c3 => ?_) (fun c3 => ?_)
        · have eb : b2 q i = r := by have := b2_y (h := q) (i := i); rw [hr, eb1] at this; exact this hr2 c3
          exact jump_step rfl (by show ([_, _, _, _, _, _, _, _, _, _, _, _, _, _, _, _, _] : List DV) = _; rw [eb]; rfl)
        · have eb : b2 q i = i := by have := b2_n2 (h := q) (i := i); rw [hr, eb1] at this; exact this c3
          exact jump_step rfl (by show ([_, _, _, _, _, _, _, _, _, _, _, _, _, _, _, _, _] : List DV) = _; rw [eb]; rfl)
      · have eb : b2 q i = i := by have := b2_n1 (h := q) (i := i); rw [hr, eb1] at this; exact this (by omega)
        exact jump_step rfl (by show ([_, _, _, _, _, _, _, _, _, _, _, _, _, _, _, _, _] : List DV) = _; rw [eb]; rfl)
  · intro ds hds
    subst hds
    obtain ⟨g1, g2⟩ := b2_rng (h := q) (i := i) h1
    have h5 : h.length = (h.length - 1) + 1 := by omega
    have hstop : b2 q i = i → dnF h.length q i = q := fun e => by rw [h5]; exact dnF_stop e
    have hgo : b2 q i ≠ i → dnF h.length q i = dnF h.length (sw q i (b2 q i)) (b2 q i) := fun e => by
      rw [h5, dnF_go e]; exact dnF_fuel _ _ _ _ (by rw [sw_len]; omega) (by rw [sw_len]; omega)
    generalize b2 q i = b at g1 g2 hstop hgo ⊢
    refine primS (.bool (decide ((b : Int) = (i : Int)))) d_eql ?_
    refine itD rfl (fun c => ?_) (fun c => ?_)
    · refine ret_step ?_
      rw [← h4, hstop (by omega)]; rfl
    · have hbi : b ≠ i := fun e => c (by rw [e])
      rw [hgo hbi] at h4
      refine primS (.bool true) (fl_inb (by omega) (by first | omega | (dsimp only; omega) | (simp only [List.length_set]; omega))) ?_
      try simp only [List.cons_append, List.nil_append]
      refine get_fd (j := ((b : Nat) : Int)) (by omega) (by rw [Int.toNat_natCast]; exact fd_at g2) (fun _ => rfl) (fun _ => rfl) ?_
      simp only [FD.l, gD, List.cons_append, List.nil_append]
      refine primS (.bool true) (fl_inb (by omega) (by first | omega | (dsimp only; omega) | (simp only [List.length_set]; omega))) ?_
      try simp only [List.cons_append, List.nil_append]
      refine get_fd (j := ((i : Nat) : Int)) (by omega) (by rw [Int.toNat_natCast]; exact fd_at h1) (fun _ => rfl) (fun _ => rfl) ?_
      simp only [FD.l, gD, List.cons_append, List.nil_append]
      refine primS (.bool true) (fl_inb (by omega) (by first | omega | (dsimp only; omega))) ?_
      try simp only [List.cons_append, List.nil_append]
      refine primS (fl (q.set i (q.getD b default))) ((fl_set (f := q.getD b default) (by omega) (by omega)).trans (by rw [Int.toNat_natCast])) ?_
      refine primS (.bool true) (fl_inb (by omega) (by rw [List.length_set]; omega)) ?_
      try simp only [List.cons_append, List.nil_append]
      refine primS (fl (sw q i b)) ((fl_set (f := q.getD i default) (by omega) (by rw [List.length_set]; omega)).trans (by rw [Int.toNat_natCast]; rfl)) ?_
      exact jump_step rfl (hX (b, sw q i b) ⟨by rw [sw_len]; exact g2, by rw [sw_len]; exact h2, h3.sw h1 g2, h4⟩ (by simp only; omega))
end Go.Px.Na

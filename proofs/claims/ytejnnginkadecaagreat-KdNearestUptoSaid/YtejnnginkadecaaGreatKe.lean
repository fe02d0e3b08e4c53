/- Ke: how deep a tree is: the program's way. -/
import Derived.Test.YtejnnginkadecaaGreatKc
set_option maxRecDepth 40000
set_option maxHeartbeats 40000000
set_option linter.unusedVariables false
set_option linter.unusedSimpArgs false
namespace Go.Px.Na
open Go.RowKit
open Go.Proofs.Tryz (prog)
/-- One child's depth is told. -/
def hand (i : Nat) (m : Nat) (k : Int) (dl : List Int) : List Int := if (i : Int) < k ∧ k < m then dl.set k.toNat (dl.getD i 0) else dl
theorem hand_len {i m : Nat} {k : Int} {dl : List Int} : (hand i m k dl).length = dl.length := by unfold hand; split <;> simp
/-- The greatest depth so far, and the depths, after so many nodes. -/
def dst (ns : List KN) : Nat → Int × List Int
  | 0 => (0, List.replicate ns.length 0)
  | i + 1 =>
    let dl := (dst ns i).2.set i ((dst ns i).2.getD i 0 + 1)
    let n := ns.getD i default
    (if dl.getD i 0 > (dst ns i).1 then dl.getD i 0 else (dst ns i).1, hand i ns.length n.rt (hand i ns.length n.lf dl))
theorem dst_len {ns : List KN} : ∀ i, (dst ns i).2.length = ns.length
  | 0 => by simp [dst]
  | i + 1 => by simp only [dst, hand_len, List.length_set]; exact dst_len i
theorem hand_all {P : Int → Prop} {i m : Nat} {k : Int} {dl : List Int} (h : ∀ x ∈ dl, P x) (hi : P (dl.getD i 0)) : ∀ x ∈ hand i m k dl, P x := by
  unfold hand
  split
  · intro x hx
    rcases List.mem_or_eq_of_mem_set hx with h1 | rfl
    · exact h x h1
    · exact hi
  · exact h
theorem getD_all {P : Int → Prop} {dl : List Int} {i : Nat} (h : ∀ x ∈ dl, P x) (hi : i < dl.length) : P (dl.getD i 0) := by
  rw [List.getD_eq_getElem?_getD, List.getElem?_eq_getElem hi]
  exact h _ (List.getElem_mem _)
theorem dst_rng {ns : List KN} : ∀ i, i ≤ ns.length → (0 ≤ (dst ns i).1 ∧ (dst ns i).1 ≤ i) ∧ ∀ x ∈ (dst ns i).2, 0 ≤ x ∧ x ≤ (i : Int)
  | 0, _ => ⟨⟨Int.le_refl _, Int.le_refl _⟩, fun x hx => by simp only [dst, List.mem_replicate] at hx; omega⟩
  | i + 1, h => by
    obtain ⟨h1, h2⟩ := dst_rng (ns := ns) i (by omega)
    have hi : i < (dst ns i).2.length := by have := dst_len (ns := ns) i; omega
    have h3 := getD_all (P := fun x => 0 ≤ x ∧ x ≤ (i : Int)) h2 hi
    have h4 : ∀ x ∈ (dst ns i).2.set i ((dst ns i).2.getD i 0 + 1), 0 ≤ x ∧ x ≤ ((i + 1 : Nat) : Int) := fun x hx => by
      rcases List.mem_or_eq_of_mem_set hx with h5 | rfl
      · have := h2 x h5; omega
      · omega
    have h5 := getD_all (P := fun x => 0 ≤ x ∧ x ≤ ((i + 1 : Nat) : Int)) h4 (i := i) (by simpa using hi)
    refine ⟨?_, ?_⟩
    · simp only [dst]; split <;> omega
    · simp only [dst]
      have h6 := hand_all (P := fun x => 0 ≤ x ∧ x ≤ ((i + 1 : Nat) : Int)) (m := ns.length) (k := (ns.getD i default).lf) h4 h5
      exact hand_all (P := fun x => 0 ≤ x ∧ x ≤ ((i + 1 : Nat) : Int)) (i := i) h6 (getD_all h6 (by rw [hand_len, List.length_set]; exact hi))
theorem set_get {dl : List Int} {i : Nat} {x : Int} (h : i < dl.length) : (dl.set i x).getD i 0 = x := by
  simp [List.getD_eq_getElem?_getD, h]
theorem hand_get {i m : Nat} {k : Int} {dl : List Int} (hk : ¬k.toNat = i ∨ ¬(i : Int) < k) : (hand i m k dl).getD i 0 = dl.getD i 0 := by
  unfold hand
  split
  · rename_i h
    rw [List.getD_eq_getElem?_getD, List.getElem?_set, if_neg (by omega), ← List.getD_eq_getElem?_getD]
  · rfl
theorem f_Depth {ns : List KN} (hm : ns.length ≤ 1000) : PureCalls prog F.kd_Depth [.agg [kl ns]] [.one (.int .i64 (dst ns ns.length).1)] := by
  refine symFunc_sound hmix tree_kd_Depth (by kernel_rfl) rfl ?_
  unfold ir_kd_Depth
  try simp only [HH, gW, gD, V3.l, M4.l, Fr.l, Sp.l, RV.l, RM.l, RF.l, RS.l]
  refine primS (.int .i64 (ns.length : Int)) rfl ?_
  refine primS (il (List.replicate ns.length 0)) (il_make _ (by omega)) ?_
  refine primS (.int .i64 (ns.length : Int)) rfl ?_
  try simp only [List.cons_append, List.nil_append]
  refine loop_st (fun i : Nat => [.int .i64 (dst ns i).1, kl ns, .int .i64 (ns.length : Int), .int .i64 (i : Int), il (dst ns i).2]) (fun i => i ≤ ns.length) (fun i => ns.length - i) 0 (Nat.zero_le _) rfl (fun _ => rfl) fun i hi X hX => ?_
  by_cases hlt : i < ns.length
  · refine primS (.bool true) (d_lss.trans (by rw [decide_eq_true (by omega)])) ?_
    refine itT rfl ?_
    obtain ⟨n, hn⟩ : ∃ n, ns[i]? = some n := ⟨_, List.getElem?_eq_getElem hlt⟩
    refine primS (.bool true) (kl_inb (by omega) (by omega)) ?_
    refine get_kn hn (fun _ => rfl) (fun _ => rfl) ?_
    simp only [KN.l, List.cons_append, List.nil_append]
    have hnd : ns.getD i default = n := by simp [List.getD_eq_getElem?_getD, hn]
    obtain ⟨r1, r2⟩ := dst_rng (ns := ns) i (by omega)
    have hl := dst_len (ns := ns) i
    have r3 := getD_all (P := fun x => 0 ≤ x ∧ x ≤ (i : Int)) r2 (i := i) (by omega)
    have hX' := hX (i + 1) (by omega) (by omega)
    simp only [dst, hnd] at hX'
    generalize hmo : (dst ns i).1 = mo at hX' r1 ⊢
    generalize hdl : (dst ns i).2 = dl at hX' r2 r3 hl ⊢
    refine primS (.bool true) (il_inb (by omega) (by omega)) ?_
    refine primS (.int .i64 (dl.getD i 0)) ((il_get (by omega) (by omega)).trans (by rw [Int.toNat_natCast])) ?_
    refine primS (.int .i64 (dl.getD i 0 + 1)) (d_add64 (by omega) (by omega)) ?_
    try simp only [List.cons_append, List.nil_append]
    refine primS (.bool true) (il_inb (by omega) (by omega)) ?_
    refine primS (il (dl.set i (dl.getD i 0 + 1))) ((il_set (by omega) (by omega)).trans (by rw [Int.toNat_natCast])) ?_
    have hd1 : (dl.set i (dl.getD i 0 + 1)).getD i 0 = dl.getD i 0 + 1 := set_get (by omega)
    have hl1 : (dl.set i (dl.getD i 0 + 1)).length = ns.length := by simp [hl]
    generalize hdl1 : dl.set i (dl.getD i 0 + 1) = dl1 at hX' hd1 hl1 ⊢
    refine primS (.bool true) (il_inb (by omega) (by omega)) ?_
    try simp only [List.cons_append, List.nil_append]
    refine primS (.int .i64 (dl1.getD i 0)) ((il_get (by omega) (by omega)).trans (by rw [Int.toNat_natCast])) ?_
    refine primS (.int .i64 (if dl1.getD i 0 > mo then dl1.getD i 0 else mo)) d_max ?_
    have hto : ∀ k : Int, (i : Int) < k ∧ k < ns.length → ∀ q : List Int, q.length = ns.length → q.getD i 0 = dl1.getD i 0 → hand i ns.length k q = q.set k.toNat (dl1.getD i 0) := fun k hk q hq he => by
      unfold hand; rw [if_pos hk, he]
    have hno : ∀ k : Int, ¬((i : Int) < k ∧ k < ns.length) → ∀ q : List Int, hand i ns.length k q = q := fun k hk q => by
      unfold hand; rw [if_neg hk]
    refine primS (.bool (decide ((i : Int) < n.lf))) d_gtr ?_
    try simp only [List.cons_append, List.nil_append]
    have fin : ∀ (q : List Int), q = hand i ns.length n.lf dl1 → q.getD i 0 = dl1.getD i 0 ∧ q.length = ns.length := fun q hq => by
      subst hq
      exact ⟨hand_get (by omega), by rw [hand_len]; exact hl1⟩
    refine itD rfl (fun c1 => ?_) (fun c1 => ?_)
    · refine primS (.int .i64 (ns.length : Int)) (by show some (DV.int .i64 ((dl1.length : Nat) : Int)) = _; rw [hl1]) ?_
      refine primS (.bool (decide (n.lf < (ns.length : Int)))) d_lss ?_
      refine itD rfl (fun c2 => ?_) (fun c2 => ?_)
      · refine primS (.bool true) (il_inb (by omega) (by omega)) ?_
        refine primS (.int .i64 (dl1.getD i 0)) ((il_get (by omega) (by omega)).trans (by rw [Int.toNat_natCast])) ?_
        refine primS (.bool true) (il_inb (by omega) (by omega)) ?_
        try simp only [List.cons_append, List.nil_append]
        refine primS (il (dl1.set n.lf.toNat (dl1.getD i 0))) (il_set (by omega) (by omega)) ?_
        have hq := hto n.lf ⟨c1, c2⟩ dl1 hl1 rfl
        obtain ⟨g1, g2⟩ := fin _ hq.symm
        rw [hq] at hX'
        generalize hdl2 : dl1.set n.lf.toNat (dl1.getD i 0) = dl2 at hX' g1 g2 ⊢
        try simp only [List.cons_append, List.nil_append]
        refine primS (.bool (decide ((i : Int) < n.rt))) d_gtr ?_
        refine itD rfl (fun c3 => ?_) (fun c3 => ?_)
        · refine primS (.int .i64 (ns.length : Int)) (by show some (DV.int .i64 ((dl2.length : Nat) : Int)) = _; rw [g2]) ?_
          refine primS (.bool (decide (n.rt < (ns.length : Int)))) d_lss ?_
          refine itD rfl (fun c4 => ?_) (fun c4 => ?_)
          · refine primS (.bool true) (il_inb (by omega) (by omega)) ?_
            refine primS (.int .i64 (dl2.getD i 0)) ((il_get (by omega) (by omega)).trans (by rw [Int.toNat_natCast])) ?_
            refine primS (.bool true) (il_inb (by omega) (by omega)) ?_
            try simp only [List.cons_append, List.nil_append]
            refine primS (il (dl2.set n.rt.toNat (dl2.getD i 0))) (il_set (by omega) (by omega)) ?_
            refine primS (.int .i64 ((i + 1 : Nat) : Int)) ((d_add64 (by omega) (by omega)).trans (by simp)) ?_
            rw [hto n.rt ⟨c3, c4⟩ dl2 g2 g1, ← g1] at hX'
            rw [g1] at hX' ⊢
            exact jump_step rfl hX'
          · refine primS (.int .i64 ((i + 1 : Nat) : Int)) ((d_add64 (by omega) (by omega)).trans (by simp)) ?_
            try simp only [List.cons_append, List.nil_append]
            rw [hno n.rt (by omega)] at hX'
            exact jump_step rfl hX'
        · refine primS (.int .i64 ((i + 1 : Nat) : Int)) ((d_add64 (by omega) (by omega)).trans (by simp)) ?_
          rw [hno n.rt (by omega)] at hX'
          exact jump_step rfl hX'
      · rw [hno n.lf (by omega)] at hX'
        refine primS (.bool (decide ((i : Int) < n.rt))) d_gtr ?_
        refine itD rfl (fun c3 => ?_) (fun c3 => ?_)
        · refine primS (.int .i64 (ns.length : Int)) (by show some (DV.int .i64 ((dl1.length : Nat) : Int)) = _; rw [hl1]) ?_
          refine primS (.bool (decide (n.rt < (ns.length : Int)))) d_lss ?_
          refine itD rfl (fun c4 => ?_) (fun c4 => ?_)
          · refine primS (.bool true) (il_inb (by omega) (by omega)) ?_
            refine primS (.int .i64 (dl1.getD i 0)) ((il_get (by omega) (by omega)).trans (by rw [Int.toNat_natCast])) ?_
            refine primS (.bool true) (il_inb (by omega) (by omega)) ?_
            try simp only [List.cons_append, List.nil_append]
            refine primS (il (dl1.set n.rt.toNat (dl1.getD i 0))) (il_set (by omega) (by omega)) ?_
            refine primS (.int .i64 ((i + 1 : Nat) : Int)) ((d_add64 (by omega) (by omega)).trans (by simp)) ?_
            rw [hto n.rt ⟨c3, c4⟩ dl1 hl1 rfl] at hX'
            exact jump_step rfl hX'
          · refine primS (.int .i64 ((i + 1 : Nat) : Int)) ((d_add64 (by omega) (by omega)).trans (by simp)) ?_
            try simp only [List.cons_append, List.nil_append]
            rw [hno n.rt (by omega)] at hX'
            exact jump_step rfl hX'
        · refine primS (.int .i64 ((i + 1 : Nat) : Int)) ((d_add64 (by omega) (by omega)).trans (by simp)) ?_
          rw [hno n.rt (by omega)] at hX'
          exact jump_step rfl hX'
    · rw [hno n.lf (by omega)] at hX'
      refine primS (.bool (decide ((i : Int) < n.rt))) d_gtr ?_
      refine itD rfl (fun c3 => ?_) (fun c3 => ?_)
      · refine primS (.int .i64 (ns.length : Int)) (by show some (DV.int .i64 ((dl1.length : Nat) : Int)) = _; rw [hl1]) ?_
        refine primS (.bool (decide (n.rt < (ns.length : Int)))) d_lss ?_
        refine itD rfl (fun c4 => ?_) (fun c4 => ?_)
        · refine primS (.bool true) (il_inb (by omega) (by omega)) ?_
          refine primS (.int .i64 (dl1.getD i 0)) ((il_get (by omega) (by omega)).trans (by rw [Int.toNat_natCast])) ?_
          refine primS (.bool true) (il_inb (by omega) (by omega)) ?_
          try simp only [List.cons_append, List.nil_append]
          refine primS (il (dl1.set n.rt.toNat (dl1.getD i 0))) (il_set (by omega) (by omega)) ?_
          refine primS (.int .i64 ((i + 1 : Nat) : Int)) ((d_add64 (by omega) (by omega)).trans (by simp)) ?_
          rw [hto n.rt ⟨c3, c4⟩ dl1 hl1 rfl] at hX'
          exact jump_step rfl hX'
        · refine primS (.int .i64 ((i + 1 : Nat) : Int)) ((d_add64 (by omega) (by omega)).trans (by simp)) ?_
          try simp only [List.cons_append, List.nil_append]
          rw [hno n.rt (by omega)] at hX'
          exact jump_step rfl hX'
      · refine primS (.int .i64 ((i + 1 : Nat) : Int)) ((d_add64 (by omega) (by omega)).trans (by simp)) ?_
        rw [hno n.rt (by omega)] at hX'
        exact jump_step rfl hX'
  · obtain rfl : i = ns.length := by omega
    refine primS (.bool false) (d_lss.trans (by rw [decide_eq_false (by omega)])) ?_
    refine itF rfl ?_
    exact ret_step rfl
end Go.Px.Na

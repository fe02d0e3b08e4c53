/- Wh: how long the densities can be; rows of long numbers that are the same. -/
import Derived.Test.YtkdppmbacjflaaaGreatFy
set_option maxRecDepth 20000
set_option maxHeartbeats 40000000
set_option linter.unusedVariables false
set_option linter.unusedSimpArgs false
namespace Go.Px.Na
open Go.RowKit
open Go.Proofs.Tryz (prog)
section
variable {r : RP} {p : Pa}
theorem SPa.q (h : SPa 1048576 p) (hn : p.n ≤ 16) (hw : (1 ≤ p.cam.w ∧ p.cam.w ≤ 16) ∧ (1 ≤ p.cam.h ∧ p.cam.h ≤ 16)) (i : Nat) : Sm 402000000000 (p.q i) := by
  unfold Pa.q
  split
  · exact (h.b hn 0).mono (by decide)
  · split
    · rename_i c; exact ((h.a' (i := i) (by omega)).mul (h.b hn i)).mono (by decide)
    · split
      · have b1 : p.cam.w * p.cam.h ≤ 16 * 16 := Int.le_trans (Int.mul_le_mul_of_nonneg_right hw.1.2 (by omega)) (Int.mul_le_mul_of_nonneg_left hw.2.2 (by decide))
        have b2 : 0 ≤ p.cam.w * p.cam.h := Int.mul_nonneg (by omega) (by omega)
        exact ((h.a' (i := p.n) hn).mul (Sm_int (n := p.cam.w * p.cam.h) (L := 1) (by omega) (by decide))).mono (by decide)
      · exact Sm0.mono (by decide)
theorem SPa.J (h : SPa 1048576 p) : ∀ x ∈ p.J, Sm 402000000000 x := fun x hx => by
  unfold Pa.J at hx
  split at hx
  · rename_i c
    obtain ⟨i, _, rfl⟩ := List.mem_map.1 hx
    exact h.q c.1.2 c.2.2 i
  · cases hx
theorem SPa.M (h : SPa 1048576 p) : ∀ x ∈ p.M, Sm 403000000000 x := fun x hx => by
  unfold Pa.M at hx
  split at hx
  · rename_i c
    obtain ⟨i, hi, rfl⟩ := List.mem_map.1 hx
    rw [List.mem_range] at hi
    exact ((h.merge.mul (h.a' (i := i + 1 + 1) (by have := c.1.2; omega))).mul (h.b c.1.2 (i + 1))).mono (by decide)
  · cases hx
end
theorem f_SameK {l : List Rat} (h1 : ∀ x ∈ l, Sm KL x) (hl : l.length ≤ 1000) : PureCalls prog F.penumbraref09_Same [.one (rw' l), .one (rw' l)] [.one (.bool true)] := by
  refine symFunc_sound hmix tree_penumbraref09_Same (by kernel_rfl) rfl ?_
  unfold ir_penumbraref09_Same
  try simp only [JJ]
  refine primS (.int .i64 (l.length : Int)) (rw_len l) ?_
  refine primS (.int .i64 (l.length : Int)) (rw_len l) ?_
  refine primS (.bool false) (d_neq.trans (by rw [decide_eq_false (by omega)])) ?_
  refine itF rfl ?_
  refine loop_st (fun i : Nat => [rw' l, rw' l, .int .i64 (i : Int)]) (fun i => i ≤ l.length) (fun i => l.length - i) 0 (Nat.zero_le _) rfl (fun _ => rfl) fun i hi X hX => ?_
  refine primS (.int .i64 (l.length : Int)) (rw_len l) ?_
  refine primS (.bool (decide _)) d_lss ?_
  refine itD rfl (fun c1 => ?_) (fun c1 => ?_)
  · have hlt : i < l.length := by omega
    refine primS (.bool true) (rw_inb hlt) ?_
    try simp only [JJ]
    refine get_rr (x := .var 0) (i := .var 2) (rw_get hlt) (fun _ => rfl) (fun _ => rfl) ?_
    simp only [JJ]
    refine primS (.bool true) (rw_inb hlt) ?_
    try simp only [JJ]
    refine get_rr (x := .var 1) (i := .var 2) (rw_get hlt) (fun _ => rfl) (fun _ => rfl) ?_
    simp only [JJ]
    have ki := cr_is (cr l[i]) (cr l[i]) (cr_ok (h1 _ (List.getElem_mem hlt))) (cr_ok (h1 _ (List.getElem_mem hlt)))
    rw [eqRR_cr, decide_eq_true rfl] at ki
    refine call_step ki rfl ?_
    simp only [JJ]
    refine primS (.bool false) rfl ?_
    refine itF rfl ?_
    refine primS (.int .i64 ((i + 1 : Nat) : Int)) ((d_add64 (by omega) (by omega)).trans (by simp)) ?_
    exact jump_step rfl (hX (i + 1) (by omega) (by omega))
  · exact ret_step rfl
end Go.Px.Na

/- Wp: which place of a table a draw picks. -/
import Derived.Test.YtgnhhdgepnfnmaaXWarpPicks
set_option maxRecDepth 20000
set_option maxHeartbeats 8000000
set_option linter.unusedVariables false
set_option linter.unusedSimpArgs false
namespace Go.Px.Na
open Go.RowKit
open Go.Proofs.Try (prog)

/-- A row of whole numbers. -/
def il (ws : List Int) : DV := .list ws.length (ws.map (DV.int .i64))
theorem il_len {ws : List Int} : Prim.den .len [il ws] = some (.int .i64 (ws.length : Int)) := rfl
theorem il_inb {ws : List Int} {i : Nat} (h : i < ws.length) : Prim.den (.inb 1) [il ws, .int .i64 (i : Int)] = some (.bool true) := by
  simp only [il, Prim.den]
  rw [if_pos ⟨by omega, by omega, by simp; omega⟩]
theorem il_get {ws : List Int} {i : Nat} {w : Int} (h : ws[i]? = some w) : Prim.den (.get 1 0) [il ws, .int .i64 (i : Int)] = some (.int .i64 w) := by
  have hi := (List.getElem?_eq_some_iff.1 h).1
  simp only [il, Prim.den]
  rw [if_pos ⟨by omega, by omega⟩]
  simp [h]
/-- The sum of the first ones. -/
def sm (ws : List Int) (k : Nat) : Int := (ws.take k).sum
theorem sm_zero {ws : List Int} : sm ws 0 = 0 := by simp [sm]
theorem sm_succ {ws : List Int} {k : Nat} {w : Int} (h : ws[k]? = some w) : sm ws (k + 1) = sm ws k + w := by
  unfold sm
  rw [List.take_add_one, h]
  simp
def good (ws : List Int) : Prop := ∀ w ∈ ws, 0 ≤ w ∧ w ≤ 1048576
theorem sm_b {ws : List Int} (hg : good ws) : ∀ (k : Nat), k ≤ ws.length → 0 ≤ sm ws k ∧ sm ws k ≤ 1048576 * (k : Int)
  | 0, _ => by rw [sm_zero]; omega
  | k + 1, h => by
    have ih := sm_b hg k (by omega)
    have hk : ws[k]? = some ws[k] := List.getElem?_eq_getElem (by omega)
    have := hg _ (List.mem_of_getElem? hk)
    rw [sm_succ hk]
    omega
/-- What is picked. -/
def spc (ws : List Int) (a : Rat) : Option Nat → Prop
  | some i => i < ws.length ∧ a < (sm ws (i + 1) : Rat) ∧ ∀ j, j < i → ¬a < (sm ws (j + 1) : Rat)
  | none => ∀ j, j < ws.length → ¬a < (sm ws (j + 1) : Rat)
def pr : Option Nat → List AV
  | some i => [.one (.int .i64 (i : Int)), .one (.bool true)]
  | none => [.one (.int .i64 0), .one (.bool false)]
theorem least {p : Nat → Prop} : ∀ (n : Nat), p n → ∃ m, p m ∧ ∀ j, j < m → ¬p j := by
  intro n
  induction n using Nat.strongRecOn with
  | ind n ih =>
    intro h
    by_cases hx : ∃ j, j < n ∧ p j
    · obtain ⟨j, hj, hp⟩ := hx; exact ih j hj hp
    · exact ⟨n, h, fun j hj hp => hx ⟨j, hj, hp⟩⟩
theorem spc_ex (ws : List Int) (a : Rat) : ∃ r, spc ws a r := by
  by_cases h : ∃ j, j < ws.length ∧ a < (sm ws (j + 1) : Rat)
  · obtain ⟨j, hj⟩ := h
    obtain ⟨m, ⟨h1, h2⟩, h3⟩ := least (p := fun j => j < ws.length ∧ a < (sm ws (j + 1) : Rat)) j hj
    exact ⟨some m, h1, h2, fun i hi z => h3 i hi ⟨by omega, z⟩⟩
  · exact ⟨none, fun j hj z => h ⟨j, hj, z⟩⟩
theorem spc_some {ws : List Int} {a : Rat} {r : Option Nat} {k : Nat} (h : spc ws a r) (hk : k < ws.length) (h1 : a < (sm ws (k + 1) : Rat)) (h2 : ∀ j, j < k → ¬a < (sm ws (j + 1) : Rat)) : r = some k := by
  cases r with
  | none => exact absurd h1 (h k hk)
  | some i =>
    obtain ⟨g1, g2, g3⟩ := h
    rcases Nat.lt_trichotomy i k with z | z | z
    · exact absurd g2 (h2 i z)
    · rw [z]
    · exact absurd h1 (g3 k z)
theorem spc_none {ws : List Int} {a : Rat} {r : Option Nat} (h : spc ws a r) (h2 : ∀ j, j < ws.length → ¬a < (sm ws (j + 1) : Rat)) : r = none := by
  cases r with
  | none => rfl
  | some i => exact absurd h.2.1 (h2 i h.1)
theorem ofQ_1 (n : Int) : ofQ n 1 = (n : Rat) := by
  unfold ofQ
  rw [Rat.div_def, show (((1 : Int) : Rat))⁻¹ = 1 by decide +kernel, Rat.mul_one]
/-- May there be a pick? -/
def may14 (ws : List Int) (x : Rat) : Prop := ws.length ≤ 1000 ∧ 0 ≤ x ∧ x < 1 ∧ good ws

section
variable {ws : List Int} {r0 : RR} {x : Rat} {r : Option Nat}
theorem c_pick_t (h0 : Num 1048576 r0 x) (hm : may14 ws x) (hr : spc ws (x * (sm ws ws.length : Rat)) r) : PureCalls prog F.warp_Pick [.one (il ws), .agg ([.bool r0.neg, nl r0.num, nl r0.den])] (pr r) := by
  obtain ⟨hl, x0, x1, hg⟩ := hm
  obtain ⟨Z0, Y0⟩ := ex_eq (0 : Rat)
  obtain ⟨Z1, Y1⟩ := ex_eq (1 : Rat)
  have m1 : Num 1 (cr Z1) Z1 := Num.c Y1 (by decide +kernel) (by decide +kernel)
  have hS := sm_b hg ws.length (Nat.le_refl _)
  have sS : Sm 2 (ofQ (sm ws ws.length) 1) := Sm_ofQ (by omega) (by omega) (by decide) (by decide)
  rw [ofQ_1] at sS
  have mS := Num.of sS
  have mA := Num.of (h0.sm.mul sS)
  refine symFunc_sound hmix tree_warp_Pick (by kernel_rfl) rfl ?_
  unfold ir_warp_Pick
  simp only [GG, List.cons_append, List.nil_append, List.append_nil]
  refine primS _ il_len ?_
  refine primS (.bool false) (d_gtr.trans (by rw [decide_eq_false (by omega)])) ?_
  refine itF rfl ?_
  refine call_step (n_rat_Sign (h0.mono (by decide))) rfl ?_
  simp only [GG, List.cons_append, List.nil_append, List.append_nil]
  refine primS (.bool false) (cs_lss_f (fun z => by have := (sg_lt Y0).1 z; rw [Y0] at this; grind)) ?_
  refine itF rfl ?_
  refine call_step (n_warp_one_0 Y1) rfl ?_
  simp only [HH, gW, gD]
  refine call_step (n_rat_Cmp (h0.mono (by decide)) (m1.mono (by decide))) rfl ?_
  simp only [GG, List.cons_append, List.nil_append, List.append_nil]
  refine primS (.bool false) (cs_geq_f (cq_lt.2 (by rw [Y1]; exact x1))) ?_
  refine itF rfl ?_
  refine primS _ il_len ?_
  simp only [GG, List.cons_append, List.nil_append, List.append_nil]
  refine loop_step (fun ds => ∃ k : Nat, k ≤ ws.length ∧ ds = [il ws, .int .i64 (sm ws k), .int .i64 (ws.length : Int), .int .i64 (k : Int), .bool r0.neg, nl r0.num, nl r0.den]) (numf (fun i => ((ws.length : Int) - i).toNat) 3) ?_ ?_ ?_
  · exact ⟨0, Nat.zero_le _, by rw [sm_zero]; rfl⟩
  · rintro ds ⟨k, hk, rfl⟩; rfl
  · rintro ds ⟨k, hk, rfl⟩
    by_cases hlt : k < ws.length
    · obtain ⟨w, hw⟩ : ∃ w, ws[k]? = some w := ⟨_, List.getElem?_eq_getElem hlt⟩
      have hgw := hg w (List.mem_of_getElem? hw)
      have hb := sm_b hg k hk
      refine primS (.bool true) (d_lss.trans (by rw [decide_eq_true (by omega)])) ?_
      refine itT rfl ?_
      refine primS (.bool true) (il_inb hlt) ?_
      refine primS (.int .i64 w) (il_get hw) ?_
      refine primS (.bool false) (d_lss.trans (by rw [decide_eq_false (by omega)])) ?_
      refine itF rfl ?_
      refine primS (.bool false) (d_gtr.trans (by rw [decide_eq_false (by omega)])) ?_
      refine itF rfl ?_
      refine primS (.int .i64 (sm ws (k + 1))) ((d_add64 (by omega) (by omega)).trans (by rw [sm_succ hw])) ?_
      refine primS (.int .i64 ((k + 1 : Nat) : Int)) ((d_add64 (by omega) (by omega)).trans (by simp)) ?_
      refine jump_step rfl ⟨⟨k + 1, hlt, rfl⟩, ?_⟩
      show ((ws.length : Int) - ((k + 1 : Nat) : Int)).toNat < ((ws.length : Int) - (k : Int)).toNat
      omega
    · obtain rfl : k = ws.length := by omega
      refine primS (.bool false) (d_lss.trans (by rw [decide_eq_false (by omega)])) ?_
      refine itF rfl ?_
      refine call_step (n_rat_Of (k0 := (sm ws ws.length : Rat)) (sm ws ws.length) 1 (by omega) (by omega) (by decide) (by decide) (ofQ_1 _).symm) rfl ?_
      simp only [GG, List.cons_append, List.nil_append, List.append_nil]
      refine primS (rl [r0, cr (sm ws ws.length : Rat)]) rfl ?_
      refine call_step (n_rat_Product_2 (k0 := x * (sm ws ws.length : Rat)) (h0.mono (by decide)) (mS.mono (by decide)) rfl) rfl ?_
      simp only [GG, List.cons_append, List.nil_append, List.append_nil]
      refine primS _ il_len ?_
      simp only [GG, List.cons_append, List.nil_append, List.append_nil]
      refine loop_step (fun ds => ∃ k : Nat, k ≤ ws.length ∧ (∀ j, j < k → ¬x * (sm ws ws.length : Rat) < (sm ws (j + 1) : Rat)) ∧ ds = [.int .i64 (sm ws k), il ws, .int .i64 (ws.length : Int), .int .i64 (k : Int), .bool (decide ((x * (sm ws ws.length : Rat)).num < 0)), nn (x * (sm ws ws.length : Rat)).num.natAbs, nn (x * (sm ws ws.length : Rat)).den]) (numf (fun i => ((ws.length : Int) - i).toNat) 3) ?_ ?_ ?_
      · exact ⟨0, Nat.zero_le _, fun j hj => absurd hj (Nat.not_lt_zero j), by rw [sm_zero]; rfl⟩
      · rintro ds ⟨k, hk, _, rfl⟩; rfl
      · rintro ds ⟨k, hk, hf, rfl⟩
        by_cases hlt : k < ws.length
        · obtain ⟨w, hw⟩ : ∃ w, ws[k]? = some w := ⟨_, List.getElem?_eq_getElem hlt⟩
          have hgw := hg w (List.mem_of_getElem? hw)
          have hb := sm_b hg k hk
          have hb1 := sm_b hg (k + 1) hlt
          have s1 : Sm 2 (ofQ (sm ws (k + 1)) 1) := Sm_ofQ (by omega) (by omega) (by decide) (by decide)
          rw [ofQ_1] at s1
          refine primS (.bool true) (d_lss.trans (by rw [decide_eq_true (by omega)])) ?_
          refine itT rfl ?_
          refine primS (.bool true) (il_inb hlt) ?_
          refine primS (.int .i64 w) (il_get hw) ?_
          refine primS (.int .i64 (sm ws (k + 1))) ((d_add64 (by omega) (by omega)).trans (by rw [sm_succ hw])) ?_
          refine call_step (n_rat_Of (k0 := (sm ws (k + 1) : Rat)) (sm ws (k + 1)) 1 (by omega) (by omega) (by decide) (by decide) (ofQ_1 _).symm) rfl ?_
          simp only [GG, List.cons_append, List.nil_append, List.append_nil]
          refine call_step (n_rat_Cmp (mA.mono (by decide)) ((Num.of s1).mono (by decide))) rfl ?_
          simp only [GG, List.cons_append, List.nil_append, List.append_nil]
          by_cases hc : x * (sm ws ws.length : Rat) < (sm ws (k + 1) : Rat)
          · refine primS (.bool true) (cs_lss_t (cq_lt.2 hc)) ?_
            refine itT rfl ?_
            rw [spc_some hr hlt hc hf]
            exact ret_step rfl
          · refine primS (.bool false) (cs_lss_f (fun z => hc (cq_lt.1 z))) ?_
            refine itF rfl ?_
            refine primS (.int .i64 ((k + 1 : Nat) : Int)) ((d_add64 (by omega) (by omega)).trans (by simp)) ?_
            refine jump_step rfl ⟨⟨k + 1, hlt, fun j hj => ?_, rfl⟩, ?_⟩
            · rcases Nat.lt_succ_iff_lt_or_eq.1 hj with z | z
              · exact hf j z
              · rw [z]; exact hc
            · show ((ws.length : Int) - ((k + 1 : Nat) : Int)).toNat < ((ws.length : Int) - (k : Int)).toNat
              omega
        · obtain rfl : k = ws.length := by omega
          refine primS (.bool false) (d_lss.trans (by rw [decide_eq_false (by omega)])) ?_
          refine itF rfl ?_
          rw [spc_none hr hf]
          exact ret_step rfl
theorem c_pick_f (h0 : Num 1048576 r0 x) (hl : ws.length ≤ 1048576) (hw : ∀ w ∈ ws, -9223372036854775808 ≤ w ∧ w < 9223372036854775808) (hm : ¬may14 ws x) : PureCalls prog F.warp_Pick [.one (il ws), .agg ([.bool r0.neg, nl r0.num, nl r0.den])] (pr none) := by
  obtain ⟨Z0, Y0⟩ := ex_eq (0 : Rat)
  obtain ⟨Z1, Y1⟩ := ex_eq (1 : Rat)
  have m1 : Num 1 (cr Z1) Z1 := Num.c Y1 (by decide +kernel) (by decide +kernel)
  refine symFunc_sound hmix tree_warp_Pick (by kernel_rfl) rfl ?_
  unfold ir_warp_Pick
  simp only [GG, List.cons_append, List.nil_append, List.append_nil]
  refine primS _ il_len ?_
  by_cases a0 : (1000 : Int) < (ws.length : Int)
  · refine primS (.bool true) (d_gtr.trans (by rw [decide_eq_true a0])) ?_
    refine itT rfl ?_
    exact ret_step rfl
  refine primS (.bool false) (d_gtr.trans (by rw [decide_eq_false a0])) ?_
  refine itF rfl ?_
  refine call_step (n_rat_Sign (h0.mono (by decide))) rfl ?_
  simp only [GG, List.cons_append, List.nil_append, List.append_nil]
  by_cases a1 : x < 0
  · refine primS (.bool true) (cs_lss_t ((sg_lt Y0).2 (by rw [Y0]; exact a1))) ?_
    refine itT rfl ?_
    exact ret_step rfl
  refine primS (.bool false) (cs_lss_f (fun z => a1 (by have := (sg_lt Y0).1 z; rwa [Y0] at this))) ?_
  refine itF rfl ?_
  refine call_step (n_warp_one_0 Y1) rfl ?_
  simp only [HH, gW, gD]
  refine call_step (n_rat_Cmp (h0.mono (by decide)) (m1.mono (by decide))) rfl ?_
  simp only [GG, List.cons_append, List.nil_append, List.append_nil]
  by_cases a3 : ¬x < 1
  · refine primS (.bool true) (cs_geq_t (fun z => a3 (by have := cq_lt.1 z; rwa [Y1] at this))) ?_
    refine itT rfl ?_
    exact ret_step rfl
  have a2 : x < 1 := Classical.not_not.1 a3
  refine primS (.bool false) (cs_geq_f (cq_lt.2 (by rw [Y1]; exact a2))) ?_
  refine itF rfl ?_
  have hb : ¬good ws := fun z => hm ⟨by omega, by grind, a2, z⟩
  refine primS _ il_len ?_
  simp only [GG, List.cons_append, List.nil_append, List.append_nil]
  refine loop_step (fun ds => ∃ k : Nat, k ≤ ws.length ∧ (∀ j w, j < k → ws[j]? = some w → 0 ≤ w ∧ w ≤ 1048576) ∧ (0 ≤ sm ws k ∧ sm ws k ≤ 1048576 * (k : Int)) ∧ ds = [il ws, .int .i64 (sm ws k), .int .i64 (ws.length : Int), .int .i64 (k : Int), .bool r0.neg, nl r0.num, nl r0.den]) (numf (fun i => ((ws.length : Int) - i).toNat) 3) ?_ ?_ ?_
  · exact ⟨0, Nat.zero_le _, fun j w hj => absurd hj (Nat.not_lt_zero j), by rw [sm_zero]; omega, by rw [sm_zero]; rfl⟩
  · rintro ds ⟨k, hk, _, _, rfl⟩; rfl
  · rintro ds ⟨k, hk, hf, hs, rfl⟩
    by_cases hlt : k < ws.length
    · obtain ⟨w, hwk⟩ : ∃ w, ws[k]? = some w := ⟨_, List.getElem?_eq_getElem hlt⟩
      have hgw := hw w (List.mem_of_getElem? hwk)
      refine primS (.bool true) (d_lss.trans (by rw [decide_eq_true (by omega)])) ?_
      refine itT rfl ?_
      refine primS (.bool true) (il_inb hlt) ?_
      refine primS (.int .i64 w) (il_get hwk) ?_
      by_cases b0 : w < 0
      · refine primS (.bool true) (d_lss.trans (by rw [decide_eq_true b0])) ?_
        refine itT rfl ?_
        exact ret_step rfl
      refine primS (.bool false) (d_lss.trans (by rw [decide_eq_false b0])) ?_
      refine itF rfl ?_
      by_cases b1 : 1048576 < w
      · refine primS (.bool true) (d_gtr.trans (by rw [decide_eq_true b1])) ?_
        refine itT rfl ?_
        exact ret_step rfl
      refine primS (.bool false) (d_gtr.trans (by rw [decide_eq_false b1])) ?_
      refine itF rfl ?_
      refine primS (.int .i64 (sm ws (k + 1))) ((d_add64 (by omega) (by omega)).trans (by rw [sm_succ hwk])) ?_
      refine primS (.int .i64 ((k + 1 : Nat) : Int)) ((d_add64 (by omega) (by omega)).trans (by simp)) ?_
      refine jump_step rfl ⟨⟨k + 1, hlt, fun j v hj hv => ?_, by rw [sm_succ hwk]; omega, rfl⟩, ?_⟩
      · rcases Nat.lt_succ_iff_lt_or_eq.1 hj with z | z
        · exact hf j v z hv
        · rw [z, hwk] at hv; cases hv; omega
      · show ((ws.length : Int) - ((k + 1 : Nat) : Int)).toNat < ((ws.length : Int) - (k : Int)).toNat
        omega
    · refine absurd (fun w hwm => ?_) hb
      obtain ⟨j, hj⟩ := List.getElem?_of_mem hwm
      exact hf j w (by have := (List.getElem?_eq_some_iff.1 hj).1; omega) hj
theorem cr_pick_t (h0 : Num 1048576 r0 x) (hm : may14 ws x) (hr : spc ws (x * (sm ws ws.length : Rat)) r) : PureCalls prog F.penumbraref14_Pick [.one (il ws), .agg ([.bool r0.neg, nl r0.num, nl r0.den])] (pr r) := by
  obtain ⟨hl, x0, x1, hg⟩ := hm
  obtain ⟨Z0, Y0⟩ := ex_eq (0 : Rat)
  obtain ⟨Z1, Y1⟩ := ex_eq (1 : Rat)
  have m1 : Num 1 (cr Z1) Z1 := Num.c Y1 (by decide +kernel) (by decide +kernel)
  have hS := sm_b hg ws.length (Nat.le_refl _)
  have sS : Sm 2 (ofQ (sm ws ws.length) 1) := Sm_ofQ (by omega) (by omega) (by decide) (by decide)
  rw [ofQ_1] at sS
  have mS := Num.of sS
  have mA := Num.of (h0.sm.mul sS)
  have ha : 0 ≤ x * (sm ws ws.length : Rat) := Rat.mul_nonneg x0 (by have := Rat.intCast_le_intCast.2 hS.1; simpa using this)
  refine symFunc_sound hmix tree_penumbraref14_Pick (by kernel_rfl) rfl ?_
  unfold ir_penumbraref14_Pick
  simp only [GG, List.cons_append, List.nil_append, List.append_nil]
  refine primS _ il_len ?_
  refine primS (.bool false) (d_gtr.trans (by rw [decide_eq_false (by omega)])) ?_
  refine itF rfl ?_
  refine call_step (n_penumbraref03_Sign (h0.mono (by decide))) rfl ?_
  simp only [GG, List.cons_append, List.nil_append, List.append_nil]
  refine primS (.bool false) (cs_lss_f (fun z => by have := (sg_lt Y0).1 z; rw [Y0] at this; grind)) ?_
  refine itF rfl ?_
  refine call_step (n_penumbraref03_One Y1) rfl ?_
  simp only [GG, List.cons_append, List.nil_append, List.append_nil]
  refine call_step (n_penumbraref03_Cmp (h0.mono (by decide)) (m1.mono (by decide))) rfl ?_
  simp only [GG, List.cons_append, List.nil_append, List.append_nil]
  refine primS (.bool false) (cs_geq_f (cq_lt.2 (by rw [Y1]; exact x1))) ?_
  refine itF rfl ?_
  refine loop_step (fun ds => ∃ k : Nat, k ≤ ws.length ∧ ds = [il ws, .int .i64 (sm ws k), .int .i64 (k : Int), .bool r0.neg, nl r0.num, nl r0.den]) (numf (fun i => ((ws.length : Int) - i).toNat) 2) ?_ ?_ ?_
  · exact ⟨0, Nat.zero_le _, by rw [sm_zero]; rfl⟩
  · rintro ds ⟨k, hk, rfl⟩; rfl
  · rintro ds ⟨k, hk, rfl⟩
    refine primS _ il_len ?_
    by_cases hlt : k < ws.length
    · obtain ⟨w, hw⟩ : ∃ w, ws[k]? = some w := ⟨_, List.getElem?_eq_getElem hlt⟩
      have hgw := hg w (List.mem_of_getElem? hw)
      have hb := sm_b hg k hk
      refine primS (.bool true) (d_lss.trans (by rw [decide_eq_true (by omega)])) ?_
      refine itT rfl ?_
      refine primS (.bool true) (il_inb hlt) ?_
      refine primS (.int .i64 w) (il_get hw) ?_
      refine primS (.bool false) (d_lss.trans (by rw [decide_eq_false (by omega)])) ?_
      refine itF rfl ?_
      refine primS (.bool true) (il_inb hlt) ?_
      refine primS (.int .i64 w) (il_get hw) ?_
      refine primS (.bool false) (d_gtr.trans (by rw [decide_eq_false (by omega)])) ?_
      refine itF rfl ?_
      refine primS (.bool true) (il_inb hlt) ?_
      refine primS (.int .i64 w) (il_get hw) ?_
      refine primS (.int .i64 (sm ws (k + 1))) ((d_add64 (by omega) (by omega)).trans (by rw [sm_succ hw])) ?_
      refine primS (.int .i64 ((k + 1 : Nat) : Int)) ((d_add64 (by omega) (by omega)).trans (by simp)) ?_
      refine jump_step rfl ⟨⟨k + 1, hlt, rfl⟩, ?_⟩
      show ((ws.length : Int) - ((k + 1 : Nat) : Int)).toNat < ((ws.length : Int) - (k : Int)).toNat
      omega
    · obtain rfl : k = ws.length := by omega
      refine primS (.bool false) (d_lss.trans (by rw [decide_eq_false (by omega)])) ?_
      refine itF rfl ?_
      refine call_step (n_penumbraref03_Of (k0 := (sm ws ws.length : Rat)) (sm ws ws.length) 1 (by omega) (by omega) (by decide) (by decide) (ofQ_1 _).symm) rfl ?_
      simp only [GG, List.cons_append, List.nil_append, List.append_nil]
      refine call_step (n_penumbraref03_Mul (k0 := x * (sm ws ws.length : Rat)) (h0.mono (by decide)) (mS.mono (by decide)) rfl) rfl ?_
      simp only [GG, List.cons_append, List.nil_append, List.append_nil]
      refine loop_step (fun ds => ∃ k : Nat, k ≤ ws.length ∧ (∀ j, j < k → ¬x * (sm ws ws.length : Rat) < (sm ws (j + 1) : Rat)) ∧ ds = [il ws, .int .i64 (sm ws k), .int .i64 (k : Int), .bool (decide ((x * (sm ws ws.length : Rat)).num < 0)), nn (x * (sm ws ws.length : Rat)).num.natAbs, nn (x * (sm ws ws.length : Rat)).den]) (numf (fun i => ((ws.length : Int) - i).toNat) 2) ?_ ?_ ?_
      · exact ⟨0, Nat.zero_le _, fun j hj => absurd hj (Nat.not_lt_zero j), by rw [sm_zero]; rfl⟩
      · rintro ds ⟨k, hk, _, rfl⟩; rfl
      · rintro ds ⟨k, hk, hf, rfl⟩
        refine primS _ il_len ?_
        by_cases hlt : k < ws.length
        · obtain ⟨w, hw⟩ : ∃ w, ws[k]? = some w := ⟨_, List.getElem?_eq_getElem hlt⟩
          have hgw := hg w (List.mem_of_getElem? hw)
          have hb := sm_b hg k hk
          have hb1 := sm_b hg (k + 1) hlt
          have s0 : Sm 2 (ofQ (sm ws k) 1) := Sm_ofQ (by omega) (by omega) (by decide) (by decide)
          rw [ofQ_1] at s0
          have s1 : Sm 2 (ofQ (sm ws (k + 1)) 1) := Sm_ofQ (by omega) (by omega) (by decide) (by decide)
          rw [ofQ_1] at s1
          have hge : ¬x * (sm ws ws.length : Rat) < (sm ws k : Rat) := by
            cases k with
            | zero => rw [sm_zero]; simp only [Rat.intCast_zero]; grind
            | succ k => exact hf k (Nat.lt_succ_self k)
          refine primS (.bool true) (d_lss.trans (by rw [decide_eq_true (by omega)])) ?_
          refine itT rfl ?_
          refine call_step (n_penumbraref03_Of (k0 := (sm ws k : Rat)) (sm ws k) 1 (by omega) (by omega) (by decide) (by decide) (ofQ_1 _).symm) rfl ?_
          simp only [GG, List.cons_append, List.nil_append, List.append_nil]
          refine call_step (n_penumbraref03_Cmp ((Num.of s0).mono (by decide)) (mA.mono (by decide))) rfl ?_
          simp only [GG, List.cons_append, List.nil_append, List.append_nil]
          refine primS (.bool true) (cs_leq_t (fun z => hge (cq_gt.1 z))) ?_
          refine itT rfl ?_
          refine primS (.bool true) (il_inb hlt) ?_
          refine primS (.int .i64 w) (il_get hw) ?_
          refine primS (.int .i64 (sm ws (k + 1))) ((d_add64 (by omega) (by omega)).trans (by rw [sm_succ hw])) ?_
          refine call_step (n_penumbraref03_Of (k0 := (sm ws (k + 1) : Rat)) (sm ws (k + 1)) 1 (by omega) (by omega) (by decide) (by decide) (ofQ_1 _).symm) rfl ?_
          simp only [GG, List.cons_append, List.nil_append, List.append_nil]
          refine call_step (n_penumbraref03_Cmp (mA.mono (by decide)) ((Num.of s1).mono (by decide))) rfl ?_
          simp only [GG, List.cons_append, List.nil_append, List.append_nil]
          by_cases hc : x * (sm ws ws.length : Rat) < (sm ws (k + 1) : Rat)
          · refine primS (.bool true) (cs_lss_t (cq_lt.2 hc)) ?_
            refine itT rfl ?_
            rw [spc_some hr hlt hc hf]
            exact ret_step rfl
          · refine primS (.bool false) (cs_lss_f (fun z => hc (cq_lt.1 z))) ?_
            refine itF rfl ?_
            refine primS (.bool true) (il_inb hlt) ?_
            refine primS (.int .i64 w) (il_get hw) ?_
            refine primS (.int .i64 (sm ws (k + 1))) ((d_add64 (by omega) (by omega)).trans (by rw [sm_succ hw])) ?_
            refine primS (.int .i64 ((k + 1 : Nat) : Int)) ((d_add64 (by omega) (by omega)).trans (by simp)) ?_
            refine jump_step rfl ⟨⟨k + 1, hlt, fun j hj => ?_, rfl⟩, ?_⟩
            · rcases Nat.lt_succ_iff_lt_or_eq.1 hj with z | z
              · exact hf j z
              · rw [z]; exact hc
            · show ((ws.length : Int) - ((k + 1 : Nat) : Int)).toNat < ((ws.length : Int) - (k : Int)).toNat
              omega
        · obtain rfl : k = ws.length := by omega
          refine primS (.bool false) (d_lss.trans (by rw [decide_eq_false (by omega)])) ?_
          refine itF rfl ?_
          rw [spc_none hr hf]
          exact ret_step rfl
theorem cr_pick_f (h0 : Num 1048576 r0 x) (hl : ws.length ≤ 1048576) (hw : ∀ w ∈ ws, -9223372036854775808 ≤ w ∧ w < 9223372036854775808) (hm : ¬may14 ws x) : PureCalls prog F.penumbraref14_Pick [.one (il ws), .agg ([.bool r0.neg, nl r0.num, nl r0.den])] (pr none) := by
  obtain ⟨Z0, Y0⟩ := ex_eq (0 : Rat)
  obtain ⟨Z1, Y1⟩ := ex_eq (1 : Rat)
  have m1 : Num 1 (cr Z1) Z1 := Num.c Y1 (by decide +kernel) (by decide +kernel)
  refine symFunc_sound hmix tree_penumbraref14_Pick (by kernel_rfl) rfl ?_
  unfold ir_penumbraref14_Pick
  simp only [GG, List.cons_append, List.nil_append, List.append_nil]
  refine primS _ il_len ?_
  by_cases a0 : (1000 : Int) < (ws.length : Int)
  · refine primS (.bool true) (d_gtr.trans (by rw [decide_eq_true a0])) ?_
    refine itT rfl ?_
    exact ret_step rfl
  refine primS (.bool false) (d_gtr.trans (by rw [decide_eq_false a0])) ?_
  refine itF rfl ?_
  refine call_step (n_penumbraref03_Sign (h0.mono (by decide))) rfl ?_
  simp only [GG, List.cons_append, List.nil_append, List.append_nil]
  by_cases a1 : x < 0
  · refine primS (.bool true) (cs_lss_t ((sg_lt Y0).2 (by rw [Y0]; exact a1))) ?_
    refine itT rfl ?_
    exact ret_step rfl
  refine primS (.bool false) (cs_lss_f (fun z => a1 (by have := (sg_lt Y0).1 z; rwa [Y0] at this))) ?_
  refine itF rfl ?_
  refine call_step (n_penumbraref03_One Y1) rfl ?_
  simp only [GG, List.cons_append, List.nil_append, List.append_nil]
  refine call_step (n_penumbraref03_Cmp (h0.mono (by decide)) (m1.mono (by decide))) rfl ?_
  simp only [GG, List.cons_append, List.nil_append, List.append_nil]
  by_cases a3 : ¬x < 1
  · refine primS (.bool true) (cs_geq_t (fun z => a3 (by have := cq_lt.1 z; rwa [Y1] at this))) ?_
    refine itT rfl ?_
    exact ret_step rfl
  have a2 : x < 1 := Classical.not_not.1 a3
  refine primS (.bool false) (cs_geq_f (cq_lt.2 (by rw [Y1]; exact a2))) ?_
  refine itF rfl ?_
  have hb : ¬good ws := fun z => hm ⟨by omega, by grind, a2, z⟩
  refine loop_step (fun ds => ∃ k : Nat, k ≤ ws.length ∧ (∀ j w, j < k → ws[j]? = some w → 0 ≤ w ∧ w ≤ 1048576) ∧ (0 ≤ sm ws k ∧ sm ws k ≤ 1048576 * (k : Int)) ∧ ds = [il ws, .int .i64 (sm ws k), .int .i64 (k : Int), .bool r0.neg, nl r0.num, nl r0.den]) (numf (fun i => ((ws.length : Int) - i).toNat) 2) ?_ ?_ ?_
  · exact ⟨0, Nat.zero_le _, fun j w hj => absurd hj (Nat.not_lt_zero j), by rw [sm_zero]; omega, by rw [sm_zero]; rfl⟩
  · rintro ds ⟨k, hk, _, _, rfl⟩; rfl
  · rintro ds ⟨k, hk, hf, hs, rfl⟩
    refine primS _ il_len ?_
    by_cases hlt : k < ws.length
    · obtain ⟨w, hwk⟩ : ∃ w, ws[k]? = some w := ⟨_, List.getElem?_eq_getElem hlt⟩
      have hgw := hw w (List.mem_of_getElem? hwk)
      refine primS (.bool true) (d_lss.trans (by rw [decide_eq_true (by omega)])) ?_
      refine itT rfl ?_
      refine primS (.bool true) (il_inb hlt) ?_
      refine primS (.int .i64 w) (il_get hwk) ?_
      by_cases b0 : w < 0
      · refine primS (.bool true) (d_lss.trans (by rw [decide_eq_true b0])) ?_
        refine itT rfl ?_
        exact ret_step rfl
      refine primS (.bool false) (d_lss.trans (by rw [decide_eq_false b0])) ?_
      refine itF rfl ?_
      refine primS (.bool true) (il_inb hlt) ?_
      refine primS (.int .i64 w) (il_get hwk) ?_
      by_cases b1 : 1048576 < w
      · refine primS (.bool true) (d_gtr.trans (by rw [decide_eq_true b1])) ?_
        refine itT rfl ?_
        exact ret_step rfl
      refine primS (.bool false) (d_gtr.trans (by rw [decide_eq_false b1])) ?_
      refine itF rfl ?_
      refine primS (.bool true) (il_inb hlt) ?_
      refine primS (.int .i64 w) (il_get hwk) ?_
      refine primS (.int .i64 (sm ws (k + 1))) ((d_add64 (by omega) (by omega)).trans (by rw [sm_succ hwk])) ?_
      refine primS (.int .i64 ((k + 1 : Nat) : Int)) ((d_add64 (by omega) (by omega)).trans (by simp)) ?_
      refine jump_step rfl ⟨⟨k + 1, hlt, fun j v hj hv => ?_, by rw [sm_succ hwk]; omega, rfl⟩, ?_⟩
      · rcases Nat.lt_succ_iff_lt_or_eq.1 hj with z | z
        · exact hf j v z hv
        · rw [z, hwk] at hv; cases hv; omega
      · show ((ws.length : Int) - ((k + 1 : Nat) : Int)).toNat < ((ws.length : Int) - (k : Int)).toNat
        omega
    · refine absurd (fun w hwm => ?_) hb
      obtain ⟨j, hj⟩ := List.getElem?_of_mem hwm
      exact hf j w (by have := (List.getElem?_eq_some_iff.1 hj).1; omega) hj

theorem pure_WarpPicks (g0 : r0.ok 1048576) (hl : ws.length ≤ 1048576) (hw : ∀ w ∈ ws, -9223372036854775808 ≤ w ∧ w < 9223372036854775808) : PureCalls prog F.penumbralaw14_WarpPicks [.one (il ws), .agg ([.bool r0.neg, nl r0.num, nl r0.den])] [.one (.bool true)] := by
  obtain ⟨x, h0⟩ := Num.raw g0 (by decide)
  have both : ∃ r, (∀ i, r = some i → ∃ w, ws[i]? = some w ∧ 0 < w) ∧ PureCalls prog F.warp_Pick [.one (il ws), .agg ([.bool r0.neg, nl r0.num, nl r0.den])] (pr r) ∧ PureCalls prog F.penumbraref14_Pick [.one (il ws), .agg ([.bool r0.neg, nl r0.num, nl r0.den])] (pr r) := by
    by_cases hm : may14 ws x
    · obtain ⟨r, hr⟩ := spc_ex ws (x * (sm ws ws.length : Rat))
      refine ⟨r, fun i hi => ?_, c_pick_t h0 hm hr, cr_pick_t h0 hm hr⟩
      subst hi
      obtain ⟨h1, h2, h3⟩ := hr
      have hwi : ws[i]? = some ws[i] := List.getElem?_eq_getElem h1
      refine ⟨_, hwi, ?_⟩
      rw [sm_succ hwi] at h2
      have hge : ¬x * (sm ws ws.length : Rat) < (sm ws i : Rat) := by
        cases i with
        | zero =>
          have hS := sm_b hm.2.2.2 ws.length (Nat.le_refl _)
          have ha : 0 ≤ x * (sm ws ws.length : Rat) := Rat.mul_nonneg hm.2.1 (by have := Rat.intCast_le_intCast.2 hS.1; simpa using this)
          rw [sm_zero]; simp only [Rat.intCast_zero]; grind
        | succ i => exact h3 i (Nat.lt_succ_self i)
      have hlt : (sm ws i : Rat) < ((sm ws i + ws[i] : Int) : Rat) := by grind
      have := Rat.intCast_lt_intCast.1 hlt
      omega
    · exact ⟨none, (fun i hi => by cases hi), c_pick_f h0 hl hw hm, cr_pick_f h0 hl hw hm⟩
  obtain ⟨r, hp, k1, k2⟩ := both
  refine symFunc_sound hmix tree_penumbralaw14_WarpPicks (by kernel_rfl) rfl ?_
  unfold ir_penumbralaw14_WarpPicks
  simp only [GG, List.cons_append, List.nil_append, List.append_nil]
  cases r with
  | none =>
    refine call_step k1 rfl ?_
    simp only [pr, HH]
    refine call_step k2 rfl ?_
    simp only [pr, HH]
    refine call_step n_penumbralaw14_fixed rfl ?_
    simp only [GG, List.cons_append, List.nil_append, List.append_nil]
    refine itT rfl ?_
    refine primS (.bool true) (d_eql.trans (by rw [decide_eq_true rfl])) ?_
    refine itT rfl ?_
    refine primS (.bool true) rfl ?_
    refine itT rfl ?_
    refine primS (.bool true) rfl ?_
    refine itT rfl ?_
    exact ret_step rfl
  | some i =>
    obtain ⟨w, hwi, hw0⟩ := hp i rfl
    have hi := (List.getElem?_eq_some_iff.1 hwi).1
    refine call_step k1 rfl ?_
    simp only [pr, HH]
    refine call_step k2 rfl ?_
    simp only [pr, HH]
    refine call_step n_penumbralaw14_fixed rfl ?_
    simp only [GG, List.cons_append, List.nil_append, List.append_nil]
    refine itT rfl ?_
    refine primS (.bool true) (d_eql.trans (by rw [decide_eq_true rfl])) ?_
    refine itT rfl ?_
    refine primS (.bool true) rfl ?_
    refine itT rfl ?_
    refine primS (.bool false) rfl ?_
    refine itF rfl ?_
    refine primS (.bool true) (d_geq.trans (by rw [decide_eq_true (by omega)])) ?_
    refine itT rfl ?_
    refine primS _ il_len ?_
    refine primS (.bool true) (d_lss.trans (by rw [decide_eq_true (by omega)])) ?_
    refine itT rfl ?_
    refine primS (.bool true) (il_inb hi) ?_
    refine primS (.int .i64 w) (il_get hwi) ?_
    refine primS (.bool true) (d_gtr.trans (by rw [decide_eq_true hw0])) ?_
    exact ret_step rfl
end
end Go.Px.Na

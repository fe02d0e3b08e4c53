/- Dp: all draws, in order. -/
import Derived.Test.YtgnhhdgepnfnmaaDo
import Derived.Test.YtgnhhdgepnfnmaaTr4
set_option maxRecDepth 10000
set_option maxHeartbeats 8000000
set_option linter.unusedVariables false
set_option linter.unusedSimpArgs false
namespace Go.Px.Na
open Go.RowKit
open Go.Proofs.Try (prog)

def CF.sat (c : CF) (w h : Int) (i : Nat) : List DV := [.bool (c.wt w h i), .int .i64 (c.wp w h i), .int .i64 (c.ww w h i), .int .i64 (c.ws w h i)]
def CF.rows (c : CF) (w h : Int) (n : Nat) : List DV := ((List.range n).map (c.sat w h)).flatten
def CF.lst (c : CF) (w h : Int) (n : Nat) : DV := .list n (c.rows w h n)
theorem sat_len (c : CF) (w h : Int) (n : Nat) : ∀ x ∈ (List.range n).map (c.sat w h), x.length = 4 := fun x hx => by
  obtain ⟨i, _, rfl⟩ := List.mem_map.1 hx
  rfl
theorem rows_len (c : CF) (w h : Int) (n : Nat) : (c.rows w h n).length = n * 4 := by
  unfold CF.rows
  rw [flat_len (sat_len c w h n), List.length_map, List.length_range]
theorem rows_succ (c : CF) (w h : Int) (n : Nat) : c.rows w h (n + 1) = c.rows w h n ++ c.sat w h n := by
  simp [CF.rows, List.range_succ]
theorem app_at {c : CF} {w h pa wi sl : Int} {t : Bool} {n : Nat} (hx : c.idx w h t pa wi sl) (hn : (n : Int) = c.plc w h t pa wi sl) :
    Prim.den (.app 4 32) [c.lst w h n, .list 1 [.bool t, .int .i64 pa, .int .i64 wi, .int .i64 sl]] = some (c.lst w h (n + 1)) := by
  obtain ⟨k0, k1, k2, k3, k4, k5⟩ := i_wh hx
  have hp := pass_b hx.1
  have hb := may_b hx.1.1
  have e1 := bnd (show 0 ≤ c.pass w h by omega) hp.2.1 (show 0 ≤ c.ps by omega) (show c.ps ≤ 16 by omega)
  have hs : c.sat w h n = [.bool t, .int .i64 pa, .int .i64 wi, .int .i64 sl] := by
    unfold CF.sat
    rw [hn, k2, k3, k4, k5]
  simp only [CF.lst, Prim.den]
  rw [if_pos ⟨rows_len c w h n, rfl, by omega⟩, rows_succ, hs]
theorem inb4 {c : CF} {w h : Int} {i n : Nat} (hi : i < n) : Prim.den (.inb 4) [c.lst w h n, .int .i64 (i : Int)] = some (.bool true) := by
  simp only [CF.lst, Prim.den, rows_len]
  rw [if_pos ⟨by omega, by omega, by rw [Int.toNat_natCast]; omega⟩]
theorem get4 {c : CF} {w h : Int} {i n o : Nat} (hi : i < n) (ho : o < 4) : Prim.den (.get 4 o) [c.lst w h n, .int .i64 (i : Int)] = (c.sat w h i)[o]? := by
  simp only [CF.lst, Prim.den]
  rw [if_pos ⟨by omega, by omega⟩, Int.toNat_natCast]
  exact flat_get o (sat_len c w h n) (by rw [List.getElem?_map, List.getElem?_range hi]; rfl) ho
theorem eqsS {a t : Bool} {b d e x y z : Int} : Prim.den (.eqs [true, false, false, false]) [.bool a, .int .i64 b, .int .i64 d, .int .i64 e, .bool t, .int .i64 x, .int .i64 y, .int .i64 z] = some (.bool (decide (a = t ∧ b = x ∧ d = y ∧ e = z))) := by
  simp [Prim.den, eqDVs, Bool.beq_eq_decide_eq]
theorem c_slots {c : CF} {w h : Int} (hl : c.lay w h) : PureCalls prog F.penumbraref13_Slots [.agg c.dv, .one (.int .i64 w), .one (.int .i64 h)] [.one (c.lst w h (c.pass w h * c.ps).toNat)] := by
  have hb := may_b hl.1
  have hp := pass_b hl
  have hpass : c.pass w h = w * h * (4 * c.d + 1) + c.ph * (2 * c.d + 1) := rfl
  refine symFunc_sound hmix tree_penumbraref13_Slots (by kernel_rfl) rfl ?_
  unfold ir_penumbraref13_Slots
  rw [fa_cf]
  unfold CF.dv
  try simp only [FF, List.cons_append, List.nil_append, List.append_nil]
  refine primS (.list 0 []) rfl ?_
  simp only [List.cons_append, List.nil_append]
  refine loop_step (fun ds => ∃ (p : Int) (n : Nat), 0 ≤ p ∧ p ≤ c.ps ∧ (n : Int) = p * c.pass w h ∧ ds = .int .i64 w :: .int .i64 h :: .int .i64 p :: (c.dv ++ [c.lst w h n])) (numf (fun x => (c.ps - x).toNat) 2) ?_ ?_ ?_
  · exact ⟨0, 0, by omega, by omega, by simp, rfl⟩
  · rintro ds ⟨p, n, _, _, _, rfl⟩; rfl
  · rintro ds ⟨p, n, p0, p1, hn, rfl⟩
    unfold CF.dv
    simp only [List.cons_append, List.nil_append]
    by_cases hlt : p < c.ps
    · refine primS (.bool true) (d_lss.trans (by rw [decide_eq_true hlt])) ?_
      refine itT rfl ?_
      simp only [List.cons_append, List.nil_append]
      refine loop_step (fun ds => ∃ (i : Int) (m : Nat), 0 ≤ i ∧ i ≤ w * h ∧ (m : Int) = p * c.pass w h + i * (4 * c.d + 1) ∧ ds = .int .i64 w :: .int .i64 h :: .int .i64 p :: .int .i64 i :: (c.dv ++ [c.lst w h m])) (numf (fun x => (w * h - x).toNat) 3) ?_ ?_ ?_
      · exact ⟨0, n, by omega, by omega, by rw [hn, Int.zero_mul, Int.add_zero], rfl⟩
      · rintro ds ⟨i, m, _, _, _, rfl⟩; rfl
      · rintro ds ⟨i, m, i0, i1, hm, rfl⟩
        unfold CF.dv
        simp only [List.cons_append, List.nil_append]
        refine primS (.int .i64 (w * h)) (mulE rfl (by omega) (by omega)) ?_
        simp only [List.cons_append, List.nil_append]
        by_cases hi : i < w * h
        · refine primS (.bool true) (d_lss.trans (by rw [decide_eq_true hi])) ?_
          refine itT rfl ?_
          simp only [List.cons_append, List.nil_append]
          refine loop_step (fun ds => ∃ (s : Int) (k : Nat), 0 ≤ s ∧ s ≤ 4 * c.d + 1 ∧ (k : Int) = p * c.pass w h + i * (4 * c.d + 1) + s ∧ ds = .int .i64 w :: .int .i64 h :: .int .i64 p :: .int .i64 i :: .int .i64 s :: (c.dv ++ [c.lst w h k])) (numf (fun x => (4 * c.d + 1 - x).toNat) 4) ?_ ?_ ?_
          · exact ⟨0, m, by omega, by omega, by rw [hm, Int.add_zero], rfl⟩
          · rintro ds ⟨s, k, _, _, _, rfl⟩; rfl
          · rintro ds ⟨s, k, s0, s1, hk, rfl⟩
            unfold CF.dv
            simp only [List.cons_append, List.nil_append]
            refine primS (.int .i64 (4 * c.d)) (d_mul64 (by omega) (by omega)) ?_
            simp only [List.cons_append, List.nil_append]
            refine primS (.int .i64 (4 * c.d + 1)) (d_add64 (by omega) (by omega)) ?_
            simp only [List.cons_append, List.nil_append]
            by_cases hs : s < 4 * c.d + 1
            · have hx : c.idx w h false p i s := ⟨hl, p0, by omega, (fun z => by cases z), fun _ => ⟨i0, by omega, s0, by omega⟩⟩
              refine primS (.bool true) (d_lss.trans (by rw [decide_eq_true hs])) ?_
              refine itT rfl ?_
              simp only [List.cons_append, List.nil_append]
              refine primS (.list 1 [.bool false, .int .i64 p, .int .i64 i, .int .i64 s]) rfl ?_
              simp only [List.cons_append, List.nil_append]
              refine primS (c.lst w h (k + 1)) (app_at hx hk) ?_
              simp only [List.cons_append, List.nil_append]
              refine primS (.int .i64 (s + 1)) (d_add64 (by omega) (by omega)) ?_
              simp only [List.cons_append, List.nil_append]
              refine jump_step rfl ⟨⟨s + 1, k + 1, by omega, by omega, by omega, rfl⟩, ?_⟩
              show (4 * c.d + 1 - (s + 1)).toNat < (4 * c.d + 1 - s).toNat
              omega
            · refine primS (.bool false) (d_lss.trans (by rw [decide_eq_false hs])) ?_
              refine itF rfl ?_
              simp only [List.cons_append, List.nil_append]
              refine primS (.int .i64 (i + 1)) (d_add64 (by omega) (by omega)) ?_
              simp only [List.cons_append, List.nil_append]
              refine jump_step rfl ⟨⟨i + 1, k, by omega, by omega, by rw [Int.add_mul]; omega, rfl⟩, ?_⟩
              show (w * h - (i + 1)).toNat < (w * h - i).toNat
              omega
        · obtain rfl : i = w * h := by omega
          refine primS (.bool false) (d_lss.trans (by rw [decide_eq_false hi])) ?_
          refine itF rfl ?_
          simp only [List.cons_append, List.nil_append]
          refine loop_step (fun ds => ∃ (j : Int) (k : Nat), 0 ≤ j ∧ j ≤ c.ph ∧ (k : Int) = p * c.pass w h + w * h * (4 * c.d + 1) + j * (2 * c.d + 1) ∧ ds = .int .i64 w :: .int .i64 h :: .int .i64 p :: .int .i64 j :: (c.dv ++ [c.lst w h k])) (numf (fun x => (c.ph - x).toNat) 3) ?_ ?_ ?_
          · exact ⟨0, m, by omega, by omega, by rw [hm, Int.zero_mul, Int.add_zero], rfl⟩
          · rintro ds ⟨j, k, _, _, _, rfl⟩; rfl
          · rintro ds ⟨j, k, j0, j1, hk, rfl⟩
            unfold CF.dv
            simp only [List.cons_append, List.nil_append]
            by_cases hj : j < c.ph
            · refine primS (.bool true) (d_lss.trans (by rw [decide_eq_true hj])) ?_
              refine itT rfl ?_
              simp only [List.cons_append, List.nil_append]
              refine loop_step (fun ds => ∃ (s : Int) (q : Nat), 0 ≤ s ∧ s ≤ 2 * c.d + 1 ∧ (q : Int) = p * c.pass w h + w * h * (4 * c.d + 1) + j * (2 * c.d + 1) + s ∧ ds = .int .i64 w :: .int .i64 h :: .int .i64 p :: .int .i64 j :: .int .i64 s :: (c.dv ++ [c.lst w h q])) (numf (fun x => (2 * c.d + 1 - x).toNat) 4) ?_ ?_ ?_
              · exact ⟨0, k, by omega, by omega, by rw [hk, Int.add_zero], rfl⟩
              · rintro ds ⟨s, q, _, _, _, rfl⟩; rfl
              · rintro ds ⟨s, q, s0, s1, hq, rfl⟩
                unfold CF.dv
                simp only [List.cons_append, List.nil_append]
                refine primS (.int .i64 (2 * c.d)) (d_mul64 (by omega) (by omega)) ?_
                simp only [List.cons_append, List.nil_append]
                refine primS (.int .i64 (2 * c.d + 1)) (d_add64 (by omega) (by omega)) ?_
                simp only [List.cons_append, List.nil_append]
                by_cases hs : s < 2 * c.d + 1
                · have hx : c.idx w h true p j s := ⟨hl, p0, by omega, fun _ => ⟨j0, by omega, s0, by omega⟩, fun z => by cases z⟩
                  refine primS (.bool true) (d_lss.trans (by rw [decide_eq_true hs])) ?_
                  refine itT rfl ?_
                  simp only [List.cons_append, List.nil_append]
                  refine primS (.list 1 [.bool true, .int .i64 p, .int .i64 j, .int .i64 s]) rfl ?_
                  simp only [List.cons_append, List.nil_append]
                  refine primS (c.lst w h (q + 1)) (app_at hx hq) ?_
                  simp only [List.cons_append, List.nil_append]
                  refine primS (.int .i64 (s + 1)) (d_add64 (by omega) (by omega)) ?_
                  simp only [List.cons_append, List.nil_append]
                  refine jump_step rfl ⟨⟨s + 1, q + 1, by omega, by omega, by omega, rfl⟩, ?_⟩
                  show (2 * c.d + 1 - (s + 1)).toNat < (2 * c.d + 1 - s).toNat
                  omega
                · refine primS (.bool false) (d_lss.trans (by rw [decide_eq_false hs])) ?_
                  refine itF rfl ?_
                  simp only [List.cons_append, List.nil_append]
                  refine primS (.int .i64 (j + 1)) (d_add64 (by omega) (by omega)) ?_
                  simp only [List.cons_append, List.nil_append]
                  refine jump_step rfl ⟨⟨j + 1, q, by omega, by omega, by rw [Int.add_mul]; omega, rfl⟩, ?_⟩
                  show (c.ph - (j + 1)).toNat < (c.ph - j).toNat
                  omega
            · obtain rfl : j = c.ph := by omega
              refine primS (.bool false) (d_lss.trans (by rw [decide_eq_false hj])) ?_
              refine itF rfl ?_
              simp only [List.cons_append, List.nil_append]
              refine primS (.int .i64 (p + 1)) (d_add64 (by omega) (by omega)) ?_
              simp only [List.cons_append, List.nil_append]
              refine jump_step rfl ⟨⟨p + 1, k, by omega, by omega, by rw [Int.add_mul]; omega, rfl⟩, ?_⟩
              show (c.ps - (p + 1)).toNat < (c.ps - p).toNat
              omega
    · obtain rfl : p = c.ps := by omega
      refine primS (.bool false) (d_lss.trans (by rw [decide_eq_false hlt])) ?_
      refine itF rfl ?_
      have e : (c.pass w h * c.ps).toNat = n := by rw [Int.mul_comm, ← hn, Int.toNat_natCast]
      rw [e]
      exact ret_step rfl
theorem cr_index {c : CF} {w h pa wi sl : Int} {t : Bool} {r : List AV} (hc : c.ok) (hl : c.lay w h)
    (h1 : ∀ i : Nat, (i : Int) < c.pass w h * c.ps → c.wt w h i = t → c.wp w h i = pa → c.ww w h i = wi → c.ws w h i = sl → r = [.one (.int .i64 i), .one (.bool true)])
    (h2 : ¬c.idx w h t pa wi sl → r = [.one (.int .i64 0), .one (.bool false)]) :
    PureCalls prog F.penumbraref13_Index [.agg c.dv, .one (.int .i64 w), .one (.int .i64 h), .agg [.bool t, .int .i64 pa, .int .i64 wi, .int .i64 sl]] r := by
  have hb := may_b hl.1
  have hp := pass_b hl
  have e1 := bnd (show 0 ≤ c.pass w h by omega) hp.2.1 (show 0 ≤ c.ps by omega) (show c.ps ≤ 16 by omega)
  obtain ⟨n, hn⟩ := Int.eq_ofNat_of_zero_le e1.1
  have hs := c_slots hl
  rw [hn, Int.toNat_natCast] at hs
  refine symFunc_sound hmix tree_penumbraref13_Index (by kernel_rfl) rfl ?_
  unfold ir_penumbraref13_Index
  rw [fa_cf]
  unfold CF.dv
  try simp only [FF, List.cons_append, List.nil_append, List.append_nil]
  refine call_step (cr_need_t hc hl) rfl ?_
  try simp only [FF, List.cons_append, List.nil_append, List.append_nil]
  refine primS (.bool false) rfl ?_
  refine itF rfl ?_
  simp only [List.cons_append, List.nil_append]
  refine call_step hs rfl ?_
  try simp only [FF, List.cons_append, List.nil_append, List.append_nil]
  refine loop_step (fun ds => ∃ i : Nat, i ≤ n ∧ (∀ j : Nat, j < i → ¬(c.wt w h j = t ∧ c.wp w h j = pa ∧ c.ww w h j = wi ∧ c.ws w h j = sl)) ∧ ds = [c.lst w h n, .int .i64 (i : Int), .bool t, .int .i64 pa, .int .i64 wi, .int .i64 sl]) (numf (fun x => ((n : Int) - x).toNat) 1) ?_ ?_ ?_
  · exact ⟨0, by omega, fun j z => by omega, rfl⟩
  · rintro ds ⟨i, _, _, rfl⟩; rfl
  · rintro ds ⟨i, hi, hj, rfl⟩
    refine primS (.int .i64 (n : Int)) rfl ?_
    simp only [List.cons_append, List.nil_append]
    by_cases hlt : i < n
    · refine primS (.bool true) (d_lss.trans (by rw [decide_eq_true (by omega)])) ?_
      refine itT rfl ?_
      simp only [List.cons_append, List.nil_append]
      refine primS (.bool true) (inb4 hlt) ?_
      simp only [List.cons_append, List.nil_append]
      refine primS (.bool (c.wt w h i)) ((get4 hlt (by decide)).trans rfl) ?_
      simp only [List.cons_append, List.nil_append]
      refine primS (.int .i64 (c.wp w h i)) ((get4 hlt (by decide)).trans rfl) ?_
      simp only [List.cons_append, List.nil_append]
      refine primS (.int .i64 (c.ww w h i)) ((get4 hlt (by decide)).trans rfl) ?_
      simp only [List.cons_append, List.nil_append]
      refine primS (.int .i64 (c.ws w h i)) ((get4 hlt (by decide)).trans rfl) ?_
      simp only [List.cons_append, List.nil_append]
      by_cases he : c.wt w h i = t ∧ c.wp w h i = pa ∧ c.ww w h i = wi ∧ c.ws w h i = sl
      · refine primS (.bool true) (eqsS.trans (by rw [decide_eq_true he])) ?_
        refine itT rfl ?_
        refine ret_step ?_
        exact (h1 i (by omega) he.1 he.2.1 he.2.2.1 he.2.2.2).symm
      · refine primS (.bool false) (eqsS.trans (by rw [decide_eq_false he])) ?_
        refine itF rfl ?_
        simp only [List.cons_append, List.nil_append]
        refine primS (.int .i64 ((i + 1 : Nat) : Int)) ((d_add64 (by omega) (by omega)).trans (by simp)) ?_
        simp only [List.cons_append, List.nil_append]
        refine jump_step rfl ⟨⟨i + 1, hlt, fun j hji => ?_, rfl⟩, ?_⟩
        · rcases Nat.lt_succ_iff_lt_or_eq.1 hji with z | rfl
          · exact hj j z
          · exact he
        · show ((n : Int) - ((i + 1 : Nat) : Int)).toNat < ((n : Int) - (i : Int)).toNat
          omega
    · obtain rfl : i = n := by omega
      refine primS (.bool false) (d_lss.trans (by rw [decide_eq_false (by omega)])) ?_
      refine itF rfl ?_
      refine ret_step ?_
      refine (h2 fun hx => ?_).symm
      obtain ⟨k0, k1, k2, k3, k4, k5⟩ := i_wh hx
      obtain ⟨k, hk⟩ := Int.eq_ofNat_of_zero_le k0
      rw [hk] at k1 k2 k3 k4 k5
      exact hj k (by omega) ⟨k2, k3, k4, k5⟩
theorem cr_index_f {c : CF} {w h pa wi sl : Int} {t : Bool} (hc : c.ok) (hl : ¬c.lay w h) :
    PureCalls prog F.penumbraref13_Index [.agg c.dv, .one (.int .i64 w), .one (.int .i64 h), .agg [.bool t, .int .i64 pa, .int .i64 wi, .int .i64 sl]] [.one (.int .i64 0), .one (.bool false)] := by
  refine symFunc_sound hmix tree_penumbraref13_Index (by kernel_rfl) rfl ?_
  unfold ir_penumbraref13_Index
  rw [fa_cf]
  unfold CF.dv
  try simp only [FF, List.cons_append, List.nil_append, List.append_nil]
  refine call_step (cr_need_f hc hl) rfl ?_
  try simp only [FF, List.cons_append, List.nil_append, List.append_nil]
  refine primS (.bool true) rfl ?_
  refine itT rfl ?_
  exact ret_step rfl
theorem cr_where_t {c : CF} {w h i : Int} (hc : c.ok) (hl : c.lay w h) (h0 : 0 ≤ i) (h1 : i < c.pass w h * c.ps) :
    PureCalls prog F.penumbraref13_Where [.agg c.dv, .one (.int .i64 w), .one (.int .i64 h), .one (.int .i64 i)] [.agg [.bool (c.wt w h i), .int .i64 (c.wp w h i), .int .i64 (c.ww w h i), .int .i64 (c.ws w h i)], .one (.bool true)] := by
  obtain ⟨k, rfl⟩ := Int.eq_ofNat_of_zero_le h0
  have hs := c_slots hl
  have hk : k < (c.pass w h * c.ps).toNat := by omega
  refine symFunc_sound hmix tree_penumbraref13_Where (by kernel_rfl) rfl ?_
  unfold ir_penumbraref13_Where
  rw [fa_cf]
  unfold CF.dv
  try simp only [FF, List.cons_append, List.nil_append, List.append_nil]
  refine call_step (cr_need_t hc hl) rfl ?_
  try simp only [FF, List.cons_append, List.nil_append, List.append_nil]
  refine primS (.bool false) rfl ?_
  refine itF rfl ?_
  simp only [List.cons_append, List.nil_append]
  refine primS (.bool false) (d_lss.trans (by rw [decide_eq_false (by omega)])) ?_
  refine itF rfl ?_
  simp only [List.cons_append, List.nil_append]
  refine primS (.bool false) (d_geq.trans (by rw [decide_eq_false (by omega)])) ?_
  refine itF rfl ?_
  simp only [List.cons_append, List.nil_append]
  refine call_step hs rfl ?_
  try simp only [FF, List.cons_append, List.nil_append, List.append_nil]
  refine primS (.bool true) (inb4 hk) ?_
  simp only [List.cons_append, List.nil_append]
  refine primS (.bool (c.wt w h k)) ((get4 hk (by decide)).trans rfl) ?_
  simp only [List.cons_append, List.nil_append]
  refine primS (.int .i64 (c.wp w h k)) ((get4 hk (by decide)).trans rfl) ?_
  simp only [List.cons_append, List.nil_append]
  refine primS (.int .i64 (c.ww w h k)) ((get4 hk (by decide)).trans rfl) ?_
  simp only [List.cons_append, List.nil_append]
  refine primS (.int .i64 (c.ws w h k)) ((get4 hk (by decide)).trans rfl) ?_
  simp only [List.cons_append, List.nil_append]
  exact ret_step rfl
theorem cr_where_f {c : CF} {w h i : Int} (hc : c.ok) (hw : ¬(c.lay w h ∧ 0 ≤ i ∧ i < c.pass w h * c.ps)) :
    PureCalls prog F.penumbraref13_Where [.agg c.dv, .one (.int .i64 w), .one (.int .i64 h), .one (.int .i64 i)] [.agg [.bool false, .int .i64 0, .int .i64 0, .int .i64 0], .one (.bool false)] := by
  refine symFunc_sound hmix tree_penumbraref13_Where (by kernel_rfl) rfl ?_
  unfold ir_penumbraref13_Where
  rw [fa_cf]
  unfold CF.dv
  try simp only [FF, List.cons_append, List.nil_append, List.append_nil]
  by_cases hl : c.lay w h
  · refine call_step (cr_need_t hc hl) rfl ?_
    try simp only [FF, List.cons_append, List.nil_append, List.append_nil]
    refine primS (.bool false) rfl ?_
    refine itF rfl ?_
    simp only [List.cons_append, List.nil_append]
    by_cases h0 : i < 0
    · refine primS (.bool true) (d_lss.trans (by rw [decide_eq_true h0])) ?_
      refine itT rfl ?_
      exact ret_step rfl
    · refine primS (.bool false) (d_lss.trans (by rw [decide_eq_false h0])) ?_
      refine itF rfl ?_
      simp only [List.cons_append, List.nil_append]
      have h1 : c.pass w h * c.ps ≤ i := Int.not_lt.1 fun z => hw ⟨hl, by omega, z⟩
      refine primS (.bool true) (d_geq.trans (by rw [decide_eq_true h1])) ?_
      refine itT rfl ?_
      exact ret_step rfl
  · refine call_step (cr_need_f hc hl) rfl ?_
    try simp only [FF, List.cons_append, List.nil_append, List.append_nil]
    refine primS (.bool true) rfl ?_
    refine itT rfl ?_
    exact ret_step rfl
theorem pure_DrawsPlaces {c : CF} {w h i : Int} {t : Bool} {pa wi sl : Int} (hc : c.ok) : PureCalls prog F.penumbralaw13_DrawsPlaces [.agg (c.dv ++ [.int .i64 w, .int .i64 h, .bool t, .int .i64 pa, .int .i64 wi, .int .i64 sl, .int .i64 i])] [.one (.bool true)] := by
  have A : ∃ (n : Int) (b : Bool), PureCalls prog F.draws_Index [.agg c.dv, .one (.int .i64 w), .one (.int .i64 h), .agg [.bool t, .int .i64 pa, .int .i64 wi, .int .i64 sl]] [.one (.int .i64 n), .one (.bool b)] ∧
      PureCalls prog F.penumbraref13_Index [.agg c.dv, .one (.int .i64 w), .one (.int .i64 h), .agg [.bool t, .int .i64 pa, .int .i64 wi, .int .i64 sl]] [.one (.int .i64 n), .one (.bool b)] := by
    by_cases hx : c.idx w h t pa wi sl
    · refine ⟨_, _, c_index_t hc hx, cr_index hc hx.1 (fun k hk e1 e2 e3 e4 => ?_) fun z => absurd hx z⟩
      have y := (w_idx hx.1 (show 0 ≤ (k : Int) by omega) hk).2
      rw [e1, e2, e3, e4] at y
      rw [y]
    · refine ⟨0, false, c_index_f hc hx, ?_⟩
      by_cases hl : c.lay w h
      · refine cr_index hc hl (fun k hk e1 e2 e3 e4 => ?_) fun _ => rfl
        have y := (w_idx hl (show 0 ≤ (k : Int) by omega) hk).1
        rw [e1, e2, e3, e4] at y
        exact absurd y hx
      · exact cr_index_f hc hl
  have B : ∃ (s : Bool) (a b d : Int) (e : Bool), PureCalls prog F.draws_Where [.agg c.dv, .one (.int .i64 w), .one (.int .i64 h), .one (.int .i64 i)] [.agg [.bool s, .int .i64 a, .int .i64 b, .int .i64 d], .one (.bool e)] ∧
      PureCalls prog F.penumbraref13_Where [.agg c.dv, .one (.int .i64 w), .one (.int .i64 h), .one (.int .i64 i)] [.agg [.bool s, .int .i64 a, .int .i64 b, .int .i64 d], .one (.bool e)] := by
    by_cases hw : c.lay w h ∧ 0 ≤ i ∧ i < c.pass w h * c.ps
    · exact ⟨_, _, _, _, _, c_where_t hc hw.1 hw.2.1 hw.2.2, cr_where_t hc hw.1 hw.2.1 hw.2.2⟩
    · exact ⟨_, _, _, _, _, c_where_f hc hw, cr_where_f hc hw⟩
  obtain ⟨n, b, k1, k2⟩ := A
  obtain ⟨s, x, y, z, e, k3, k4⟩ := B
  refine symFunc_sound hmix tree_penumbralaw13_DrawsPlaces (by kernel_rfl) rfl ?_
  unfold ir_penumbralaw13_DrawsPlaces
  unfold CF.dv at *
  simp only [flatAll, List.flatMap_cons, List.flatMap_nil, AV.flat, List.cons_append, List.nil_append, List.append_nil]
  refine call_step k1 rfl ?_
  try simp only [FF, List.cons_append, List.nil_append, List.append_nil]
  refine call_step k2 rfl ?_
  try simp only [FF, List.cons_append, List.nil_append, List.append_nil]
  refine call_step k3 rfl ?_
  try simp only [FF, List.cons_append, List.nil_append, List.append_nil]
  refine call_step k4 rfl ?_
  try simp only [FF, List.cons_append, List.nil_append, List.append_nil]
  refine call_step c_fixed13 rfl ?_
  try simp only [FF, List.cons_append, List.nil_append, List.append_nil]
  refine itT rfl ?_
  refine primS (.bool true) (d_eql.trans (by rw [decide_eq_true rfl])) ?_
  refine itT rfl ?_
  simp only [List.cons_append, List.nil_append]
  refine primS (.bool true) (by cases b <;> rfl) ?_
  refine itT rfl ?_
  simp only [List.cons_append, List.nil_append]
  refine primS (.bool true) (eqsS.trans (by rw [decide_eq_true ⟨rfl, rfl, rfl, rfl⟩])) ?_
  refine itT rfl ?_
  simp only [List.cons_append, List.nil_append]
  refine primS (.bool true) (by cases e <;> rfl) ?_
  exact ret_step rfl
end Go.Px.Na

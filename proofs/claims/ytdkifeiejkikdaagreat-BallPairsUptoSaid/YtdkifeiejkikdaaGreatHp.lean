/- Hp: points near to places, and to one another: searches. -/
import Derived.Test.YtdkifeiejkikdaaGreatHn
set_option maxRecDepth 40000
set_option maxHeartbeats 40000000
set_option linter.unusedVariables false
set_option linter.unusedSimpArgs false
namespace Go.Px.Na
open Go.RowKit
open Go.Proofs.Tryz (prog)
theorem fa_ref {ds : List DV} {r : List AV} : flatAll (.ref ds :: r) = ds ++ flatAll r := by simp [flatAll, AV.flat]
theorem fa_ow {zs : List Int} {r : List AV} : flatAll (ow zs :: r) = il zs :: flatAll r := by simp [flatAll, AV.flat, ow, il]
/-- Where a chain begins. -/
def hd : List Nat → Int
  | [] => -1
  | p :: _ => (p : Int)
theorem Cn.hd {next : List Int} {a : Int} {l : List Nat} (h : Cn next a l) : a = hd l := by
  cases l with
  | nil => exact h
  | cons p l => exact h.1
theorem getD_of {α : Type} {l : List α} {i : Nat} {x d : α} (h : l[i]? = some x) : l.getD i d = x := by simp [List.getD_eq_getElem?_getD, h]
section
variable {L L2 L3 M : Nat} {rsd rr2 : RR} {s r2 : Rat} {n : Int} {rp : RV} {p : V3} {rs : List RV} {ps : List V3}
theorem slN_rng (c : gmay s n) {x : Int} (hx : x ∈ slN p s n) : 0 ≤ x ∧ x < n := nbs_rng c (msort_mem.1 ((cpt_mem x).1 hx))
theorem chn_len {ss : List Int} {i : Nat} {x : Int} : (chn ss i x).length ≤ i := by
  unfold chn
  rw [List.length_reverse]
  exact Nat.le_trans (List.length_filter_le _ _) (by simp)
theorem raw_len {ss sl : List Int} : (raw ps ss p r2 sl).length ≤ sl.length * ps.length := by
  induction sl with
  | nil => simp [raw]
  | cons a l ih =>
    have e : raw ps ss p r2 (a :: l) = ((chn ss ps.length a).filter (nr ps p r2)).map (fun i : Nat => (i : Int)) ++ raw ps ss p r2 l := rfl
    rw [e, List.length_append, List.length_map, List.length_cons, Nat.succ_mul]
    have h1 := List.length_filter_le (nr ps p r2) (chn ss ps.length a)
    have h2 := chn_len (ss := ss) (i := ps.length) (x := a)
    omega
theorem raw_snoc {ss sl : List Int} {x : Int} : raw ps ss p r2 (sl ++ [x]) = raw ps ss p r2 sl ++ ((chn ss ps.length x).filter (nr ps p r2)).map (fun i : Nat => (i : Int)) := by
  simp [raw, List.flatMap_append]
theorem slN_len : (slN p s n).length ≤ 27 := by
  unfold slN cpt Lib.compactUpTo
  rw [List.length_map]
  refine Nat.le_trans (List.length_filter_le _ _) ?_
  rw [List.length_range, msort_len, nbs_len]; exact Nat.le_refl _
theorem slots_bd (c : gmay s n) : ∀ q, q < ps.length → 0 ≤ (slots ps s n).getD q 0 ∧ (slots ps s n).getD q 0 < n := fun q hq => by
  obtain ⟨x, hx⟩ : ∃ x, ps[q]? = some x := ⟨_, List.getElem?_eq_getElem hq⟩
  rw [slots_get hx]; exact slot_rng c
theorem f_near (c : gmay s n) (hp : NVs L rs ps) (hN : ps.length ≤ 1000) (g : Num M rsd s) (h : NV L2 rp p) (hr : Num L3 rr2 r2) (hs2 : r2 ≤ s * s) (hl : L ≤ 1000000000 ∧ M ≤ 1000000000 ∧ L2 ≤ 1000000000 ∧ L3 ≤ 1000000000) :
    PureCalls prog F.__ball_seeker__near [.ref (sk (bh n.toNat (slots ps s n) ps.length) (bn n.toNat (slots ps s n) ps.length) rs rsd rr2 n), .agg (gW rp.l)] [ow (nearL ps p r2)] := by
  have hlen := hp.len
  obtain ⟨m, rfl⟩ : ∃ m : Nat, n = (m : Int) := ⟨n.toNat, by have := c.2.1; omega⟩
  have hm := c.2
  have hne := near_eq (ps := ps) (c := p) (s := s) (r2 := r2) (n := (m : Int)) c.1 hs2
  have hbd := slots_bd (ps := ps) c
  have hsl := fun x => slN_rng (p := p) c (x := x)
  have hsn := slN_len (p := p) (s := s) (n := (m : Int))
  have hfs := f_slots (d0 := il (bh m (slots ps s (m : Int)) ps.length)) (d1 := il (bn m (slots ps s (m : Int)) ps.length)) (d2 := vl rs) (d6 := .bool rr2.neg) (d7 := nl rr2.num) (d8 := nl rr2.den) c h g ⟨Nat.le_trans hl.2.2.1 (by decide), Nat.le_trans hl.2.1 (by decide)⟩
  rw [Int.toNat_natCast]
  have hcn := fun x hx => cn_built (n := m) (N := ps.length) (ss := slots ps s (m : Int)) hbd ps.length (Nat.le_refl _) x hx
  generalize hss : slots ps s (m : Int) = ss at *
  refine symFunc_sound hmix tree___ball_seeker__near (by kernel_rfl) rfl ?_
  unfold ir___ball_seeker__near
  simp only [sk, fa_ref, HH, gW, RV.l, List.cons_append, List.nil_append]
  refine call_step hfs rfl ?_
  simp only [fa_ow, HH, List.cons_append, List.nil_append]
  rw [show cpt (msort (nbs p s (m : Int))) = slN p s (m : Int) from rfl] at hne
  generalize hsd : slN p s (m : Int) = sl at *
  generalize hH : bh m ss ps.length = H at *
  generalize hX : bn m ss ps.length = X at *
  have hHl : H.length = m := by rw [← hH, bh_len]
  have hXl : X.length = ps.length := by rw [← hX, bn_len]
  refine primS (.int .i64 (sl.length : Int)) rfl ?_
  refine loop_st (fun j : Nat => [.int .i64 (sl.length : Int), .int .i64 (j : Int), il H, il X, vl rs, .bool rsd.neg, nl rsd.num, nl rsd.den, .bool rr2.neg, nl rr2.num, nl rr2.den, .int .i64 (m : Int),
    .bool rp.x.neg, nl rp.x.num, nl rp.x.den, .bool rp.y.neg, nl rp.y.num, nl rp.y.den, .bool rp.z.neg, nl rp.z.num, nl rp.z.den, il (raw ps ss p r2 (sl.take j)), il sl])
    (fun j => j ≤ sl.length) (fun j => sl.length - j) 0 (Nat.zero_le _) rfl (fun _ => rfl) fun j hj Y hY => ?_
  have hrl := raw_len (ps := ps) (p := p) (r2 := r2) (ss := ss) (sl := sl.take j)
  have hrl2 : (sl.take j).length * ps.length ≤ 27 * 1000 := Nat.mul_le_mul (by rw [List.length_take]; omega) hN
  by_cases hlt : j < sl.length
  · obtain ⟨x, hx⟩ : ∃ x, sl[j]? = some x := ⟨_, List.getElem?_eq_getElem hlt⟩
    have hxr := hsl x (List.mem_of_getElem? hx)
    have hcx := hcn x.toNat (by omega)
    rw [Int.toNat_of_nonneg hxr.1] at hcx
    have hcl := chn_len (ss := ss) (i := ps.length) (x := x)
    refine primS (.bool true) (d_lss.trans (by rw [decide_eq_true (by omega)])) ?_
    refine itT rfl ?_
    refine primS (.bool true) (il_inb (by omega) (by omega)) ?_
    refine primS (.int .i64 x) ((il_get (by omega) (by omega)).trans (by rw [Int.toNat_natCast, getD_of hx])) ?_
    refine primS (.bool true) (il_inb hxr.1 (by omega)) ?_
    refine primS (.int .i64 (hd (chn ss ps.length x))) ((il_get hxr.1 (by omega)).trans (by rw [hcx.hd])) ?_
    simp only [List.cons_append, List.nil_append]
    refine loop_st (fun st : List Nat × List Nat => [.int .i64 (hd st.2), .int .i64 (sl.length : Int), .int .i64 (j : Int), il H, il X, vl rs, .bool rsd.neg, nl rsd.num, nl rsd.den, .bool rr2.neg, nl rr2.num, nl rr2.den, .int .i64 (m : Int),
      .bool rp.x.neg, nl rp.x.num, nl rp.x.den, .bool rp.y.neg, nl rp.y.num, nl rp.y.den, .bool rp.z.neg, nl rp.z.num, nl rp.z.den, il (raw ps ss p r2 (sl.take j) ++ (st.1.filter (nr ps p r2)).map (fun i : Nat => (i : Int))), il sl])
      (fun st => chn ss ps.length x = st.1 ++ st.2 ∧ Cn X (hd st.2) st.2) (fun st => st.2.length) ([], chn ss ps.length x) ⟨rfl, by rw [← hcx.hd]; exact hcx⟩ (by rw [List.filter_nil, List.map_nil, List.append_nil]; rfl) (fun _ => rfl) fun st hst Z hZ => ?_
    obtain ⟨pre, l⟩ := st
    obtain ⟨hs1, hs3⟩ := hst
    simp only at hs1 hs3 hZ ⊢
    have hpl : pre.length ≤ ps.length := by rw [hs1, List.length_append] at hcl; omega
    have hfl := List.length_filter_le (nr ps p r2) pre
    refine primS (.bool (decide _)) d_neq ?_
    cases l with
    | nil =>
      refine itD rfl (fun d => absurd rfl d) (fun _ => ?_)
      refine primS (.int .i64 ((j + 1 : Nat) : Int)) ((d_add64 (by omega) (by omega)).trans (by simp)) ?_
      have := hY (j + 1) hlt (by omega)
      rw [List.take_add_one, hx, Option.toList_some, raw_snoc, hs1, List.append_nil] at this
      exact jump_step rfl this
    | cons q l =>
      have hq := hs3.2.1
      have hq2 : q < ps.length := by omega
      obtain ⟨r, hrr⟩ : ∃ r, rs[q]? = some r := ⟨_, List.getElem?_eq_getElem (by omega)⟩
      obtain ⟨pt, hpt⟩ : ∃ pt, ps[q]? = some pt := ⟨_, List.getElem?_eq_getElem hq2⟩
      have hnr : nr ps p r2 q = decide (far pt p ≤ r2) := by unfold nr; rw [getD_of hpt]
      refine itD rfl (fun _ => ?_) (fun d => absurd (show hd (q :: l) = -1 from Classical.not_not.1 d) (by simp only [hd]; omega))
      refine primS (.bool true) (fm_inb gV_len (by simp only [hd]; omega) (by simp only [hd]; omega)) ?_
      refine get_pt (x := .var 5) (i := .var 0) hrr (fun _ => rfl) (fun _ => rfl) ?_
      simp only [gW, RV.l, List.cons_append, List.nil_append]
      refine call_step (f_ball_Far (hp.at_ q r pt hrr hpt) h ⟨Nat.le_trans hl.1 (by decide), Nat.le_trans hl.2.2.1 (by decide)⟩) rfl ?_
      simp only [HH, gD, List.cons_append, List.nil_append]
      have mF := Num.of (Sm_far (hp.at_ q r pt hrr hpt).sm h.sm)
      refine call_step (n_rat_Cmp (mF.mono (by unfold LL; omega)) (hr.mono (by unfold LL; omega))) rfl ?_
      simp only [HH, List.cons_append, List.nil_append]
      refine primS (.bool (decide (far pt p ≤ r2))) d_cmpQ_le ?_
      have hnx : X.getD q 0 = hd l := hs3.2.2.hd
      refine itD rfl (fun e => ?_) (fun e => ?_)
      · refine primS (il [(q : Int)]) rfl ?_
        refine primS (il (raw ps ss p r2 (sl.take j) ++ (pre.filter (nr ps p r2)).map (fun i : Nat => (i : Int)) ++ [(q : Int)])) (il_app (by rw [List.length_append, List.length_map]; simp only [List.length_cons, List.length_nil]; omega)) ?_
        refine primS (.bool true) (il_inb (by simp only [hd]; omega) (by simp only [hd]; omega)) ?_
        refine primS (.int .i64 (hd l)) ((il_get (by simp only [hd]; omega) (by simp only [hd]; omega)).trans (by simp only [hd, Int.toNat_natCast]; rw [hnx]; rfl)) ?_
        have := hZ (pre ++ [q], l) ⟨by rw [hs1]; simp, hnx ▸ hs3.2.2⟩ (by simp)
        rw [List.filter_append, List.filter_cons, hnr, if_pos (decide_eq_true e), List.filter_nil, List.map_append, ← List.append_assoc] at this
        exact jump_step rfl this
      · refine primS (.bool true) (il_inb (by simp only [hd]; omega) (by simp only [hd]; omega)) ?_
        refine primS (.int .i64 (hd l)) ((il_get (by simp only [hd]; omega) (by simp only [hd]; omega)).trans (by simp only [hd, Int.toNat_natCast]; rw [hnx]; rfl)) ?_
        have := hZ (pre ++ [q], l) ⟨by rw [hs1]; simp, hnx ▸ hs3.2.2⟩ (by simp)
        rw [List.filter_append, List.filter_cons, hnr, if_neg (by simpa using e), List.filter_nil, List.append_nil] at this
        exact jump_step rfl this
  · obtain rfl : j = sl.length := by omega
    refine primS (.bool false) (d_lss.trans (by rw [decide_eq_false (by omega)])) ?_
    refine itF rfl ?_
    rw [List.take_length] at hrl ⊢
    refine rowc_step (zs := raw ps ss p r2 sl) rfl (t_sort (by rw [List.take_length] at hrl2; omega)) ?_
    rw [hne]
    exact ret_step rfl
/-- May there be an answer? -/
def bmay (ps : List V3) (s : Rat) (n : Int) (r2 : Rat) : Prop := gmay s n ∧ ps.length ≤ 1000 ∧ 0 ≤ r2 ∧ r2 ≤ s * s
instance (ps : List V3) (s : Rat) (n : Int) (r2 : Rat) : Decidable (bmay ps s n r2) := inferInstanceAs (Decidable (_ ∧ _ ∧ _ ∧ _))
def bnear (ps : List V3) (s : Rat) (n : Int) (p : V3) (r2 : Rat) : List AV := if bmay ps s n r2 then [.one (il (nearL ps p r2)), .one (.bool true)] else [.one (il []), .one (.bool false)]
theorem f_Near (hp : NVs L rs ps) (hN : ps.length ≤ 1048576) (g : Num M rsd s) (h : NV L2 rp p) (hr : Num L3 rr2 r2) (hl : L ≤ 1000000000 ∧ M ≤ 1000000000 ∧ L2 ≤ 1000000000 ∧ L3 ≤ 1000000000) :
    PureCalls prog F.ball_Near [.one (vl rs), .agg (gW [rsd]), .one (.int .i64 n), .agg (gW rp.l), .agg (gW [rr2])] (bnear ps s n p r2) := by
  have no : ∀ {As : List (List DV → Prop)} {ρ : List DV}, ¬bmay ps s n r2 → IRwp prog As ρ (.ret [.one .nil, .one (.bol false)]) (fun x => x = bnear ps s n p r2) := fun hh => ret_step (by unfold bnear; rw [if_neg hh]; rfl)
  have kb := f_grid_Build (n := n) hp g hN ⟨Nat.le_trans hl.1 (by decide), Nat.le_trans hl.2.1 (by decide)⟩
  refine symFunc_sound hmix tree_ball_Near (by kernel_rfl) rfl ?_
  unfold ir_ball_Near
  simp only [HH, gW, RV.l, List.cons_append, List.nil_append]
  unfold bres at kb
  by_cases hb : gmay s n ∧ ps.length ≤ 1000
  · rw [if_pos hb] at kb
    refine call_step kb rfl ?_
    simp only [gd2, HH, List.cons_append, List.nil_append]
    refine primS (.bool false) rfl ?_
    refine itF rfl ?_
    refine call_step (f_rat_Sign hr (Nat.le_trans hl.2.2.2 (by decide))) rfl ?_
    simp only [HH, List.cons_append, List.nil_append]
    refine primS (.bool (decide _)) pr_lt ?_
    refine itD rfl (fun c1 => ?_) (fun c1 => ?_)
    · exact no fun hh => by have := hh.2.2.1; grind
    refine primS (rlN2 g g) rfl ?_
    refine cs1 (n_rat_Product_2 (g.mono (by unfold LL; omega)) (g.mono (by unfold LL; omega)) rfl) ?_
    simp only [HH, gD, List.cons_append, List.nil_append]
    have mP := Num.of (g.sm.mul g.sm)
    refine call_step (n_rat_Cmp (mP.mono (by unfold LL; omega)) (hr.mono (by unfold LL; omega))) rfl ?_
    simp only [HH, List.cons_append, List.nil_append]
    refine primS (.bool (decide (s * s < r2))) d_cmpQ_lt ?_
    refine itD rfl (fun c2 => ?_) (fun c2 => ?_)
    · exact no fun hh => by have := hh.2.2.2; grind
    have hm : bmay ps s n r2 := ⟨hb.1, hb.2, by grind, by grind⟩
    refine call_step (f_near hb.1 hp hb.2 g h hr hm.2.2.2 hl) rfl ?_
    simp only [fa_ow, HH, List.cons_append, List.nil_append]
    exact ret_step (by unfold bnear; rw [if_pos hm]; rfl)
  · rw [if_neg hb] at kb
    refine call_step kb rfl ?_
    simp only [gd2, HH, List.cons_append, List.nil_append]
    refine primS (.bool true) rfl ?_
    refine itT rfl ?_
    exact no fun hh => hb ⟨hh.1, hh.2.1⟩
end
end Go.Px.Na

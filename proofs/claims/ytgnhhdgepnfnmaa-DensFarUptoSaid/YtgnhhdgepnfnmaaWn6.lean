/- Wn6: naturals: the long division: what is taken away, the main loop. -/
import Derived.Test.YtgnhhdgepnfnmaaWn5
set_option maxRecDepth 10000
set_option linter.unusedSimpArgs false
set_option linter.unusedVariables false
namespace Go.Px.Na
open Go.RowKit
variable {P : Program}
section
variable {s n m : Nat} {v u q : List Nat} {j : Nat} {As : List (List DV → Prop)} {Q : List AV → Prop}

theorem lss_iff {x y b : Nat} : ((((if x < y + b then 1 else 0 : Nat)) : Int) ≠ 0) ↔ x < y + b := by split <;> simp [*]

theorem w_after (c2 : CSub32 P) (c3 : CAdd32 P) {X Y : List DV → Prop} {D Qd g : Nat} (hv : WL v) (hlv : v.length = n) (hn : n ≤ 4398000000000) (hu : WL u) (hju : j + n < u.length) (hm : u.length ≤ 4398046600000) (hlq : q.length + n = u.length)
    (hD : D = val u / 4294967296 ^ j) (hQ : Qd = D / val v) (hV0 : 0 < val v) (hDV : D < 4294967296 * val v) (hg : g < 4294967296) (hg1 : Qd ≤ g) (hg2 : g ≤ Qd + 1) (hs : s < 32)
    (hz : ∀ k, j + n < k → u.getD k 0 = 0)
    (hY : ∀ u', WL u' → u'.length = u.length → val u' + 4294967296 ^ j * Qd * val v = val u → Y [.int .i64 (s : Int), .int .i64 (n : Int), .int .i64 ((j : Int) - 1), nl v, nl u', nl (q.set j Qd)]) :
    IRwp P [X, Y] [.int .i64 (s : Int), .int .i64 (n : Int), .int .i64 (j : Int), .int .u64 (g : Int), nl v, nl u, nl q] long_after Q := by
  have hpj : 0 < 4294967296 ^ j := Nat.pow_pos (by omega)
  -- what the quotient says of the whole
  have hqle : 4294967296 ^ j * Qd * val v ≤ val u := by
    have h1 : Qd * val v ≤ D := by rw [hQ]; exact Nat.div_mul_le_self _ _
    have h2 : 4294967296 ^ j * (Qd * val v) ≤ 4294967296 ^ j * D := Nat.mul_le_mul_left _ h1
    have h3 : 4294967296 ^ j * D ≤ val u := by rw [hD]; exact Nat.mul_div_le _ _
    rw [Nat.mul_assoc]; exact Nat.le_trans h2 h3
  have hgle : 4294967296 ^ j * g * val v ≤ val u → g = Qd := by
    intro h
    have h1 : g * val v ≤ D := by
      rw [hD, Nat.le_div_iff_mul_le hpj, Nat.mul_comm, ← Nat.mul_assoc]; exact h
    have : g ≤ Qd := by rw [hQ]; exact (Nat.le_div_iff_mul_le hV0).2 h1
    omega
  have hQB : Qd < 4294967296 := by rw [hQ]; exact (Nat.div_lt_iff_lt_mul hV0).2 hDV
  show IRwp P [X, Y] _ (.join _ _) Q
  refine join_step (J2 s n j v u q Qd) ?_ ?_
  · have ecut : ((j : Int) + (n : Int) + 1 - (j : Int)) = (n : Int) + 1 := by omega
    have evl : (v.length : Int) = (n : Int) := by rw [hlv]
    simp (disch := omega) only [STEP, Px.A.ev, List.map_cons, List.map_nil, List.getD_cons_zero, List.getD_cons_succ, List.cons_append, List.nil_append, List.append_nil, Option.isSome_some, Option.getD_some, true_and, Int.sub_zero, Int.toNat_zero, List.drop_zero, Int.toNat_natCast, ecut, evl]
    refine loop_step (fun ds => ∃ (i : Int) (c b : Nat) (u' : List Nat), ds = [.int .i64 (j : Int), .int .i64 ((n : Int) + 1), .int .u64 (g : Int), .int .u64 (c : Int), .int .u32 (b : Int), .int .i64 (n : Int), .int .i64 i, .int .i64 (s : Int), .int .i64 (n : Int), nl u', nl v, nl q] ∧
      0 ≤ i ∧ i ≤ n ∧ c < 4294967296 ∧ b ≤ 1 ∧ WL u' ∧ u'.length = u.length ∧ (∀ k, j + n < k → u'.getD k 0 = 0) ∧ val u' + 4294967296 ^ j * g * val (v.take i.toNat) = val u + 4294967296 ^ (j + i.toNat) * (c + b)) (numf (fun i => (n - i).toNat) 6) ?_ ?_ ?_
    · exact ⟨0, 0, 0, u, rfl, by omega, by omega, by omega, by omega, hu, rfl, hz, by simp [val]⟩
    · rintro ds ⟨i, c, b, u', rfl, _⟩; rfl
    · rintro ds ⟨i, c, b, u', rfl, h0, h1, hc, hb, hw, hlu, hzu, hval⟩
      simp (disch := omega) only [STEP, Px.A.ev, List.map_cons, List.map_nil, List.getD_cons_zero, List.getD_cons_succ, List.cons_append, List.nil_append, List.append_nil, Option.isSome_some, Option.getD_some, true_and, Int.sub_zero, Int.toNat_zero, List.drop_zero, Int.toNat_natCast]
      refine ite_step rfl ?_ ?_
      · intro hi
        have hy := hv.getD i.toNat
        have hx := hw.getD ((j : Int) + i).toNat
        have hmm := mul_lt64 hg hy
        obtain ⟨gv, hgv⟩ : ∃ gv : Nat, gv = g * v.getD i.toNat 0 := ⟨_, rfl⟩
        rw [← hgv] at hmm
        have em : Prim.den (.bin .mul) [.int .u64 (g : Int), .int .u64 ((v.getD i.toNat 0 : Nat) : Int)] = some (.int .u64 (gv : Int)) := by
          have : (g : Int) * ((v.getD i.toNat 0 : Nat) : Int) = (gv : Int) := by rw [hgv]; simp
          rw [d_mulu (by omega) (by omega), this]
        have ea : Prim.den (.bin .add) [.int .u64 (gv : Int), .int .u64 (c : Int)] = some (.int .u64 ((gv + c : Nat) : Int)) := by rw [d_addu (by omega) (by omega)]; simp
        have ed : ∀ t : Nat, Prim.den (.bin .shr) [.int .u64 (t : Int), .int .u64 32] = some (.int .u64 ((t / 4294967296 : Nat) : Int)) := fun t => by rw [d_shr32 rfl]; rfl
        have er : ∀ t : Nat, Prim.den (.conv .u32) [.int .u64 (t : Int)] = some (.int .u32 ((t % 4294967296 : Nat) : Int)) := fun t => by rw [d_conv32]; rfl
        simp (disch := omega) only [STEP, Px.A.ev, List.map_cons, List.map_nil, List.getD_cons_zero, List.getD_cons_succ, List.cons_append, List.nil_append, List.append_nil, Option.isSome_some, Option.getD_some, true_and, Int.sub_zero, Int.toNat_zero, List.drop_zero, Int.toNat_natCast, em, ea, ed, er]
        refine call_step (c2 _ ((gv + c) % 4294967296) b hx (Nat.mod_lt _ (by decide)) hb) rfl ?_
        simp (disch := omega) only [STEP, Px.A.ev, List.map_cons, List.map_nil, List.getD_cons_zero, List.getD_cons_succ, List.cons_append, List.nil_append, List.append_nil, Option.isSome_some, Option.getD_some, true_and, Int.sub_zero, Int.toNat_zero, List.drop_zero, Int.toNat_natCast]
        have hsub := sub32_eq hx (Nat.mod_lt (gv + c) (show 0 < 4294967296 by decide)) hb
        have hlt2 : (u'.getD ((j : Int) + i).toNat 0 + 8589934592 - (gv + c) % 4294967296 - b) % 4294967296 < 4294967296 := Nat.mod_lt _ (by decide)
        have hb2 : (if u'.getD ((j : Int) + i).toNat 0 < (gv + c) % 4294967296 + b then 1 else 0 : Nat) ≤ 1 := by split <;> decide
        generalize (u'.getD ((j : Int) + i).toNat 0 + 8589934592 - (gv + c) % 4294967296 - b) % 4294967296 = d at *
        generalize (if u'.getD ((j : Int) + i).toNat 0 < (gv + c) % 4294967296 + b then 1 else 0 : Nat) = b' at *
        refine jump_step rfl ⟨⟨_, _, b', _, rfl, by omega, by omega, by omega, hb2, hw.set hlt2, by simp [hlu], fun k hk => ?_, ?_⟩, ?_⟩
        · rw [getD_set_ne (by omega)]; exact hzu k hk
        · have hs' := val_set (l := u') (j := ((j : Int) + i).toNat) (x := d) (by omega)
          have e7 : ((j : Int) + i).toNat = j + i.toNat := by omega
          rw [show (i + 1).toNat = i.toNat + 1 by omega, val_take_getD, ← Nat.add_assoc, Nat.pow_succ]
          refine less_step (pi := 4294967296 ^ i.toNat) (x := u'.getD ((j : Int) + i).toNat 0) (d := d) (t := gv + c) (c := c) (b := b) (vu' := val u') ?_ ?_ hval ?_ hsub
          · rw [Nat.pow_add]
          · rw [← e7]; exact hs'
          · rw [hgv]
        · show ((n : Int) - (i + 1)).toNat < ((n : Int) - i).toNat
          omega
      · intro hi
        have hin : i.toNat = n := by omega
        rw [hin, val_take_all (by omega)] at hval
        have hx := hw.getD ((j : Int) + n).toNat
        have e7 : ((j : Int) + n).toNat = j + n := by omega
        simp (disch := omega) only [STEP, Px.A.ev, List.map_cons, List.map_nil, List.getD_cons_zero, List.getD_cons_succ, List.cons_append, List.nil_append, List.append_nil, Option.isSome_some, Option.getD_some, true_and, Int.sub_zero, Int.toNat_zero, List.drop_zero, Int.toNat_natCast, evl]
        refine call_step (c2 _ c b hx hc hb) rfl ?_
        simp (disch := omega) only [STEP, Px.A.ev, List.map_cons, List.map_nil, List.getD_cons_zero, List.getD_cons_succ, List.cons_append, List.nil_append, List.append_nil, Option.isSome_some, Option.getD_some, true_and, Int.sub_zero, Int.toNat_zero, List.drop_zero, Int.toNat_natCast]
        have hsub := sub32_eq hx hc hb
        have hlt2 : (u'.getD ((j : Int) + n).toNat 0 + 8589934592 - c - b) % 4294967296 < 4294967296 := Nat.mod_lt _ (by decide)
        have hif := @lss_iff (u'.getD ((j : Int) + n).toNat 0) c b
        have hib : (if u'.getD ((j : Int) + n).toNat 0 < c + b then 1 else 0 : Nat) ≤ 1 := by split <;> decide
        have hs' := fun d => val_set (l := u') (j := ((j : Int) + n).toNat) (x := d) (by omega)
        generalize (u'.getD ((j : Int) + n).toNat 0 + 8589934592 - c - b) % 4294967296 = d at *
        generalize hbe : (if u'.getD ((j : Int) + n).toNat 0 < c + b then 1 else 0 : Nat) = b' at *
        have hlast := less_last (vu'' := val (u'.set ((j : Int) + n).toNat d)) (p := 4294967296 ^ (j + n)) (by rw [← e7]; exact hs' d) hval hsub
        have hw2 := hw.set (i := ((j : Int) + n).toNat) hlt2
        have hl2 : (u'.set ((j : Int) + n).toNat d).length = u.length := by simp [hlu]
        have hz2 : ∀ k, j + n < k → (u'.set ((j : Int) + n).toNat d).getD k 0 = 0 := fun k hk => by rw [getD_set_ne (by omega)]; exact hzu k hk
        generalize u'.set ((j : Int) + n).toNat d = u2 at *
        refine ite_step rfl ?_ ?_
        · intro hne
          have hb1 : b' = 1 := by omega
          subst hb1
          rw [Nat.mul_one] at hlast
          have hg0 : 0 < g := by
            rcases Nat.eq_zero_or_pos g with h | h
            · exfalso
              rw [h, Nat.mul_zero, Nat.zero_mul, Nat.add_zero] at hlast
              have := val_lt_of_zeros (u := u2) (K := j + n + 1) hw2 (fun k hk => hz2 k (by omega))
              rw [Nat.pow_succ] at this
              omega
            · exact h
          have hgQ : g = Qd + 1 := by
            rcases Nat.lt_or_ge g (Qd + 1) with h | h
            · exfalso
              have hgq : g = Qd := by omega
              have := val_lt_of_zeros (u := u2) (K := j + n + 1) hw2 (fun k hk => hz2 k (by omega))
              rw [Nat.pow_succ] at this
              rw [hgq] at hlast
              omega
            · omega
          have eg : (g : Int) - 1 = (Qd : Int) := by omega
          simp (disch := omega) only [STEP, Px.A.ev, List.map_cons, List.map_nil, List.getD_cons_zero, List.getD_cons_succ, List.cons_append, List.nil_append, List.append_nil, Option.isSome_some, Option.getD_some, true_and, Int.sub_zero, Int.toNat_zero, List.drop_zero, Int.toNat_natCast, ecut, evl, eg]
          refine loop_step (fun ds => ∃ (i : Int) (c : Nat) (u' : List Nat), ds = [.int .i64 (j : Int), .int .i64 ((n : Int) + 1), .int .u32 (c : Int), .int .i64 (n : Int), .int .i64 i, .int .i64 (s : Int), .int .i64 (n : Int), .int .u64 (Qd : Int), nl u', nl v, nl q] ∧
            0 ≤ i ∧ i ≤ n ∧ c ≤ 1 ∧ WL u' ∧ u'.length = u.length ∧ (∀ k, j + n < k → u'.getD k 0 = 0) ∧ val u' + 4294967296 ^ (j + i.toNat) * c = val u2 + 4294967296 ^ j * val (v.take i.toNat)) (numf (fun i => (n - i).toNat) 4) ?_ ?_ ?_
          · exact ⟨0, 0, u2, rfl, by omega, by omega, by omega, hw2, hl2, hz2, by simp [val]⟩
          · rintro ds ⟨i, c, u', rfl, _⟩; rfl
          · rintro ds ⟨i, c, u3, rfl, h0, h1, hc, hw, hlu, hzu, hval⟩
            simp (disch := omega) only [STEP, Px.A.ev, List.map_cons, List.map_nil, List.getD_cons_zero, List.getD_cons_succ, List.cons_append, List.nil_append, List.append_nil, Option.isSome_some, Option.getD_some, true_and, Int.sub_zero, Int.toNat_zero, List.drop_zero, Int.toNat_natCast]
            refine ite_step rfl ?_ ?_
            · intro hi
              have hy := hv.getD i.toNat
              have hx := hw.getD ((j : Int) + i).toNat
              simp (disch := omega) only [STEP, Px.A.ev, List.map_cons, List.map_nil, List.getD_cons_zero, List.getD_cons_succ, List.cons_append, List.nil_append, List.append_nil, Option.isSome_some, Option.getD_some, true_and, Int.sub_zero, Int.toNat_zero, List.drop_zero, Int.toNat_natCast]
              refine call_step (c3 _ _ c hx hy hc) rfl ?_
              simp (disch := omega) only [STEP, Px.A.ev, List.map_cons, List.map_nil, List.getD_cons_zero, List.getD_cons_succ, List.cons_append, List.nil_append, List.append_nil, Option.isSome_some, Option.getD_some, true_and, Int.sub_zero, Int.toNat_zero, List.drop_zero, Int.toNat_natCast]
              refine jump_step rfl ⟨⟨_, _, _, rfl, by omega, by omega, by omega, hw.set (Nat.mod_lt _ (by decide)), by simp [hlu], fun k hk => ?_, ?_⟩, ?_⟩
              · rw [getD_set_ne (by omega)]; exact hzu k hk
              · have hs' := val_set (l := u3) (j := ((j : Int) + i).toNat) (x := (u3.getD ((j : Int) + i).toNat 0 + v.getD i.toNat 0 + c) % 4294967296) (by omega)
                have e7 : ((j : Int) + i).toNat = j + i.toNat := by omega
                rw [show (i + 1).toNat = i.toNat + 1 by omega, val_take_getD, ← Nat.add_assoc, Nat.pow_succ]
                refine back_step (pi := 4294967296 ^ i.toNat) (vu' := val u3) ?_ ?_ hval
                · rw [Nat.pow_add]
                · rw [← e7]; exact hs'
              · show ((n : Int) - (i + 1)).toNat < ((n : Int) - i).toNat
                omega
            · intro hi
              have hin : i.toNat = n := by omega
              rw [hin, val_take_all (by omega)] at hval
              have hx := hw.getD ((j : Int) + n).toNat
              have ea : Prim.den (.bin .add) [.int .u32 ((u3.getD ((j : Int) + n).toNat 0 : Nat) : Int), .int .u32 (c : Int)] = some (.int .u32 (((u3.getD ((j : Int) + n).toNat 0 + c) % 4294967296 : Nat) : Int)) := by rw [d_add32]; rfl
              simp (disch := omega) only [STEP, Px.A.ev, List.map_cons, List.map_nil, List.getD_cons_zero, List.getD_cons_succ, List.cons_append, List.nil_append, List.append_nil, Option.isSome_some, Option.getD_some, true_and, Int.sub_zero, Int.toNat_zero, List.drop_zero, Int.toNat_natCast, evl, ea]
              have hs3 := val_set (l := u3) (j := ((j : Int) + n).toNat) (x := (u3.getD ((j : Int) + n).toNat 0 + c) % 4294967296) (by omega)
              have hb3 := back_last (p := 4294967296 ^ (j + n)) (by rw [← e7]; exact hs3) hval
              have hw3 := hw.set (i := ((j : Int) + n).toNat) (Nat.mod_lt (u3.getD ((j : Int) + n).toNat 0 + c) (show 0 < 4294967296 by decide))
              have hz3 : ∀ k, j + n < k → (u3.set ((j : Int) + n).toNat ((u3.getD ((j : Int) + n).toNat 0 + c) % 4294967296)).getD k 0 = 0 := fun k hk => by rw [getD_set_ne (by omega)]; exact hzu k hk
              have hlt3 := val_lt_of_zeros (K := j + n + 1) hw3 (fun k hk => hz3 k (by omega))
              rw [Nat.pow_succ] at hlt3
              have hmend := back_mend hlast hb3 (by omega) hlt3 hg0 (by rw [hgQ, Nat.add_sub_cancel]; exact hqle)
              rw [hgQ, Nat.add_sub_cancel] at hmend
              exact jump_step rfl ⟨_, rfl, hw3, by simp [hlu], hmend⟩
        · intro hne
          have hb1 : b' = 0 := by omega
          subst hb1
          rw [Nat.mul_zero, Nat.add_zero] at hlast
          have hgq := hgle (by omega)
          rw [hgq] at hlast ⊢
          exact jump_step rfl ⟨u2, rfl, hw2, hl2, hlast⟩
  · rintro ds ⟨u', rfl, hw, hlu, hval⟩
    simp (disch := omega) only [STEP, Px.A.ev, List.map_cons, List.map_nil, List.getD_cons_zero, List.getD_cons_succ, List.cons_append, List.nil_append, List.append_nil, Option.isSome_some, Option.getD_some, true_and, Int.sub_zero, Int.toNat_zero, List.drop_zero, Int.toNat_natCast]
    exact jump_step rfl (hY u' hw hlu hval)

end
end Go.Px.Na

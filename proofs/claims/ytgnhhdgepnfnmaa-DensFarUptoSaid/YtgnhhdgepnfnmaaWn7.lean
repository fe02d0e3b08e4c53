/- Wn7: naturals: the long division, whole. -/
import Derived.Test.YtgnhhdgepnfnmaaWn6
set_option maxRecDepth 10000
set_option linter.unusedSimpArgs false
set_option linter.unusedVariables false
namespace Go.Px.Na
open Go.RowKit
variable {P : Program}

theorem nl_fold (l : List Nat) : DV.list l.length (ul l) = nl l := rfl

theorem w_long (c1 : CTrim P) (c2 : CSub32 P) (c3 : CAdd32 P) (c4 : CLz P) (c5 : CShl P) (c6 : CShr P) {M N : Nat} (hlM : (limbs M).length ≤ 4398000000000) (hNM : N ≤ M) (hN2 : 2 ≤ (limbs N).length) :
    IRwp P [] [nn M, nn N] ir_nat_long (· = [.one (nn (M / N)), .one (nn (M % N))]) := by
  unfold ir_nat_long
  have hN0 : N ≠ 0 := fun h => by rw [h, limbs_zero] at hN2; simp at hN2
  have hlen := limbs_len_mono hNM
  obtain ⟨hbits, htop0⟩ := nbits_limbs hN0
  have htop := (WL_limbs N).getD ((limbs N).length - 1)
  obtain ⟨n, hn⟩ : ∃ n, n = (limbs N).length := ⟨_, rfl⟩
  simp only [nn]
  rw [← hn] at hbits htop0 htop hN2 hlen
  have e1 : (((limbs N).length : Int) - 1).toNat = n - 1 := by omega
  simp (disch := omega) only [STEP, Px.A.ev, List.map_cons, List.map_nil, List.getD_cons_zero, List.getD_cons_succ, List.cons_append, List.nil_append, List.append_nil, Option.isSome_some, Option.getD_some, true_and, Int.sub_zero, Int.toNat_zero, List.drop_zero, Int.toNat_natCast, e1]
  have hb1 := nbits_le (n := (limbs N).getD (n - 1) 0) (k := 32) htop
  have hb2 : 0 < nbits ((limbs N).getD (n - 1) 0) := by obtain ⟨k, hk, _⟩ := nbits_spec htop0; omega
  obtain ⟨s, hs⟩ : ∃ s : Nat, s = 32 - nbits ((limbs N).getD (n - 1) 0) := ⟨_, rfl⟩
  refine call_step (c4 _ htop) rfl ?_
  have es : (32 - (nbits ((limbs N).getD (n - 1) 0) : Int)) = (s : Int) := by omega
  rw [es]
  have hs32 : s < 32 := by omega
  have hshl : ∀ v, shlRes v (s : Int) = [.own 1 TU32 (limbs (v * 2 ^ s)).length (ul (limbs (v * 2 ^ s))), .one (.bool true)] := fun v => by
    unfold shlRes; rw [if_neg (by omega), Int.toNat_natCast]
  have k1 := c5 (limbs N) (s : Int) ⟨WL_limbs N, by omega⟩
  have k2 := c5 (limbs M) (s : Int) ⟨WL_limbs M, by omega⟩
  rw [val_limbs, hshl] at k1 k2
  refine call_step k1 rfl ?_
  refine call_step k2 rfl ?_
  -- the sizes
  have hV1 : N * 2 ^ s < 4294967296 ^ n := by
    obtain ⟨k, hk1, hk2, hk3⟩ := nbits_spec hN0
    have : N * 2 ^ s < 2 ^ (k + 1) * 2 ^ s := Nat.mul_lt_mul_of_pos_right hk3 (Nat.two_pow_pos s)
    rw [← Nat.pow_add, show k + 1 + s = 32 * n by omega, Nat.pow_mul] at this
    exact this
  have hV2 : 4294967296 ^ (n - 1) * 2 ^ s ≤ N * 2 ^ s := by
    have := limbs_ge_pow hN0
    rw [← hn] at this
    exact Nat.mul_le_mul_right _ this
  have hp2 : 0 < 2 ^ s := Nat.two_pow_pos s
  have hV3 : 4294967296 ^ (n - 1) ≤ N * 2 ^ s := Nat.le_trans (Nat.le_mul_of_pos_right _ hp2) hV2
  have hlv : (limbs (N * 2 ^ s)).length = n := by
    have h1 := limbs_len hV1
    rcases Nat.lt_or_ge (limbs (N * 2 ^ s)).length n with h | h
    · exfalso
      have h2 := limbs_lt_pow (N * 2 ^ s)
      have h3 := Nat.pow_le_pow_right (n := 4294967296) (by omega) (show (limbs (N * 2 ^ s)).length ≤ n - 1 by omega)
      omega
    · omega
  have hU1 : M * 2 ^ s < 4294967296 ^ ((limbs M).length) * 2 ^ s := Nat.mul_lt_mul_of_pos_right (limbs_lt_pow M) hp2
  have h2B : 2 ^ s ≤ 4294967296 := Nat.le_of_lt (Nat.pow_lt_pow_right (a := 2) (m := s) (n := 32) (by omega) hs32)
  have hlu : (limbs (M * 2 ^ s)).length ≤ (limbs M).length + 1 := limbs_len (Nat.lt_of_lt_of_le hU1 (by rw [Nat.pow_succ]; exact Nat.mul_le_mul_left _ h2B))
  have wv := WL_limbs (N * 2 ^ s)
  have vv := val_limbs (N * 2 ^ s)
  generalize hve : limbs (N * 2 ^ s) = v at *
  have hV0 : 0 < N * 2 ^ s := by have : 0 < 4294967296 ^ (n - 1) := Nat.pow_pos (by omega); omega
  obtain ⟨V, hVd⟩ : ∃ V, V = N * 2 ^ s := ⟨_, rfl⟩
  obtain ⟨A, hAd⟩ : ∃ A, A = M * 2 ^ s := ⟨_, rfl⟩
  rw [← hVd] at hV1 hV2 hV3 vv hV0
  rw [← hAd] at hU1 hlu ⊢
  simp (disch := omega) only [STEP, Px.A.ev, List.map_cons, List.map_nil, List.getD_cons_zero, List.getD_cons_succ, List.cons_append, List.nil_append, List.append_nil, Option.isSome_some, Option.getD_some, true_and, Int.sub_zero, Int.toNat_zero, List.drop_zero, Int.toNat_natCast, nl_fold]
  simp only [hlv]
  obtain ⟨l, hl⟩ : ∃ l, l = (limbs M).length := ⟨_, rfl⟩
  rw [← hl] at hU1 hlu hlM hlen
  refine loop_step (fun ds => ∃ u : List Nat, ds = [nl (limbs M), .int .i64 (s : Int), .int .i64 (n : Int), nl v, nl u] ∧ WL u ∧ val u = A ∧ u.length ≤ l + 1) (lenAt (l + 1) 4) ?_ ?_ ?_
  · exact ⟨limbs A, rfl, WL_limbs A, val_limbs A, hlu⟩
  · rintro ds ⟨u, rfl, _⟩; rfl
  · rintro ds ⟨u, rfl, wu, vu, lu⟩
    simp (disch := omega) only [STEP, Px.A.ev, List.map_cons, List.map_nil, List.getD_cons_zero, List.getD_cons_succ, List.cons_append, List.nil_append, List.append_nil, Option.isSome_some, Option.getD_some, true_and, Int.sub_zero, Int.toNat_zero, List.drop_zero, Int.toNat_natCast]
    refine ite_step rfl ?_ ?_
    · intro h
      have em0 : Prim.den (.mk 1) [.int .u32 0] = some (nl [0]) := rfl
      simp (disch := omega) only [STEP, Px.A.ev, List.map_cons, List.map_nil, List.getD_cons_zero, List.getD_cons_succ, List.cons_append, List.nil_append, List.append_nil, Option.isSome_some, Option.getD_some, true_and, Int.sub_zero, Int.toNat_zero, List.drop_zero, Int.toNat_natCast, em0]
      refine jump_step rfl ⟨⟨_, rfl, wu.append (WL.single (by omega)), by rw [val_snoc, vu, Nat.mul_zero, Nat.add_zero], by simp; omega⟩, ?_⟩
      show l + 1 - (u ++ [0]).length < l + 1 - u.length
      simp; omega
    · intro h
      have hm : u.length = l + 1 := by omega
      simp (disch := omega) only [STEP, Px.A.ev, List.map_cons, List.map_nil, List.getD_cons_zero, List.getD_cons_succ, List.cons_append, List.nil_append, List.append_nil, Option.isSome_some, Option.getD_some, true_and, Int.sub_zero, Int.toNat_zero, List.drop_zero, Int.toNat_natCast]
      refine loop_step (LInv s n (l + 1) V v A) (numf (fun j => (j + 1).toNat) 2) ?_ ?_ ?_
      · refine ⟨_, u, List.replicate ((u.length : Int) - n).toNat 0, rfl, by omega, by omega, wu, hm, WL.rep _, by simp; omega, ?_, ?_⟩
        · rw [show ((u.length : Int) - n - 1 + 1).toNat = l + 1 - n by omega, ← drop_val wu, vu, Nat.div_lt_iff_lt_mul (Nat.pow_pos (by omega))]
          refine Nat.lt_of_lt_of_le hU1 ?_
          have : 4294967296 ^ l * 2 ^ s = 4294967296 ^ (n - 1) * 2 ^ s * 4294967296 ^ (l + 1 - n) := by
            rw [show l = (n - 1) + (l + 1 - n) by omega, Nat.pow_add, show n - 1 + (l + 1 - n) + 1 - n = l + 1 - n by omega]; grind
          rw [this]
          exact Nat.mul_le_mul_right _ hV2
        · have : val (List.drop ((u.length : Int) - n - 1 + 1).toNat (List.replicate ((u.length : Int) - n).toNat 0)) = 0 := by
            rw [List.drop_replicate, val_rep]
          rw [this, vu]; simp
      · rintro ds ⟨j, u, q, rfl, _⟩; rfl
      · rintro ds ⟨j, u, q, rfl, h0, h1, wu, lu, wq, lq, hdrop, hA⟩
        show IRwp P [_, _] _ long_body _
        unfold long_body ir_nat_long
        simp only
        simp (disch := omega) only [STEP, Px.A.ev, List.map_cons, List.map_nil, List.getD_cons_zero, List.getD_cons_succ, List.cons_append, List.nil_append, List.append_nil, Option.isSome_some, Option.getD_some, true_and, Int.sub_zero, Int.toNat_zero, List.drop_zero, Int.toNat_natCast]
        refine ite_step rfl ?_ ?_
        · intro hj
          obtain ⟨jn, rfl⟩ := Int.eq_ofNat_of_zero_le hj
          have ej : ((jn : Int) + 1).toNat = jn + 1 := by omega
          rw [ej] at hdrop hA
          have hDv : val u / 4294967296 ^ jn = val (u.drop jn) := drop_val wu jn
          have hDd := val_getD_drop u jn
          have huj := wu.getD jn
          have hDlt : val (u.drop jn) < 4294967296 * V := by
            have : 4294967296 * (val (u.drop (jn + 1)) + 1) ≤ 4294967296 * V := Nat.mul_le_mul_left _ hdrop
            omega
          have hz : ∀ k, jn + n < k → u.getD k 0 = 0 := fun k hk => zeros_of_lt (K := jn + 1 + n) wu (by
            have h1 := val_take_drop u (jn + 1)
            have h2 := val_lt (wu.take (jn + 1))
            have h3 : (u.take (jn + 1)).length = jn + 1 := by simp; omega
            rw [h3] at h1 h2
            have h4 : 4294967296 ^ (jn + 1) * (val (u.drop (jn + 1)) + 1) ≤ 4294967296 ^ (jn + 1) * V := Nat.mul_le_mul_left _ hdrop
            have h5 : 4294967296 ^ (jn + 1) * V ≤ 4294967296 ^ (jn + 1) * 4294967296 ^ n := Nat.mul_le_mul_left _ (Nat.le_of_lt hV1)
            rw [Nat.pow_add, h1]
            rw [Nat.mul_add, Nat.mul_one] at h4
            omega) k (by omega)
          -- the digits
          have htop : val (u.drop jn) / 4294967296 ^ (n - 1) = u.getD (jn + n) 0 * 4294967296 + u.getD (jn + n - 1) 0 := by
            rw [← hDv, Nat.div_div_eq_div_mul, ← Nat.pow_add, show jn + (n - 1) = jn + n - 1 by omega, drop_val wu, val_getD_drop, show jn + n - 1 + 1 = jn + n by omega, val_getD_drop u (jn + n)]
            have : val (u.drop (jn + n + 1)) = 0 := by
              rw [← drop_val wu]
              exact Nat.div_eq_of_lt (val_lt_of_zeros wu fun k hk => hz k (by omega))
            rw [this]; omega
          have ht2 : val (u.drop jn) / 4294967296 ^ (n - 2) = val (u.drop jn) / 4294967296 ^ (n - 1) * 4294967296 + u.getD (jn + n - 2) 0 := by
            rw [← hDv, Nat.div_div_eq_div_mul, Nat.div_div_eq_div_mul, ← Nat.pow_add, ← Nat.pow_add, show jn + (n - 1) = (jn + n - 2) + 1 by omega, show jn + (n - 2) = jn + n - 2 by omega, two_digits wu (jn + n - 2)]
            omega
          have hv1 : val v / 4294967296 ^ (n - 1) = v.getD (n - 1) 0 := by
            rw [drop_val wv, val_getD_drop, List.drop_eq_nil_of_le (as := v) (i := n - 1 + 1) (by omega)]; simp [val]
          have hv2 : val v / 4294967296 ^ (n - 2) = v.getD (n - 1) 0 * 4294967296 + v.getD (n - 2) 0 := by
            rw [two_digits wv, show n - 2 + 1 = n - 1 by omega, hv1]; omega
          rw [← vv] at hDlt hV3
          have K := kf_make (D := val (u.drop jn)) (V := val v) (n := n) hN2 hDlt hV3 hv1 hv2 (wv.getD _) ht2
          rw [htop] at K
          have hp1 := K.hv1
          have g1 := wu.getD (jn + n)
          have g2 := wu.getD (jn + n - 1)
          have e2 : ((jn : Int) + n).toNat = jn + n := by omega
          have e3 : ((jn : Int) + n - 1).toNat = jn + n - 1 := by omega
          have e4 : ((n : Int) - 1).toNat = n - 1 := by omega
          have gv1 := wv.getD (n - 1)
          have eq1 : Prim.den (.bin .quo) [.int .u64 (((u.getD (jn + n) 0 : Nat) : Int) * 4294967296 + ((u.getD (jn + n - 1) 0 : Nat) : Int)), .int .u64 ((v.getD (n - 1) 0 : Nat) : Int)] = some (.int .u64 (((u.getD (jn + n) 0 * 4294967296 + u.getD (jn + n - 1) 0) / v.getD (n - 1) 0 : Nat) : Int)) := by
            rw [d_quou (by omega) (by omega) (by omega)]; simp
          have eq2 : Prim.den (.bin .rem) [.int .u64 (((u.getD (jn + n) 0 : Nat) : Int) * 4294967296 + ((u.getD (jn + n - 1) 0 : Nat) : Int)), .int .u64 ((v.getD (n - 1) 0 : Nat) : Int)] = some (.int .u64 (((u.getD (jn + n) 0 * 4294967296 + u.getD (jn + n - 1) 0) % v.getD (n - 1) 0 : Nat) : Int)) := by
            rw [d_remu (by omega) (by omega)]; simp
          simp (disch := omega) only [STEP, Px.A.ev, List.map_cons, List.map_nil, List.getD_cons_zero, List.getD_cons_succ, List.cons_append, List.nil_append, List.append_nil, Option.isSome_some, Option.getD_some, true_and, Int.sub_zero, Int.toNat_zero, List.drop_zero, Int.toNat_natCast, e2, e3, e4, d_or64, eq1, eq2]
          show IRwp P [_, _] _ (.join long_guess long_after) _
          refine join_step (J1 s n jn v u q (val (u.drop jn) / val v)) ?_ ?_
          · exact w_guess wv hlv hN2 wu (by omega) (by omega) K rfl rfl rfl rfl rfl rfl rfl rfl
          · rintro ds ⟨g, rfl, hg, hg1, hg2⟩
            refine w_after c2 c3 wv hlv (by omega) wu (by omega) (by omega) (by omega) hDv.symm rfl (by rw [vv]; exact hV0) hDlt hg hg1 hg2 hs32 hz ?_
            intro u' wu' lu' hval
            have hpj : 0 < 4294967296 ^ jn := Nat.pow_pos (by omega)
            have hdiv : val (u.drop jn) = val (u'.drop jn) + val (u.drop jn) / val v * val v := by
              have h9 : val u / 4294967296 ^ jn = val u' / 4294967296 ^ jn + val (u.drop jn) / val v * val v := by
                rw [← hval, Nat.mul_assoc, Nat.add_mul_div_left _ _ hpj]
              rw [hDv, drop_val wu'] at h9
              exact h9
            have hmod := Nat.div_add_mod (val (u.drop jn)) (val v)
            have hml := Nat.mod_lt (val (u.drop jn)) (show 0 < val v by rw [vv]; exact hV0)
            have hqB := K.qB
            generalize val (u.drop jn) / val v = Qd at *
            rw [Nat.mul_comm] at hmod
            refine ⟨⟨_, u', q.set jn Qd, rfl, by omega, by omega, wu', by omega, wq.set hqB, by simp; omega, ?_, ?_⟩, ?_⟩
            · rw [show ((jn : Int) - 1 + 1).toNat = jn by omega, ← vv]; omega
            · rw [show ((jn : Int) - 1 + 1).toNat = jn by omega, val_getD_drop (q.set jn Qd), getD_set_eq (by omega), drop_set (by omega), hA, ← hval, vv, Nat.pow_succ]
              grind
            · show ((jn : Int) - 1 + 1).toNat < ((jn : Int) + 1).toNat
              omega
        · intro hj
          have ej : (j + 1).toNat = 0 := by omega
          rw [ej] at hdrop hA
          rw [List.drop_zero] at hdrop
          rw [List.drop_zero, Nat.pow_zero, Nat.one_mul] at hA
          refine call_step (c1 q wq (by omega)) rfl ?_
          have en : ((n : Int)).toNat = n := by omega
          simp (disch := omega) only [STEP, Px.A.ev, List.map_cons, List.map_nil, List.getD_cons_zero, List.getD_cons_succ, List.cons_append, List.nil_append, List.append_nil, Option.isSome_some, Option.getD_some, true_and, Int.sub_zero, Int.toNat_zero, List.drop_zero, Int.toNat_natCast]
          have hwt := wu.take n
          have hvt : val (u.take n) = val u := by
            have h1 := val_take_drop u n
            have h2 : val (u.drop n) = 0 := by rw [← drop_val wu]; exact Nat.div_eq_of_lt (Nat.lt_trans hdrop hV1)
            rw [h2] at h1; simpa using h1.symm
          refine call_step (c6 (u.take n) s ⟨hwt, by simp; omega⟩ hs32) rfl ?_
          refine ret_step ?_
          show [AV.one (nn (val q)), AV.one (nn (val (u.take n) / 2 ^ s))] = _
          have hq : val q = M / N := by
            have h1 : A / V = M / N := by rw [hAd, hVd, Nat.mul_div_mul_right _ _ hp2]
            rw [← h1, hA, Nat.add_mul_div_left _ _ hV0, Nat.div_eq_of_lt hdrop, Nat.zero_add]
          have hr : val u = (M % N) * 2 ^ s := by
            have h1 : A % V = (M % N) * 2 ^ s := by rw [hAd, hVd, Nat.mul_mod_mul_right]
            rw [← h1, hA, Nat.add_mul_mod_self_left, Nat.mod_eq_of_lt hdrop]
          rw [hvt, hq, hr, Nat.mul_div_cancel _ hp2]; rfl

end Go.Px.Na

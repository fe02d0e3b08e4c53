/- Wn4: naturals: Shl, DivMod. -/
import Derived.Test.YtgnhhdgepnfnmaaWn3
set_option linter.unusedSimpArgs false
set_option linter.unusedVariables false
namespace Go.Px.Na
open Go.RowKit
variable {P : Program}

theorem den_or32 (a b : Nat) (ha : a < 4294967296) (hb : b < 4294967296) : Prim.den (.bin .or) [.int .u32 (a : Int), .int .u32 (b : Int)] = some (.int .u32 ((a ||| b : Nat) : Int)) := by
  simp only [Prim.den, Prim.bin1, binInt]
  rw [if_neg (by simp)]
  have e : (BitVec.ofInt IntKind.u32.bits (a : Int) ||| BitVec.ofInt IntKind.u32.bits (b : Int)).toNat = a ||| b := by
    show (BitVec.ofInt 32 (a : Int) ||| BitVec.ofInt 32 (b : Int)).toNat = a ||| b
    simp [Nat.mod_eq_of_lt ha, Nat.mod_eq_of_lt hb]
  have hlt : a ||| b < 2 ^ 32 := Nat.or_lt_two_pow (by simpa using ha) (by simpa using hb)
  rw [e, wu32 (by omega) (by omega)]

theorem shl_digit {x c s : Nat} (hs : s < 32) (hx : x < 4294967296) (hc : c < 2 ^ s) :
    ((x * 2 ^ s % 4294967296) ||| c) = (x * 2 ^ s + c) % 4294967296 ∧ x / 2 ^ (32 - s) = (x * 2 ^ s + c) / 4294967296 ∧ (x * 2 ^ s + c) / 4294967296 < 2 ^ s := by
  have hB : (4294967296 : Nat) = 2 ^ (32 - s) * 2 ^ s := by rw [← Nat.pow_add, show 32 - s + s = 32 by omega]
  have hp := Nat.two_pow_pos s
  have hp2 := Nat.two_pow_pos (32 - s)
  have h1 : x * 2 ^ s % 4294967296 = x % 2 ^ (32 - s) * 2 ^ s := by
    conv => lhs; rw [hB]
    rw [Nat.mul_mod_mul_right]
  have h2 := Nat.mod_add_div x (2 ^ (32 - s))
  have h3 : x % 2 ^ (32 - s) < 2 ^ (32 - s) := Nat.mod_lt _ hp2
  rw [h1, or_add hc]
  generalize x % 2 ^ (32 - s) = y at *
  generalize x / 2 ^ (32 - s) = t at *
  have h4 : x * 2 ^ s + c = y * 2 ^ s + c + 4294967296 * t := by
    rw [← h2, hB]; grind
  have h5 : (y + 1) * 2 ^ s ≤ 4294967296 := by rw [hB]; exact Nat.mul_le_mul_right _ h3
  have h6 : y * 2 ^ s + c < 4294967296 := by rw [Nat.add_mul, Nat.one_mul] at h5; omega
  have h7 : (x * 2 ^ s + c) / 4294967296 < 2 ^ s := by
    rw [Nat.div_lt_iff_lt_mul (by omega)]
    have : (x + 1) * 2 ^ s ≤ 4294967296 * 2 ^ s := Nat.mul_le_mul_right _ hx
    rw [Nat.add_mul, Nat.one_mul] at this
    rw [Nat.mul_comm (2 ^ s)]
    omega
  refine ⟨?_, ?_, h7⟩
  · rw [h4, Nat.add_mul_mod_self_left, Nat.mod_eq_of_lt h6]
  · rw [h4, Nat.add_mul_div_left _ _ (by omega), Nat.div_eq_of_lt h6, Nat.zero_add]

theorem d_shlx {k' : IntKind} {x s : Nat} (hs : s < 32) : Prim.den (.bin .shl) [.int .u32 (x : Int), .int k' (s : Int)] = some (.int .u32 ((x * 2 ^ s % 4294967296 : Nat) : Int)) := by
  simp only [Prim.den, Prim.bin1, binInt]
  rw [if_neg (by omega), wu32', Int.toNat_natCast, show min s IntKind.u32.bits = s from Nat.min_eq_left (by show s ≤ 32; omega)]
  simp

theorem shl_step {p vo va x c q r s : Nat} (h : vo + p * c = va) (h2 : q * 4294967296 + r = x * s + c) : vo + p * r + p * 4294967296 * q = va + p * (x * s) := by
  have : p * (q * 4294967296 + r) = p * (x * s + c) := by rw [h2]
  grind

def shlRes (v : Nat) (k : Int) : List AV := if k < 0 ∨ 65536 < k then [.own 1 TU32 0 [], .one (.bool false)] else [.own 1 TU32 (limbs (v * 2 ^ k.toNat)).length (ul (limbs (v * 2 ^ k.toNat))), .one (.bool true)]
def CShl (P : Program) : Prop := ∀ a (k : Int), WF a → PureCalls P F.nat_Shl [.one (nl a), .one (.int .i64 k)] (shlRes (val a) k)
theorem w_shl (c1 : CTrim P) {a : List Nat} {k : Int} (ha : WF a) : IRwp P [] [nl a, .int .i64 k] ir_nat_Shl (· = shlRes (val a) k) := by
  obtain ⟨ha, hla⟩ := ha
  unfold ir_nat_Shl
  simp (disch := omega) only [STEP, Px.A.ev, List.map_cons, List.map_nil, List.getD_cons_zero, List.getD_cons_succ, List.cons_append, List.nil_append, List.append_nil, Option.isSome_some, Option.getD_some, true_and, Int.sub_zero, Int.toNat_zero, List.drop_zero, Int.toNat_natCast]
  refine ite_step rfl ?_ ?_
  · intro h
    unfold shlRes
    rw [if_pos (by omega)]
    exact ret_step rfl
  · intro h
    simp (disch := omega) only [STEP, Px.A.ev, List.map_cons, List.map_nil, List.getD_cons_zero, List.getD_cons_succ, List.cons_append, List.nil_append, List.append_nil, Option.isSome_some, Option.getD_some, true_and, Int.sub_zero, Int.toNat_zero, List.drop_zero, Int.toNat_natCast]
    refine ite_step rfl ?_ ?_
    · intro h
      unfold shlRes
      rw [if_pos (by omega)]
      exact ret_step rfl
    · intro h
      have hres : shlRes (val a) k = [.own 1 TU32 (limbs (val a * 2 ^ k.toNat)).length (ul (limbs (val a * 2 ^ k.toNat))), .one (.bool true)] := by
        unfold shlRes; rw [if_neg (by omega)]
      rw [hres]
      obtain ⟨s, hs⟩ : ∃ s : Nat, (s : Int) = k % 32 := ⟨(k % 32).toNat, by omega⟩
      obtain ⟨m, hm⟩ : ∃ m : Nat, (m : Int) = k / 32 := ⟨(k / 32).toNat, by omega⟩
      have hk : k.toNat = 32 * m + s := by omega
      have hs32 : s < 32 := by omega
      simp (disch := omega) only [STEP, Px.A.ev, List.map_cons, List.map_nil, List.getD_cons_zero, List.getD_cons_succ, List.cons_append, List.nil_append, List.append_nil, Option.isSome_some, Option.getD_some, true_and, Int.sub_zero, Int.toNat_zero, List.drop_zero, Int.toNat_natCast, ← hm]
      refine call_step (c1 a ha (by omega)) rfl ?_
      have l1 := limbs_len_le ha
      have wa := WL_limbs (val a)
      have va := val_limbs (val a)
      simp only [nn]
      rw [hk]
      generalize val a = v at *
      generalize limbs v = A at *
      simp (disch := omega) only [STEP, Px.A.ev, List.map_cons, List.map_nil, List.getD_cons_zero, List.getD_cons_succ, List.cons_append, List.nil_append, List.append_nil, Option.isSome_some, Option.getD_some, true_and, Int.sub_zero, Int.toNat_zero, List.drop_zero, Int.toNat_natCast]
      refine loop_step (fun ds => ∃ (i : Int) (c : Nat) (out : List Nat), ds = [.int .i64 k, .int .u32 (c : Int), nl A, .int .i64 A.length, .int .i64 i, nl out] ∧ 0 ≤ i ∧ i ≤ A.length ∧ c < 2 ^ s ∧ WL out ∧ out.length = m + i.toNat ∧
        val out + 4294967296 ^ (m + i.toNat) * c = 4294967296 ^ m * 2 ^ s * val (A.take i.toNat)) (numf (fun i => (A.length - i).toNat) 4) ?_ ?_ ?_
      · exact ⟨0, 0, _, rfl, by omega, by omega, Nat.two_pow_pos s, WL.rep _, by simp, by simp [val, val_rep]⟩
      · rintro ds ⟨i, c, out, rfl, _⟩; rfl
      · rintro ds ⟨i, c, out, rfl, h0, h1, hc, hw, hlo, hv⟩
        have hcs : 2 ^ s < 4294967296 := Nat.pow_lt_pow_right (a := 2) (m := s) (n := 32) (by omega) hs32
        have hcB : c < 4294967296 := Nat.lt_trans hc hcs
        simp (disch := omega) only [STEP, Px.A.ev, List.map_cons, List.map_nil, List.getD_cons_zero, List.getD_cons_succ, List.cons_append, List.nil_append, List.append_nil, Option.isSome_some, Option.getD_some, true_and, Int.sub_zero, Int.toNat_zero, List.drop_zero, Int.toNat_natCast]
        refine ite_step rfl ?_ ?_
        · intro hi
          have hx := wa.getD i.toNat
          obtain ⟨g1, g2, g3⟩ := shl_digit hs32 hx hc
          have gm := Nat.mod_lt ((A.getD i.toNat 0) * 2 ^ s + c) (show 0 < 4294967296 by decide)
          have gd := Nat.div_add_mod ((A.getD i.toNat 0) * 2 ^ s + c) 4294967296
          have e1 : Prim.den (.bin .or) [.int .u32 ((A.getD i.toNat 0 * 2 ^ s % 4294967296 : Nat) : Int), .int .u32 (c : Int)] = some (.int .u32 (((A.getD i.toNat 0 * 2 ^ s + c) % 4294967296 : Nat) : Int)) := by
            rw [den_or32 _ _ (Nat.mod_lt _ (by decide)) hcB, g1]
          have e2 : Prim.den (.bin .shr) [.int .u64 ((A.getD i.toNat 0 : Nat) : Int), .int .i64 (32 - (s : Int))] = some (.int .u64 (((A.getD i.toNat 0 * 2 ^ s + c) / 4294967296 : Nat) : Int)) := by
            rw [d_shrn (by omega) (by omega) (by omega), ← g2, show (32 - (s : Int)).toNat = 32 - s by omega]; simp
          have e3 : Prim.den (.conv .u32) [.int .u64 (((A.getD i.toNat 0 * 2 ^ s + c) / 4294967296 : Nat) : Int)] = some (.int .u32 (((A.getD i.toNat 0 * 2 ^ s + c) / 4294967296 : Nat) : Int)) := by
            have g4 : 2 ^ s < 4294967296 := hcs
            exact d_conv32' (Int.natCast_nonneg _) (by have := Nat.lt_trans g3 g4
                                                       omega)
          have e4 : Prim.den (.bin .shl) [.int .u32 ((A.getD i.toNat 0 : Nat) : Int), .int .i64 (s : Int)] = _ := d_shlx (k' := .i64) (x := A.getD i.toNat 0) hs32
          simp (disch := omega) only [STEP, Px.A.ev, List.map_cons, List.map_nil, List.getD_cons_zero, List.getD_cons_succ, List.cons_append, List.nil_append, List.append_nil, Option.isSome_some, Option.getD_some, true_and, Int.sub_zero, Int.toNat_zero, List.drop_zero, Int.toNat_natCast, ← hs, e1, e2, e3, e4]
          refine jump_step rfl ⟨⟨_, _, _, rfl, by omega, by omega, g3, hw.append (WL.single gm), by simp [hlo]; omega, ?_⟩, ?_⟩
          · rw [show (i + 1).toNat = i.toNat + 1 by omega, val_take_getD, val_snoc, hlo, ← Nat.add_assoc, Nat.pow_succ]
            have := shl_step (x := A.getD i.toNat 0) (s := 2 ^ s) hv (by rw [Nat.mul_comm]; exact gd)
            rw [this, Nat.pow_add]
            grind
          · show (A.length - (i + 1) : Int).toNat < (A.length - i : Int).toNat
            omega
        · intro hi
          simp (disch := omega) only [STEP, Px.A.ev, List.map_cons, List.map_nil, List.getD_cons_zero, List.getD_cons_succ, List.cons_append, List.nil_append, List.append_nil, Option.isSome_some, Option.getD_some, true_and, Int.sub_zero, Int.toNat_zero, List.drop_zero, Int.toNat_natCast]
          have hw' := hw.append (WL.single hcB)
          have hv' : val (out ++ [c]) = v * 2 ^ (32 * m + s) := by
            rw [val_snoc, hlo, hv, val_take_all (by omega), va, Nat.pow_add, Nat.pow_mul, show (2 : Nat) ^ 32 = 4294967296 from rfl]
            grind
          have hl' : (out ++ [c]).length ≤ 4398046600000 := by simp; omega
          rw [← hv']
          generalize out ++ [c] = o at *
          refine loop_step (fun ds => ∃ n : Int, ds = [.int .i64 n, .int .i64 k, .int .u32 (c : Int), nl o] ∧ 0 ≤ n ∧ n ≤ o.length ∧ val (o.take n.toNat) = val o) (num 0) ?_ ?_ ?_
          · exact ⟨o.length, rfl, by omega, by omega, by simp⟩
          · rintro ds ⟨n, rfl, _⟩; rfl
          · rintro ds ⟨n, rfl, h0, hn, hv⟩
            simp (disch := omega) only [STEP, Px.A.ev, List.map_cons, List.map_nil, List.getD_cons_zero, List.getD_cons_succ, List.cons_append, List.nil_append, List.append_nil, Option.isSome_some, Option.getD_some, true_and, Int.sub_zero, Int.toNat_zero, List.drop_zero, Int.toNat_natCast]
            refine ite_step rfl ?_ ?_
            · intro hb
              simp (disch := omega) only [STEP, Px.A.ev, List.map_cons, List.map_nil, List.getD_cons_zero, List.getD_cons_succ, List.cons_append, List.nil_append, List.append_nil, Option.isSome_some, Option.getD_some, true_and, Int.sub_zero, Int.toNat_zero, List.drop_zero, Int.toNat_natCast]
              refine ite_step rfl ?_ ?_
              · intro hz
                simp (disch := omega) only [STEP, Px.A.ev, List.map_cons, List.map_nil, List.getD_cons_zero, List.getD_cons_succ, List.cons_append, List.nil_append, List.append_nil, Option.isSome_some, Option.getD_some, true_and, Int.sub_zero, Int.toNat_zero, List.drop_zero, Int.toNat_natCast]
                refine jump_step rfl ⟨⟨_, rfl, by omega, by omega, ?_⟩, ?_⟩
                · rw [val_cut (by omega) (by omega), ← hv]; congr 2; omega
                · show (n - 1).toNat < n.toNat; omega
              · intro hz
                simp (disch := omega) only [STEP, Px.A.ev, List.map_cons, List.map_nil, List.getD_cons_zero, List.getD_cons_succ, List.cons_append, List.nil_append, List.append_nil, Option.isSome_some, Option.getD_some, true_and, Int.sub_zero, Int.toNat_zero, List.drop_zero, Int.toNat_natCast]
                refine ret_step ?_
                show [AV.own 1 TU32 (o.take n.toNat).length (ul (o.take n.toNat)), AV.one (.bool true)] = _
                rw [limbs_of_take hw' (by omega) hv (.inr (by rw [show n.toNat - 1 = (n - 1).toNat by omega]; omega))]
            · intro hb
              simp (disch := omega) only [STEP, Px.A.ev, List.map_cons, List.map_nil, List.getD_cons_zero, List.getD_cons_succ, List.cons_append, List.nil_append, List.append_nil, Option.isSome_some, Option.getD_some, true_and, Int.sub_zero, Int.toNat_zero, List.drop_zero, Int.toNat_natCast]
              refine ret_step ?_
              show [AV.own 1 TU32 (o.take n.toNat).length (ul (o.take n.toNat)), AV.one (.bool true)] = _
              rw [limbs_of_take hw' (by omega) hv (.inl (by omega))]

def CLong (P : Program) : Prop := ∀ m n : Nat, (limbs m).length ≤ 4398000000000 → n ≤ m → 2 ≤ (limbs n).length → PureCalls P F.nat_long [.one (nn m), .one (nn n)] [.one (nn (m / n)), .one (nn (m % n))]

def divRes (m n : Nat) : List AV := if n = 0 then [.one (nl []), .one (nl []), .one (.bool false)] else [.one (nn (m / n)), .one (nn (m % n)), .one (.bool true)]
def CDivMod (P : Program) : Prop := ∀ a b, WF a → WF b → PureCalls P F.nat_DivMod [.one (nl a), .one (nl b)] (divRes (val a) (val b))
theorem w_divmod (c1 : CTrim P) (c2 : CCmp P) (c3 : CNorm P) (c4 : CSmall P) (c5 : CLong P) {a b : List Nat} (ha : WF a) (hb : WF b) : IRwp P [] [nl a, nl b] ir_nat_DivMod (· = divRes (val a) (val b)) := by
  obtain ⟨ha, hla⟩ := ha
  obtain ⟨hb, hlb⟩ := hb
  unfold ir_nat_DivMod
  refine call_step (c1 a ha (by omega)) rfl ?_
  refine call_step (c1 b hb (by omega)) rfl ?_
  have l1 := limbs_len_le ha
  have l2 := limbs_len_le hb
  generalize val a = m at *
  generalize val b = n at *
  have wm : WF (limbs m) := ⟨WL_limbs m, by omega⟩
  have wn : WF (limbs n) := ⟨WL_limbs n, by omega⟩
  simp only [nn]
  simp (disch := omega) only [STEP, Px.A.ev, List.map_cons, List.map_nil, List.getD_cons_zero, List.getD_cons_succ, List.cons_append, List.nil_append, List.append_nil, Option.isSome_some, Option.getD_some, true_and, Int.sub_zero, Int.toNat_zero, List.drop_zero, Int.toNat_natCast]
  refine ite_step rfl ?_ ?_
  · intro h
    have : n = 0 := limbs_eq_nil.1 (List.eq_nil_of_length_eq_zero (by omega))
    unfold divRes; rw [if_pos this]
    exact ret_step rfl
  · intro h
    have hn : n ≠ 0 := fun hz => by rw [hz, limbs_zero] at h; simp at h
    have hr : divRes m n = [.one (nn (m / n)), .one (nn (m % n)), .one (.bool true)] := by unfold divRes; rw [if_neg hn]
    rw [hr]
    refine call_step (c2 _ _ wm wn) rfl ?_
    simp (disch := omega) only [STEP, Px.A.ev, List.map_cons, List.map_nil, List.getD_cons_zero, List.getD_cons_succ, List.cons_append, List.nil_append, List.append_nil, Option.isSome_some, Option.getD_some, true_and, Int.sub_zero, Int.toNat_zero, List.drop_zero, Int.toNat_natCast]
    refine ite_step rfl ?_ ?_
    · intro h
      have hlt : m < n := by unfold cmpI at h; split at h <;> first | assumption | (split at h <;> omega)
      refine call_step (c3 _ wm) rfl ?_
      rw [Nat.div_eq_of_lt hlt, Nat.mod_eq_of_lt hlt]
      refine ret_step ?_
      show [AV.one (nl []), AV.one (nn (val (limbs m))), AV.one (.bool true)] = _
      rw [val_limbs]; unfold nn; rw [limbs_zero]
    · intro h
      have hge : n ≤ m := by unfold cmpI at h; split at h <;> omega
      simp (disch := omega) only [STEP, Px.A.ev, List.map_cons, List.map_nil, List.getD_cons_zero, List.getD_cons_succ, List.cons_append, List.nil_append, List.append_nil, Option.isSome_some, Option.getD_some, true_and, Int.sub_zero, Int.toNat_zero, List.drop_zero, Int.toNat_natCast]
      refine ite_step rfl ?_ ?_
      · intro h1
        simp (disch := omega) only [STEP, Px.A.ev, List.map_cons, List.map_nil, List.getD_cons_zero, List.getD_cons_succ, List.cons_append, List.nil_append, List.append_nil, Option.isSome_some, Option.getD_some, true_and, Int.sub_zero, Int.toNat_zero, List.drop_zero, Int.toNat_natCast]
        have hv : val (limbs n) = (limbs n).getD (Int.toNat 0) 0 := by
          match hl : limbs n with
          | [] => rw [hl] at h1; simp at h1
          | [x] => simp [val_single]
          | x :: y :: r => rw [hl] at h1; simp at h1; omega
        rw [val_limbs] at hv
        have h4 := c4 (limbs m) n wm (by omega) (by rw [hv]; exact wn.1.getD _)
        have e : (((limbs n).getD (Int.toNat 0) 0 : Nat) : Int) = (n : Int) := by rw [← hv]
        rw [← e] at h4
        refine call_step h4 rfl ?_
        refine ret_step ?_
        show [AV.one (nn (val (limbs m) / n)), AV.one (nn (val (limbs m) % n)), AV.one (.bool true)] = _
        rw [val_limbs]
      · intro h1
        refine call_step (c5 m n (by omega) hge (by omega)) rfl ?_
        exact ret_step rfl

end Go.Px.Na

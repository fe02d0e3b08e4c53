/- Wn1: naturals: trim, Clone, Norm, Of, Len32, LeadingZeros32, Bits. -/
import Derived.Test.YtgnhhdgepnfnmaaNa3
import Derived.Test.YtgnhhdgepnfnmaaIr
set_option maxRecDepth 10000
set_option linter.unusedSimpArgs false
set_option linter.unusedVariables false
namespace Go.Px.Na
open Go.RowKit
variable {P : Program}

def WF (a : List Nat) : Prop := WL a ∧ a.length ≤ 4398000000000
def CTrim (P : Program) : Prop := ∀ a, WL a → a.length ≤ 17592186044416 → PureCalls P F.nat_trim [.one (nl a)] [.one (nn (val a))]
def CClone (P : Program) : Prop := ∀ a, a.length ≤ 17592186044416 → PureCalls P F.slices_Clone___uint32_uint32_ [.one (nl a)] [.one (nl a)]
def CNorm (P : Program) : Prop := ∀ a, WF a → PureCalls P F.nat_Norm [.one (nl a)] [.one (nn (val a))]
def COf (P : Program) : Prop := ∀ n : Nat, n < 18446744073709551616 → PureCalls P F.nat_Of [.one (.int .u64 (n : Int))] [.one (nn n)]

theorem w_trim {a : List Nat} (h : WL a) (hl : a.length ≤ 17592186044416) : IRwp P [] [nl a] ir_nat_trim (· = [.one (nn (val a))]) := by
  unfold ir_nat_trim
  simp (disch := omega) only [STEP, Px.A.ev, List.map_cons, List.map_nil, List.getD_cons_zero, List.getD_cons_succ, List.cons_append, List.nil_append, List.append_nil, Option.isSome_some, Option.getD_some, true_and, Int.sub_zero, Int.toNat_zero, List.drop_zero, Int.toNat_natCast]
  refine loop_step (fun ds => ∃ n : Int, ds = [nl a, .int .i64 n] ∧ 0 ≤ n ∧ n ≤ a.length ∧ val (a.take n.toNat) = val a) (num 1) ?_ ?_ ?_
  · exact ⟨a.length, rfl, by omega, by omega, by simp⟩
  · rintro ds ⟨n, rfl, _⟩; rfl
  · rintro ds ⟨n, rfl, h0, hn, hv⟩
    simp (disch := omega) only [STEP, Px.A.ev, List.map_cons, List.map_nil, List.getD_cons_zero, List.getD_cons_succ, List.cons_append, List.nil_append, List.append_nil, Option.isSome_some, Option.getD_some, true_and, Int.sub_zero, Int.toNat_zero, List.drop_zero, Int.toNat_natCast]
    refine ite_step rfl ?_ ?_
    · intro hb
      simp (disch := omega) only [STEP, Px.A.ev, List.map_cons, List.map_nil, List.getD_cons_zero, List.getD_cons_succ, List.cons_append, List.nil_append, List.append_nil, Option.isSome_some, Option.getD_some, true_and, Int.sub_zero, Int.toNat_zero, List.drop_zero, Int.toNat_natCast]
      refine ite_step rfl ?_ ?_
      · intro hz
        simp (disch := omega) only [STEP, Px.A.ev, List.map_cons, List.map_nil, List.getD_cons_zero, List.getD_cons_succ, List.cons_append, List.nil_append, List.append_nil, Option.isSome_some, Option.getD_some, true_and, Int.sub_zero, Int.toNat_zero, List.drop_zero, Int.toNat_natCast]
        refine jump_step rfl ⟨⟨_, rfl, by omega, by omega, ?_⟩, ?_⟩
        · rw [val_cut (by omega) (by omega), ← hv]; congr 2; omega
        · show (n - 1).toNat < n.toNat; omega
      · intro hz
        simp (disch := omega) only [STEP, Px.A.ev, List.map_cons, List.map_nil, List.getD_cons_zero, List.getD_cons_succ, List.cons_append, List.nil_append, List.append_nil, Option.isSome_some, Option.getD_some, true_and, Int.sub_zero, Int.toNat_zero, List.drop_zero, Int.toNat_natCast]
        refine ret_step ?_
        show [AV.one (nl (a.take n.toNat))] = _
        rw [limbs_of_take h (by omega) hv (.inr ?_)]; rfl
        rw [show n.toNat - 1 = (n - 1).toNat by omega]; omega
    · intro hb
      simp (disch := omega) only [STEP, Px.A.ev, List.map_cons, List.map_nil, List.getD_cons_zero, List.getD_cons_succ, List.cons_append, List.nil_append, List.append_nil, Option.isSome_some, Option.getD_some, true_and, Int.sub_zero, Int.toNat_zero, List.drop_zero, Int.toNat_natCast]
      refine ret_step ?_
      show [AV.one (nl (a.take n.toNat))] = _
      rw [limbs_of_take h (by omega) hv (.inl (by omega))]; rfl

theorem w_clone {a : List Nat} (hl : a.length ≤ 17592186044416) : IRwp P [] [nl a] ir_slices_Clone___uint32_uint32_ (· = [.one (nl a)]) := by
  unfold ir_slices_Clone___uint32_uint32_
  refine nilq_step (n := a.length) (cells := ul a) rfl fun b hb => ?_
  simp (disch := omega) only [STEP, Px.A.ev, List.map_cons, List.map_nil, List.getD_cons_zero, List.getD_cons_succ, List.cons_append, List.nil_append, List.append_nil, Option.isSome_some, Option.getD_some, true_and, Int.sub_zero, Int.toNat_zero, List.drop_zero, Int.toNat_natCast]
  refine itb_step rfl ?_ ?_
  · intro hb'
    refine ret_step ?_
    have : a = [] := by simpa [ul] using hb hb'
    subst this; rfl
  · intro hb'
    simp (disch := omega) only [STEP, Px.A.ev, List.map_cons, List.map_nil, List.getD_cons_zero, List.getD_cons_succ, List.cons_append, List.nil_append, List.append_nil, Option.isSome_some, Option.getD_some, true_and, Int.sub_zero, Int.toNat_zero, List.drop_zero, Int.toNat_natCast]
    exact ret_step rfl

theorem w_norm (c1 : CTrim P) (c2 : CClone P) {a : List Nat} (h : WF a) : IRwp P [] [nl a] ir_nat_Norm (· = [.one (nn (val a))]) := by
  obtain ⟨h, hl⟩ := h
  unfold ir_nat_Norm
  refine call_step (c1 a h (by omega)) rfl ?_
  have := limbs_len_le h
  refine call_step (c2 (limbs (val a)) (by omega)) rfl ?_
  exact ret_step rfl

theorem w_of (c1 : CNorm P) {n : Nat} (h : n < 18446744073709551616) : IRwp P [] [.int .u64 (n : Int)] ir_nat_Of (· = [.one (nn n)]) := by
  unfold ir_nat_Of
  have e1 : Prim.den (.conv .u32) [.int .u64 (n : Int)] = some (.int .u32 ((n % 4294967296 : Nat) : Int)) := by rw [d_conv32]; rfl
  have e2 : Prim.den (.bin .shr) [.int .u64 (n : Int), .int .u64 32] = some (.int .u64 ((n / 4294967296 : Nat) : Int)) := by rw [d_shr32 rfl]; rfl
  have e3 : Prim.den (.conv .u32) [.int .u64 ((n / 4294967296 : Nat) : Int)] = some (.int .u32 ((n / 4294967296 : Nat) : Int)) := d_conv32' (by omega) (by omega)
  simp (disch := omega) only [STEP, Px.A.ev, List.map_cons, List.map_nil, List.getD_cons_zero, List.getD_cons_succ, List.cons_append, List.nil_append, List.append_nil, Option.isSome_some, Option.getD_some, true_and, Int.sub_zero, Int.toNat_zero, List.drop_zero, Int.toNat_natCast, e1, e2, e3]
  refine call_step (c1 [n % 4294967296, n / 4294967296] ⟨WL.cons (by omega) (WL.single (by omega)), by simp⟩) rfl ?_
  refine ret_step ?_
  show [AV.one (nn (val _))] = _
  congr 3
  simp only [val]; omega

/-! ### Bits -/
def nbits (n : Nat) : Nat := if n = 0 then 0 else Nat.log2 n + 1
theorem nbits_eq {n k : Nat} (h1 : 2 ^ k ≤ n) (h2 : n < 2 ^ (k + 1)) : nbits n = k + 1 := by
  have hn : n ≠ 0 := by have := Nat.two_pow_pos k; omega
  have g1 := (Nat.le_log2 hn).2 h1
  have g2 := (Nat.log2_lt hn).2 h2
  simp [nbits, hn]; omega
theorem nbits_spec {n : Nat} (hn : n ≠ 0) : ∃ k, nbits n = k + 1 ∧ 2 ^ k ≤ n ∧ n < 2 ^ (k + 1) :=
  ⟨n.log2, by simp [nbits, hn], Nat.log2_self_le hn, Nat.lt_log2_self⟩
theorem nbits_le {n k : Nat} (h : n < 2 ^ k) : nbits n ≤ k := by
  by_cases hn : n = 0
  · simp [nbits, hn]
  · have := (Nat.log2_lt hn).2 h
    simp [nbits, hn]; omega
theorem nbits_shift {n k : Nat} (h : n / 2 ^ k ≠ 0) : nbits n = k + nbits (n / 2 ^ k) := by
  obtain ⟨j, h1, h2, h3⟩ := nbits_spec h
  rw [h1]
  have := Nat.two_pow_pos k
  refine nbits_eq (k := k + j) ?_ ?_
  · rw [Nat.pow_add, Nat.mul_comm]; exact (Nat.le_div_iff_mul_le this).1 h2
  · rw [show k + j + 1 = (j + 1) + k by omega, Nat.pow_add]; exact (Nat.div_lt_iff_lt_mul this).1 h3
theorem nbits_limbs {n : Nat} (hn : n ≠ 0) : nbits n = 32 * ((limbs n).length - 1) + nbits ((limbs n).getD ((limbs n).length - 1) 0) ∧ (limbs n).getD ((limbs n).length - 1) 0 ≠ 0 := by
  have hc : (limbs n).getD ((limbs n).length - 1) 0 ≠ 0 := by
    rcases canon_limbs n with h | h
    · exact absurd (limbs_eq_nil.1 h) hn
    · exact h
  have hp := limbs_len_pos hn
  have hv := val_take_drop (limbs n) ((limbs n).length - 1)
  rw [val_limbs] at hv
  have h2 := val_getD_drop (limbs n) ((limbs n).length - 1)
  have h2' : val (List.drop ((limbs n).length - 1 + 1) (limbs n)) = 0 := by rw [List.drop_eq_nil_of_le (by omega)]; rfl
  rw [h2'] at h2
  have h3 : (List.take ((limbs n).length - 1) (limbs n)).length = (limbs n).length - 1 := by simp
  have h4 := val_lt ((WL_limbs n).take ((limbs n).length - 1))
  rw [h3] at hv h4
  simp only [Nat.mul_zero, Nat.add_zero] at h2
  rw [h2] at hv
  have e : (4294967296 : Nat) ^ ((limbs n).length - 1) = 2 ^ (32 * ((limbs n).length - 1)) := by rw [Nat.pow_mul]
  have hd : n / 2 ^ (32 * ((limbs n).length - 1)) = (limbs n).getD ((limbs n).length - 1) 0 := by
    have gen : ∀ A B C : Nat, 0 < B → A < B → (A + B * C) / B = C := fun A B C hB hA => by rw [Nat.add_mul_div_left _ _ hB, Nat.div_eq_of_lt hA, Nat.zero_add]
    rw [← e]
    exact (congrArg (· / 4294967296 ^ ((limbs n).length - 1)) hv).trans (gen _ _ _ (Nat.pow_pos (by omega)) h4)
  refine ⟨?_, hc⟩
  rw [← hd]
  exact nbits_shift (by rw [hd]; exact hc)

def tab : List Nat := [0, 1, 2, 2, 3, 3, 3, 3, 4, 4, 4, 4, 4, 4, 4, 4, 5, 5, 5, 5, 5, 5, 5, 5, 5, 5, 5, 5, 5, 5, 5, 5, 6, 6, 6, 6, 6, 6, 6, 6, 6, 6, 6, 6, 6, 6, 6, 6, 6, 6, 6, 6, 6, 6, 6, 6, 6, 6, 6, 6, 6, 6, 6, 6, 7, 7, 7, 7, 7, 7, 7, 7, 7, 7, 7, 7, 7, 7, 7, 7, 7, 7, 7, 7, 7, 7, 7, 7, 7, 7, 7, 7, 7, 7, 7, 7, 7, 7, 7, 7, 7, 7, 7, 7, 7, 7, 7, 7, 7, 7, 7, 7, 7, 7, 7, 7, 7, 7, 7, 7, 7, 7, 7, 7, 7, 7, 7, 7, 8, 8, 8, 8, 8, 8, 8, 8, 8, 8, 8, 8, 8, 8, 8, 8, 8, 8, 8, 8, 8, 8, 8, 8, 8, 8, 8, 8, 8, 8, 8, 8, 8, 8, 8, 8, 8, 8, 8, 8, 8, 8, 8, 8, 8, 8, 8, 8, 8, 8, 8, 8, 8, 8, 8, 8, 8, 8, 8, 8, 8, 8, 8, 8, 8, 8, 8, 8, 8, 8, 8, 8, 8, 8, 8, 8, 8, 8, 8, 8, 8, 8, 8, 8, 8, 8, 8, 8, 8, 8, 8, 8, 8, 8, 8, 8, 8, 8, 8, 8, 8, 8, 8, 8, 8, 8, 8, 8, 8, 8, 8, 8, 8, 8, 8, 8, 8, 8, 8, 8, 8, 8, 8, 8, 8, 8, 8, 8]
theorem tab_get : ∀ i : Fin 256, tab[i.val]? = some (nbits i.val) := by decide
theorem d_chr {k : IntKind} {i : Int} (h0 : 0 ≤ i) (h1 : i < 256) : Prim.den (.chr [0, 1, 2, 2, 3, 3, 3, 3, 4, 4, 4, 4, 4, 4, 4, 4, 5, 5, 5, 5, 5, 5, 5, 5, 5, 5, 5, 5, 5, 5, 5, 5, 6, 6, 6, 6, 6, 6, 6, 6, 6, 6, 6, 6, 6, 6, 6, 6, 6, 6, 6, 6, 6, 6, 6, 6, 6, 6, 6, 6, 6, 6, 6, 6, 7, 7, 7, 7, 7, 7, 7, 7, 7, 7, 7, 7, 7, 7, 7, 7, 7, 7, 7, 7, 7, 7, 7, 7, 7, 7, 7, 7, 7, 7, 7, 7, 7, 7, 7, 7, 7, 7, 7, 7, 7, 7, 7, 7, 7, 7, 7, 7, 7, 7, 7, 7, 7, 7, 7, 7, 7, 7, 7, 7, 7, 7, 7, 7, 8, 8, 8, 8, 8, 8, 8, 8, 8, 8, 8, 8, 8, 8, 8, 8, 8, 8, 8, 8, 8, 8, 8, 8, 8, 8, 8, 8, 8, 8, 8, 8, 8, 8, 8, 8, 8, 8, 8, 8, 8, 8, 8, 8, 8, 8, 8, 8, 8, 8, 8, 8, 8, 8, 8, 8, 8, 8, 8, 8, 8, 8, 8, 8, 8, 8, 8, 8, 8, 8, 8, 8, 8, 8, 8, 8, 8, 8, 8, 8, 8, 8, 8, 8, 8, 8, 8, 8, 8, 8, 8, 8, 8, 8, 8, 8, 8, 8, 8, 8, 8, 8, 8, 8, 8, 8, 8, 8, 8, 8, 8, 8, 8, 8, 8, 8, 8, 8, 8, 8, 8, 8, 8, 8, 8, 8, 8, 8]) [.int k i] = some (.int .u8 (nbits i.toNat : Int)) := by
  have := tab_get ⟨i.toNat, by omega⟩
  simp only at this
  show (if 0 ≤ i then (tab[i.toNat]?).map fun (x : Nat) => DV.int .u8 (x : Int) else none) = _
  rw [if_pos h0, this]; rfl
theorem d_conv8 {k : IntKind} {a : Int} (h0 : 0 ≤ a) (h1 : a < 256) : Prim.den (.conv .u8) [.int k a] = some (.int .u8 a) := by
  have : IntKind.u8.wrap a = a := by simp [IntKind.wrap, IntKind.bits, IntKind.signed]; omega
  simp [Prim.den, this]
theorem d_shrk {k k' : IntKind} {a s c : Int} (hs : 0 ≤ s) (hc : (2 : Int) ^ (min s.toNat k.bits) = c) (h0 : 0 ≤ a) (hcp : 0 ≤ c) : Prim.den (.bin .shr) [.int k a, .int k' s] = some (.int k (a / c)) := by
  simp only [Prim.den, Prim.bin1, binInt]
  rw [if_neg (by omega), hc, Int.fdiv_eq_ediv_of_nonneg _ hcp]
theorem d_shr8 {k' : IntKind} {a : Int} (h0 : 0 ≤ a) : Prim.den (.bin .shr) [.int .u32 a, .int k' 8] = some (.int .u32 (a / 256)) := d_shrk (by omega) (by decide) h0 (by omega)
theorem d_shr16 {k' : IntKind} {a : Int} (h0 : 0 ≤ a) : Prim.den (.bin .shr) [.int .u32 a, .int k' 16] = some (.int .u32 (a / 65536)) := d_shrk (by omega) (by decide) h0 (by omega)
theorem d_nb {m : Nat} {c : Int} (h : m < 256) (hc0 : 0 ≤ c) (hc : c ≤ 24) : Prim.den (.bin .add) [.int .i64 c, .int .i64 (nbits m : Int)] = some (.int .i64 (c + (nbits m : Int))) := by
  have := nbits_le (n := m) (k := 8) (by omega)
  exact d_add64 (by omega) (by omega)
theorem d_nbc {m : Nat} (h : m < 256) : Prim.den (.conv .i64) [.int .u8 (nbits m : Int)] = some (.int .i64 (nbits m : Int)) := by
  have := nbits_le (n := m) (k := 8) (by omega)
  exact d_convi (by omega) (by omega)

def CLen32 (P : Program) : Prop := ∀ x : Nat, x < 4294967296 → PureCalls P F.math_bits_Len32 [.one (.int .u32 (x : Int))] [.one (.int .i64 (nbits x : Int))]
theorem w_len32 {x : Nat} (h : x < 4294967296) : IRwp P [] [.int .u32 (x : Int)] ir_math_bits_Len32 (· = [.one (.int .i64 (nbits x : Int))]) := by
  unfold ir_math_bits_Len32
  have key : ∀ (c : Nat) (y : Int) (m : Nat), y = ((x / 2 ^ c : Nat) : Int) → m = c → (c = 0 ∨ x / 2 ^ c ≠ 0) → [AV.one (.int .i64 ((m : Int) + (nbits y.toNat : Int)))] = [AV.one (.int .i64 (nbits x : Int))] := by
    intro c y m hy hm hc
    subst hm
    rw [hy, Int.toNat_natCast]
    rcases hc with rfl | hc
    · simp
    · rw [nbits_shift hc]; simp
  simp (disch := omega) only [STEP, Px.A.ev, List.map_cons, List.map_nil, List.getD_cons_zero, List.getD_cons_succ, List.cons_append, List.nil_append, List.append_nil, Option.isSome_some, Option.getD_some, true_and, Int.sub_zero, Int.toNat_zero, List.drop_zero, Int.toNat_natCast]
  refine ite_step rfl ?_ ?_
  · intro h1
    simp (disch := omega) only [STEP, Px.A.ev, List.map_cons, List.map_nil, List.getD_cons_zero, List.getD_cons_succ, List.cons_append, List.nil_append, List.append_nil, Option.isSome_some, Option.getD_some, true_and, Int.sub_zero, Int.toNat_zero, List.drop_zero, Int.toNat_natCast, d_shr16]
    refine ite_step rfl ?_ ?_
    · intro h2
      simp (disch := omega) only [STEP, Px.A.ev, List.map_cons, List.map_nil, List.getD_cons_zero, List.getD_cons_succ, List.cons_append, List.nil_append, List.append_nil, Option.isSome_some, Option.getD_some, true_and, Int.sub_zero, Int.toNat_zero, List.drop_zero, Int.toNat_natCast, d_shr8, d_conv8, d_chr, d_nb, d_nbc]
      exact ret_step (key 24 _ 24 (by omega) rfl (by omega))
    · intro h2
      simp (disch := omega) only [STEP, Px.A.ev, List.map_cons, List.map_nil, List.getD_cons_zero, List.getD_cons_succ, List.cons_append, List.nil_append, List.append_nil, Option.isSome_some, Option.getD_some, true_and, Int.sub_zero, Int.toNat_zero, List.drop_zero, Int.toNat_natCast, d_shr8, d_conv8, d_chr, d_nb, d_nbc]
      exact ret_step (key 16 _ 16 (by omega) rfl (by omega))
  · intro h1
    simp (disch := omega) only [STEP, Px.A.ev, List.map_cons, List.map_nil, List.getD_cons_zero, List.getD_cons_succ, List.cons_append, List.nil_append, List.append_nil, Option.isSome_some, Option.getD_some, true_and, Int.sub_zero, Int.toNat_zero, List.drop_zero, Int.toNat_natCast]
    refine ite_step rfl ?_ ?_
    · intro h2
      simp (disch := omega) only [STEP, Px.A.ev, List.map_cons, List.map_nil, List.getD_cons_zero, List.getD_cons_succ, List.cons_append, List.nil_append, List.append_nil, Option.isSome_some, Option.getD_some, true_and, Int.sub_zero, Int.toNat_zero, List.drop_zero, Int.toNat_natCast, d_shr8, d_conv8, d_chr, d_nb, d_nbc]
      exact ret_step (key 8 _ 8 (by omega) rfl (by omega))
    · intro h2
      simp (disch := omega) only [STEP, Px.A.ev, List.map_cons, List.map_nil, List.getD_cons_zero, List.getD_cons_succ, List.cons_append, List.nil_append, List.append_nil, Option.isSome_some, Option.getD_some, true_and, Int.sub_zero, Int.toNat_zero, List.drop_zero, Int.toNat_natCast, d_shr8, d_conv8, d_chr, d_nb, d_nbc]
      exact ret_step (by show [AV.one (.int .i64 (0 + (nbits x : Int)))] = _; simp)

def CLz (P : Program) : Prop := ∀ x : Nat, x < 4294967296 → PureCalls P F.math_bits_LeadingZeros32 [.one (.int .u32 (x : Int))] [.one (.int .i64 (32 - (nbits x : Int)))]
theorem w_lz (c : CLen32 P) {x : Nat} (h : x < 4294967296) : IRwp P [] [.int .u32 (x : Int)] ir_math_bits_LeadingZeros32 (· = [.one (.int .i64 (32 - (nbits x : Int)))]) := by
  unfold ir_math_bits_LeadingZeros32
  have := nbits_le (n := x) (k := 32) (by omega)
  refine call_step (c x h) rfl ?_
  simp (disch := omega) only [STEP, Px.A.ev, List.map_cons, List.map_nil, List.getD_cons_zero, List.getD_cons_succ, List.cons_append, List.nil_append, List.append_nil, Option.isSome_some, Option.getD_some, true_and, Int.sub_zero, Int.toNat_zero, List.drop_zero, Int.toNat_natCast]
  exact ret_step rfl

def CBits (P : Program) : Prop := ∀ a, WF a → PureCalls P F.nat_Bits [.one (nl a)] [.one (.int .i64 (nbits (val a) : Int))]
theorem w_bits (c1 : CTrim P) (c2 : CLz P) {a : List Nat} (h : WF a) : IRwp P [] [nl a] ir_nat_Bits (· = [.one (.int .i64 (nbits (val a) : Int))]) := by
  obtain ⟨h, hl⟩ := h
  unfold ir_nat_Bits
  refine call_step (c1 a h (by omega)) rfl ?_
  have hl' := limbs_len_le h
  simp only [nn]
  simp (disch := omega) only [STEP, Px.A.ev, List.map_cons, List.map_nil, List.getD_cons_zero, List.getD_cons_succ, List.cons_append, List.nil_append, List.append_nil, Option.isSome_some, Option.getD_some, true_and, Int.sub_zero, Int.toNat_zero, List.drop_zero, Int.toNat_natCast]
  refine ite_step rfl ?_ ?_
  · intro h0
    have : val a = 0 := limbs_eq_nil.1 (List.eq_nil_of_length_eq_zero (by omega))
    rw [this]
    exact ret_step rfl
  · intro h0
    simp (disch := omega) only [STEP, Px.A.ev, List.map_cons, List.map_nil, List.getD_cons_zero, List.getD_cons_succ, List.cons_append, List.nil_append, List.append_nil, Option.isSome_some, Option.getD_some, true_and, Int.sub_zero, Int.toNat_zero, List.drop_zero, Int.toNat_natCast]
    have hn : val a ≠ 0 := fun hz => by rw [hz, limbs_zero] at h0; simp at h0
    obtain ⟨e1, e2⟩ := nbits_limbs hn
    have hlt := (WL_limbs (val a)).getD ((limbs (val a)).length - 1)
    have e : ((↑(limbs (val a)).length : Int) - 1).toNat = (limbs (val a)).length - 1 := by omega
    simp only [e]
    have hb := nbits_le (n := (limbs (val a)).getD ((limbs (val a)).length - 1) 0) (k := 32) (by omega)
    refine call_step (c2 _ hlt) rfl ?_
    simp (disch := omega) only [STEP, Px.A.ev, List.map_cons, List.map_nil, List.getD_cons_zero, List.getD_cons_succ, List.cons_append, List.nil_append, List.append_nil, Option.isSome_some, Option.getD_some, true_and, Int.sub_zero, Int.toNat_zero, List.drop_zero, Int.toNat_natCast]
    refine ret_step ?_
    show [AV.one (.int .i64 _)] = [AV.one (.int .i64 _)]
    rw [e1]
    congr 3
    omega

end Go.Px.Na

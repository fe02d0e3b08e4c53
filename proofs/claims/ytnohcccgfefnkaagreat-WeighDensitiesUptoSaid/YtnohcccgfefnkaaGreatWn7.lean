/- Wn1: naturals: trim, Clone, Norm, Of, Len32, LeadingZeros32, Bits. -/
import Derived.Test.YtnohcccgfefnkaaGreatNa3
import Derived.Test.YtnohcccgfefnkaaGreatIr
set_option maxRecDepth 10000
set_option linter.unusedSimpArgs false
set_option linter.unusedVariables false
namespace Go.Px.Na
open Go.RowKit
variable {P : Program}

def WF (a : List Nat) : Prop := WL a ∧ a.length ≤ 4398000000000
def CTrim (P : Program) : Prop := ∀ a, WL a → a.length ≤ 17592186044416 → PureCalls P F.nat_trim [.one (nl a)] [.one (nn (val a))]
def CClone (P : Program) : Prop := ∀ a, a.length ≤ 17592186044416 → PureCalls P F.slices_Clone___uint32_uint32_ [.one (nl a)] [.one (nl a)]
def CNorm (P : Program) : Prop := ∀ a, WF a → PureCalls P F.nat_Norm [.one (nl a)] [.one (nn (val a))]
def COf (P : Program) : Prop := ∀ n : Nat, n < 18446744073709551616 → PureCalls P F.nat_Of [.one (.int .u64 (n : Int))] [.one (nn n)]

theorem w_trim {a : List Nat} (h : WL a) (hl : a.length ≤ 17592186044416) : IRwp P [] [nl a] ir_nat_trim (· = [.one (nn (val a))]) := by
  unfold ir_nat_trim
  simp (disch := omega) only [STP]
  refine loop_step (fun ds => ∃ n : Int, ds = [nl a, .int .i64 n] ∧ 0 ≤ n ∧ n ≤ a.length ∧ val (a.take n.toNat) = val a) (num 1) ?_ ?_ ?_
  · exact ⟨a.length, rfl, by omega, by omega, by simp⟩
  · rintro ds ⟨n, rfl, _⟩; rfl
  · rintro ds ⟨n, rfl, h0, hn, hv⟩
    simp (disch := omega) only [STP]
    refine ite_step rfl ?_ ?_
    · intro hb
      simp (disch := omega) only [STP]
      refine ite_step rfl ?_ ?_
      · intro hz
        simp (disch := omega) only [STP]
        refine jump_step rfl ⟨⟨_, rfl, by omega, by omega, ?_⟩, ?_⟩
        · rw [val_cut (by omega) (by omega), ← hv]; congr 2; omega
        · show (n - 1).toNat < n.toNat; omega
      · intro hz
        simp (disch := omega) only [STP]
        refine ret_step ?_
        show [AV.one (nl (a.take n.toNat))] = _
        rw [limbs_of_take h (by omega) hv (.inr ?_)]; rfl
        rw [show n.toNat - 1 = (n - 1).toNat by omega]; omega
    · intro hb
      simp (disch := omega) only [STP]
      refine ret_step ?_
      show [AV.one (nl (a.take n.toNat))] = _
      rw [limbs_of_take h (by omega) hv (.inl (by omega))]; rfl

theorem w_clone {a : List Nat} (hl : a.length ≤ 17592186044416) : IRwp P [] [nl a] ir_slices_Clone___uint32_uint32_ (· = [.one (nl a)]) := by
  unfold ir_slices_Clone___uint32_uint32_
  refine nilq_step (n := a.length) (cells := ul a) rfl fun b hb => ?_
  simp (disch := omega) only [STP]
  refine itb_step rfl ?_ ?_
  · intro hb'
    refine ret_step ?_
    have : a = [] := by simpa [ul] using hb hb'
    subst this; rfl
  · intro hb'
    simp (disch := omega) only [STP]
    exact ret_step rfl

theorem w_norm (c1 : CTrim P) (c2 : CClone P) {a : List Nat} (h : WF a) : IRwp P [] [nl a] ir_nat_Norm (· = [.one (nn (val a))]) := by
  obtain ⟨h, hl⟩ := h
  unfold ir_nat_Norm
  refine call_step (c1 a h (by omega)) rfl ?_
  have := limbs_len_le h
  refine call_step (c2 (limbs (val a)) (by omega)) rfl ?_
  exact ret_step rfl

theorem w_of (c1 : CNorm P) {n : Nat} (h : n < 18446744073709551616) : IRwp P [] [.int .u64 (n : Int)] ir_nat_Of (· = [.one (nn n)]) := by
  unfold ir_nat_Of
  have e1 : Prim.den (.conv .u32) [.int .u64 (n : Int)] = some (.int .u32 ((n % 4294967296 : Nat) : Int)) := by rw [d_conv32]; rfl
  have e2 : Prim.den (.bin .shr) [.int .u64 (n : Int), .int .u64 32] = some (.int .u64 ((n / 4294967296 : Nat) : Int)) := by rw [d_shr32 rfl]; rfl
  have e3 : Prim.den (.conv .u32) [.int .u64 ((n / 4294967296 : Nat) : Int)] = some (.int .u32 ((n / 4294967296 : Nat) : Int)) := d_conv32' (by omega) (by omega)
  simp (disch := omega) only [STP, e1, e2, e3]
  refine call_step (c1 [n % 4294967296, n / 4294967296] ⟨WL.cons (by omega) (WL.single (by omega)), by simp⟩) rfl ?_
  refine ret_step ?_
  show [AV.one (nn (val _))] = _
  congr 3
  simp only [val]; omega

/-! ### Bits -/
def nbits (n : Nat) : Nat := if n = 0 then 0 else Nat.log2 n + 1
theorem nbits_eq {n k : Nat} (h1 : 2 ^ k ≤ n) (h2 : n < 2 ^ (k + 1)) : nbits n = k + 1 := by
  have hn : n ≠ 0 := by have := Nat.two_pow_pos k; omega
  have g1 := (Nat.le_log2 hn).2 h1
  have g2 := (Nat.log2_lt hn).2 h2
  simp [nbits, hn]; omega
theorem nbits_spec {n : Nat} (hn : n ≠ 0) : ∃ k, nbits n = k + 1 ∧ 2 ^ k ≤ n ∧ n < 2 ^ (k + 1) :=
  ⟨n.log2, by simp [nbits, hn], Nat.log2_self_le hn, Nat.lt_log2_self⟩
theorem nbits_le {n k : Nat} (h : n < 2 ^ k) : nbits n ≤ k := by
  by_cases hn : n = 0
  · simp [nbits, hn]
  · have := (Nat.log2_lt hn).2 h
    simp [nbits, hn]; omega
theorem nbits_shift {n k : Nat} (h : n / 2 ^ k ≠ 0) : nbits n = k + nbits (n / 2 ^ k) := by
  obtain ⟨j, h1, h2, h3⟩ := nbits_spec h
  rw [h1]
  have := Nat.two_pow_pos k
  refine nbits_eq (k := k + j) ?_ ?_
  · rw [Nat.pow_add, Nat.mul_comm]; exact (Nat.le_div_iff_mul_le this).1 h2
  · rw [show k + j + 1 = (j + 1) + k by omega, Nat.pow_add]; exact (Nat.div_lt_iff_lt_mul this).1 h3
theorem nbits_limbs {n : Nat} (hn : n ≠ 0) : nbits n = 32 * ((limbs n).length - 1) + nbits ((limbs n).getD ((limbs n).length - 1) 0) ∧ (limbs n).getD ((limbs n).length - 1) 0 ≠ 0 := by
  have hc : (limbs n).getD ((limbs n).length - 1) 0 ≠ 0 := by
    rcases canon_limbs n with h | h
    · exact absurd (limbs_eq_nil.1 h) hn
    · exact h
  have hp := limbs_len_pos hn
  have hv := val_take_drop (limbs n) ((limbs n).length - 1)
  rw [val_limbs] at hv
  have h2 := val_getD_drop (limbs n) ((limbs n).length - 1)
  have h2' : val (List.drop ((limbs n).length - 1 + 1) (limbs n)) = 0 := by rw [List.drop_eq_nil_of_le (by omega)]; rfl
  rw [h2'] at h2
  have h3 : (List.take ((limbs n).length - 1) (limbs n)).length = (limbs n).length - 1 := by simp
  have h4 := val_lt ((WL_limbs n).take ((limbs n).length - 1))
  rw [h3] at hv h4
  simp only [Nat.mul_zero, Nat.add_zero] at h2
  rw [h2] at hv
  have e : (4294967296 : Nat) ^ ((limbs n).length - 1) = 2 ^ (32 * ((limbs n).length - 1)) := by rw [Nat.pow_mul]
  have hd : n / 2 ^ (32 * ((limbs n).length - 1)) = (limbs n).getD ((limbs n).length - 1) 0 := by
    have gen : ∀ A B C : Nat, 0 < B → A < B → (A + B * C) / B = C := fun A B C hB hA => by rw [Nat.add_mul_div_left _ _ hB, Nat.div_eq_of_lt hA, Nat.zero_add]
    rw [← e]
    exact (congrArg (· / 4294967296 ^ ((limbs n).length - 1)) hv).trans (gen _ _ _ (Nat.pow_pos (by omega)) h4)
  refine ⟨?_, hc⟩
  rw [← hd]
  exact nbits_shift (by rw [hd]; exact hc)

def tab : List Nat := [0, 1, 2, 2, 3, 3, 3, 3, 4, 4, 4, 4, 4, 4, 4, 4, 5, 5, 5, 5, 5, 5, 5, 5, 5, 5, 5, 5, 5, 5, 5, 5, 6, 6, 6, 6, 6, 6, 6, 6, 6, 6, 6, 6, 6, 6, 6, 6, 6, 6, 6, 6, 6, 6, 6, 6, 6, 6, 6, 6, 6, 6, 6, 6, 7, 7, 7, 7, 7, 7, 7, 7, 7, 7, 7, 7, 7, 7, 7, 7, 7, 7, 7, 7, 7, 7, 7, 7, 7, 7, 7, 7, 7, 7, 7, 7, 7, 7, 7, 7, 7, 7, 7, 7, 7, 7, 7, 7, 7, 7, 7, 7, 7, 7, 7, 7, 7, 7, 7, 7, 7, 7, 7, 7, 7, 7, 7, 7, 8, 8, 8, 8, 8, 8, 8, 8, 8, 8, 8, 8, 8, 8, 8, 8, 8, 8, 8, 8, 8, 8, 8, 8, 8, 8, 8, 8, 8, 8, 8, 8, 8, 8, 8, 8, 8, 8, 8, 8, 8, 8, 8, 8, 8, 8, 8, 8, 8, 8, 8, 8, 8, 8, 8, 8, 8, 8, 8, 8, 8, 8, 8, 8, 8, 8, 8, 8, 8, 8, 8, 8, 8, 8, 8, 8, 8, 8, 8, 8, 8, 8, 8, 8, 8, 8, 8, 8, 8, 8, 8, 8, 8, 8, 8, 8, 8, 8, 8, 8, 8, 8, 8, 8, 8, 8, 8, 8, 8, 8, 8, 8, 8, 8, 8, 8, 8, 8, 8, 8, 8, 8, 8, 8, 8, 8, 8, 8]
theorem tab_get : ∀ i : Fin 256, tab[i.val]? = some (nbits i.val) := by decide
theorem d_chr {k : IntKind} {i : Int} (h0 : 0 ≤ i) (h1 : i < 256) : Prim.den (.chr [0, 1, 2, 2, 3, 3, 3, 3, 4, 4, 4, 4, 4, 4, 4, 4, 5, 5, 5, 5, 5, 5, 5, 5, 5, 5, 5, 5, 5, 5, 5, 5, 6, 6, 6, 6, 6, 6, 6, 6, 6, 6, 6, 6, 6, 6, 6, 6, 6, 6, 6, 6, 6, 6, 6, 6, 6, 6, 6, 6, 6, 6, 6, 6, 7, 7, 7, 7, 7, 7, 7, 7, 7, 7, 7, 7, 7, 7, 7, 7, 7, 7, 7, 7, 7, 7, 7, 7, 7, 7, 7, 7, 7, 7, 7, 7, 7, 7, 7, 7, 7, 7, 7, 7, 7, 7, 7, 7, 7, 7, 7, 7, 7, 7, 7, 7, 7, 7, 7, 7, 7, 7, 7, 7, 7, 7, 7, 7, 8, 8, 8, 8, 8, 8, 8, 8, 8, 8, 8, 8, 8, 8, 8, 8, 8, 8, 8, 8, 8, 8, 8, 8, 8, 8, 8, 8, 8, 8, 8, 8, 8, 8, 8, 8, 8, 8, 8, 8, 8, 8, 8, 8, 8, 8, 8, 8, 8, 8, 8, 8, 8, 8, 8, 8, 8, 8, 8, 8, 8, 8, 8, 8, 8, 8, 8, 8, 8, 8, 8, 8, 8, 8, 8, 8, 8, 8, 8, 8, 8, 8, 8, 8, 8, 8, 8, 8, 8, 8, 8, 8, 8, 8, 8, 8, 8, 8, 8, 8, 8, 8, 8, 8, 8, 8, 8, 8, 8, 8, 8, 8, 8, 8, 8, 8, 8, 8, 8, 8, 8, 8, 8, 8, 8, 8, 8, 8]) [.int k i] = some (.int .u8 (nbits i.toNat : Int)) := by
  have := tab_get ⟨i.toNat, by omega⟩
  simp only at this
  show (if 0 ≤ i then (tab[i.toNat]?).map fun (x : Nat) => DV.int .u8 (x : Int) else none) = _
  rw [if_pos h0, this]; rfl
theorem d_conv8 {k : IntKind} {a : Int} (h0 : 0 ≤ a) (h1 : a < 256) : Prim.den (.conv .u8) [.int k a] = some (.int .u8 a) := by
  have : IntKind.u8.wrap a = a := by simp [IntKind.wrap, IntKind.bits, IntKind.signed]; omega
  simp [Prim.den, this]
theorem d_shrk {k k' : IntKind} {a s c : Int} (hs : 0 ≤ s) (hc : (2 : Int) ^ (min s.toNat k.bits) = c) (h0 : 0 ≤ a) (hcp : 0 ≤ c) : Prim.den (.bin .shr) [.int k a, .int k' s] = some (.int k (a / c)) := by
  simp only [Prim.den, Prim.bin1, binInt]
  rw [if_neg (by omega), hc, Int.fdiv_eq_ediv_of_nonneg _ hcp]
theorem d_shr8 {k' : IntKind} {a : Int} (h0 : 0 ≤ a) : Prim.den (.bin .shr) [.int .u32 a, .int k' 8] = some (.int .u32 (a / 256)) := d_shrk (by omega) (by decide) h0 (by omega)
theorem d_shr16 {k' : IntKind} {a : Int} (h0 : 0 ≤ a) : Prim.den (.bin .shr) [.int .u32 a, .int k' 16] = some (.int .u32 (a / 65536)) := d_shrk (by omega) (by decide) h0 (by omega)
theorem d_nb {m : Nat} {c : Int} (h : m < 256) (hc0 : 0 ≤ c) (hc : c ≤ 24) : Prim.den (.bin .add) [.int .i64 c, .int .i64 (nbits m : Int)] = some (.int .i64 (c + (nbits m : Int))) := by
  have := nbits_le (n := m) (k := 8) (by omega)
  exact d_add64 (by omega) (by omega)
theorem d_nbc {m : Nat} (h : m < 256) : Prim.den (.conv .i64) [.int .u8 (nbits m : Int)] = some (.int .i64 (nbits m : Int)) := by
  have := nbits_le (n := m) (k := 8) (by omega)
  exact d_convi (by omega) (by omega)

def CLen32 (P : Program) : Prop := ∀ x : Nat, x < 4294967296 → PureCalls P F.math_bits_Len32 [.one (.int .u32 (x : Int))] [.one (.int .i64 (nbits x : Int))]
theorem w_len32 {x : Nat} (h : x < 4294967296) : IRwp P [] [.int .u32 (x : Int)] ir_math_bits_Len32 (· = [.one (.int .i64 (nbits x : Int))]) := by
  unfold ir_math_bits_Len32
  have key : ∀ (c : Nat) (y : Int) (m : Nat), y = ((x / 2 ^ c : Nat) : Int) → m = c → (c = 0 ∨ x / 2 ^ c ≠ 0) → [AV.one (.int .i64 ((m : Int) + (nbits y.toNat : Int)))] = [AV.one (.int .i64 (nbits x : Int))] := by
    intro c y m hy hm hc
    subst hm
    rw [hy, Int.toNat_natCast]
    rcases hc with rfl | hc
    · simp
    · rw [nbits_shift hc]; simp
  simp (disch := omega) only [STP]
  refine ite_step rfl ?_ ?_
  · intro h1
    simp (disch := omega) only [STP, d_shr16]
    refine ite_step rfl ?_ ?_
    · intro h2
      simp (disch := omega) only [STP, d_shr8, d_conv8, d_chr, d_nb, d_nbc]
      exact ret_step (key 24 _ 24 (by omega) rfl (by omega))
    · intro h2
      simp (disch := omega) only [STP, d_shr8, d_conv8, d_chr, d_nb, d_nbc]
      exact ret_step (key 16 _ 16 (by omega) rfl (by omega))
  · intro h1
    simp (disch := omega) only [STP]
    refine ite_step rfl ?_ ?_
    · intro h2
      simp (disch := omega) only [STP, d_shr8, d_conv8, d_chr, d_nb, d_nbc]
      exact ret_step (key 8 _ 8 (by omega) rfl (by omega))
    · intro h2
      simp (disch := omega) only [STP, d_shr8, d_conv8, d_chr, d_nb, d_nbc]
      exact ret_step (by show [AV.one (.int .i64 (0 + (nbits x : Int)))] = _; simp)

def CLz (P : Program) : Prop := ∀ x : Nat, x < 4294967296 → PureCalls P F.math_bits_LeadingZeros32 [.one (.int .u32 (x : Int))] [.one (.int .i64 (32 - (nbits x : Int)))]
theorem w_lz (c : CLen32 P) {x : Nat} (h : x < 4294967296) : IRwp P [] [.int .u32 (x : Int)] ir_math_bits_LeadingZeros32 (· = [.one (.int .i64 (32 - (nbits x : Int)))]) := by
  unfold ir_math_bits_LeadingZeros32
  have := nbits_le (n := x) (k := 32) (by omega)
  refine call_step (c x h) rfl ?_
  simp (disch := omega) only [STP]
  exact ret_step rfl

def CBits (P : Program) : Prop := ∀ a, WF a → PureCalls P F.nat_Bits [.one (nl a)] [.one (.int .i64 (nbits (val a) : Int))]
theorem w_bits (c1 : CTrim P) (c2 : CLz P) {a : List Nat} (h : WF a) : IRwp P [] [nl a] ir_nat_Bits (· = [.one (.int .i64 (nbits (val a) : Int))]) := by
  obtain ⟨h, hl⟩ := h
  unfold ir_nat_Bits
  refine call_step (c1 a h (by omega)) rfl ?_
  have hl' := limbs_len_le h
  simp only [nn]
  simp (disch := omega) only [STP]
  refine ite_step rfl ?_ ?_
  · intro h0
    have : val a = 0 := limbs_eq_nil.1 (List.eq_nil_of_length_eq_zero (by omega))
    rw [this]
    exact ret_step rfl
  · intro h0
    simp (disch := omega) only [STP]
    have hn : val a ≠ 0 := fun hz => by rw [hz, limbs_zero] at h0; simp at h0
    obtain ⟨e1, e2⟩ := nbits_limbs hn
    have hlt := (WL_limbs (val a)).getD ((limbs (val a)).length - 1)
    have e : ((↑(limbs (val a)).length : Int) - 1).toNat = (limbs (val a)).length - 1 := by omega
    simp only [e]
    have hb := nbits_le (n := (limbs (val a)).getD ((limbs (val a)).length - 1) 0) (k := 32) (by omega)
    refine call_step (c2 _ hlt) rfl ?_
    simp (disch := omega) only [STP]
    refine ret_step ?_
    show [AV.one (.int .i64 _)] = [AV.one (.int .i64 _)]
    rw [e1]
    congr 3
    omega

end Go.Px.Na
/- Wn2: naturals: Cmp, Add, Sub. -/
set_option linter.unusedSimpArgs false
set_option linter.unusedVariables false
namespace Go.Px.Na
open Go.RowKit
variable {P : Program}

def cmpI (m n : Nat) : Int := if m < n then -1 else if n < m then 1 else 0
/-- A number of a tree's variables, turned. -/
def numf (f : Int → Nat) (i : Nat) (ds : List DV) : Nat := match ds[i]? with | some (.int _ n) => f n | _ => 0

theorem len_lt {m n : Nat} (h : (limbs m).length < (limbs n).length) : m < n := by
  rcases Nat.lt_or_ge m n with h1 | h1
  · exact h1
  · have := limbs_len_mono h1; omega
theorem val_eq_of_drop {a b : List Nat} {i : Nat} (ha : WL a) (hl : a.length = b.length) (hi : i ≤ a.length) (h : val (a.drop i) < val (b.drop i)) : val a < val b := by
  rw [val_take_drop a i, val_take_drop b i]
  have h1 := val_lt (ha.take i)
  simp only [List.length_take, Nat.min_eq_left hi, Nat.min_eq_left (hl ▸ hi)] at h1 ⊢
  have h2 : 4294967296 ^ i * (val (a.drop i) + 1) ≤ 4294967296 ^ i * val (b.drop i) := Nat.mul_le_mul_left _ h
  rw [Nat.mul_add] at h2
  omega

def CCmp (P : Program) : Prop := ∀ a b, WF a → WF b → PureCalls P F.nat_Cmp [.one (nl a), .one (nl b)] [.one (.int .i64 (cmpI (val a) (val b)))]
theorem w_cmp (c1 : CTrim P) {a b : List Nat} (ha : WF a) (hb : WF b) : IRwp P [] [nl a, nl b] ir_nat_Cmp (· = [.one (.int .i64 (cmpI (val a) (val b)))]) := by
  obtain ⟨ha, hla⟩ := ha
  obtain ⟨hb, hlb⟩ := hb
  unfold ir_nat_Cmp
  refine call_step (c1 a ha (by omega)) rfl ?_
  refine call_step (c1 b hb (by omega)) rfl ?_
  have l1 := limbs_len_le ha
  have l2 := limbs_len_le hb
  simp only [nn]
  generalize val a = m at l1 ⊢
  generalize val b = n at l2 ⊢
  simp (disch := omega) only [STP]
  refine ite_step rfl ?_ ?_
  · intro h
    simp (disch := omega) only [STP]
    refine ite_step rfl ?_ ?_
    · intro h
      have : m < n := len_lt (by omega)
      exact ret_step (by simp [cmpI, this, Arg.ev, A.ev])
    · intro h
      have : n < m := len_lt (by omega)
      exact ret_step (by simp [cmpI, this, Nat.lt_asymm this, Arg.ev, A.ev])
  · intro h
    simp (disch := omega) only [STP]
    refine loop_step (fun ds => ∃ i : Int, ds = [nl (limbs m), nl (limbs n), .int .i64 i] ∧ -1 ≤ i ∧ i < (limbs m).length ∧ val ((limbs m).drop (i + 1).toNat) = val ((limbs n).drop (i + 1).toNat)) (numf (fun i => (i + 1).toNat) 2) ?_ ?_ ?_
    · refine ⟨_, rfl, by omega, by omega, ?_⟩
      rw [List.drop_eq_nil_of_le (by omega), List.drop_eq_nil_of_le (by omega)]
    · rintro ds ⟨i, rfl, _⟩; rfl
    · rintro ds ⟨i, rfl, h0, h1, hv⟩
      simp (disch := omega) only [STP]
      refine ite_step rfl ?_ ?_
      · intro hi
        have e : (i + 1).toNat = i.toNat + 1 := by omega
        rw [e] at hv
        have g1 := val_getD_drop (limbs m) i.toNat
        have g2 := val_getD_drop (limbs n) i.toNat
        simp (disch := omega) only [STP]
        refine ite_step rfl ?_ ?_
        · intro hx
          have : m < n := by
            have := val_eq_of_drop (a := limbs m) (b := limbs n) (i := i.toNat) (WL_limbs m) (by omega) (by omega) (by omega)
            simpa [val_limbs] using this
          exact ret_step (by simp [cmpI, this, Arg.ev, A.ev])
        · intro hx
          simp (disch := omega) only [STP]
          refine ite_step rfl ?_ ?_
          · intro hx
            have : n < m := by
              have := val_eq_of_drop (a := limbs n) (b := limbs m) (i := i.toNat) (WL_limbs n) (by omega) (by omega) (by omega)
              simpa [val_limbs] using this
            exact ret_step (by simp [cmpI, this, Nat.lt_asymm this, Arg.ev, A.ev])
          · intro hx
            simp (disch := omega) only [STP]
            refine jump_step rfl ⟨⟨_, rfl, by omega, by omega, ?_⟩, ?_⟩
            · rw [show (i - 1 + 1).toNat = i.toNat by omega]; omega
            · show (i - 1 + 1).toNat < (i + 1).toNat; omega
      · intro hi
        have e : (i + 1).toNat = 0 := by omega
        rw [e] at hv
        simp only [List.drop_zero, val_limbs] at hv
        subst hv
        exact ret_step (by simp [cmpI, Arg.ev, A.ev])

def CAdd32 (P : Program) : Prop := ∀ x y c : Nat, x < 4294967296 → y < 4294967296 → c ≤ 1 → PureCalls P F.math_bits_Add32 [.one (.int .u32 (x : Int)), .one (.int .u32 (y : Int)), .one (.int .u32 (c : Int))]
  [.one (.int .u32 (((x + y + c) % 4294967296 : Nat) : Int)), .one (.int .u32 (((x + y + c) / 4294967296 : Nat) : Int))]
theorem w_add32 {x y c : Nat} (hx : x < 4294967296) (hy : y < 4294967296) (hc : c ≤ 1) : IRwp P [] [.int .u32 (x : Int), .int .u32 (y : Int), .int .u32 (c : Int)] ir_math_bits_Add32
    (· = [.one (.int .u32 (((x + y + c) % 4294967296 : Nat) : Int)), .one (.int .u32 (((x + y + c) / 4294967296 : Nat) : Int))]) := by
  unfold ir_math_bits_Add32
  have e1 : Prim.den (.conv .u32) [.int .u64 ((x : Int) + y + c)] = some (.int .u32 (((x + y + c) % 4294967296 : Nat) : Int)) := by rw [d_conv32]; rfl
  have e2 : Prim.den (.bin .shr) [.int .u64 ((x : Int) + y + c), .int .u64 32] = some (.int .u64 (((x + y + c) / 4294967296 : Nat) : Int)) := by rw [d_shr32 rfl]; rfl
  have e3 : Prim.den (.conv .u32) [.int .u64 (((x + y + c) / 4294967296 : Nat) : Int)] = some (.int .u32 (((x + y + c) / 4294967296 : Nat) : Int)) := d_conv32' (by omega) (by omega)
  simp (disch := omega) only [STP, e1, e2, e3]
  exact ret_step rfl

theorem carry_step {p vo va vb x y c : Nat} (h : vo + p * c = va + vb) : (vo + p * ((x + y + c) % 4294967296)) + p * 4294967296 * ((x + y + c) / 4294967296) = (va + p * x) + (vb + p * y) := by
  have h2 := Nat.mod_add_div (x + y + c) 4294967296
  generalize (x + y + c) % 4294967296 = r at h2 ⊢
  generalize (x + y + c) / 4294967296 = q at h2 ⊢
  have : p * (r + 4294967296 * q) = p * (x + y + c) := by rw [h2]
  grind

def add_body : IR := match ir_nat_Add with
  | .call _ _ _ (.call _ _ _ (.prim _ _ (.prim _ _ (.prim _ _ (.ite _ (.prim _ _ (.prim _ _ (.prim _ _ (.prim _ _ (.loop _ b))))) _))))) => b
  | _ => .bad

def CAdd (P : Program) : Prop := ∀ a b, WF a → WF b → PureCalls P F.nat_Add [.one (nl a), .one (nl b)] [.one (nn (val a + val b))]
theorem w_add_loop (c1 : CTrim P) (c2 : CAdd32 P) {A B : List Nat} (ha : WL A) (hb : WL B) (hla : A.length ≤ 4398000000000) (hlb : B.length ≤ A.length) {ρ : List DV} {inits : List Px.A}
    (hi : inits.map (Px.A.ev ρ) = [nl B, .int .u32 0, nl A, .int .i64 A.length, .int .i64 0, nl []]) : IRwp P [] ρ (.loop inits add_body) (· = [.one (nn (val A + val B))]) := by
  have hlen : inits.length = 6 := by have := congrArg List.length hi; simpa using this
  refine loop_step (fun ds => ∃ (i : Int) (c : Nat) (out : List Nat), ds = [nl B, .int .u32 c, nl A, .int .i64 A.length, .int .i64 i, nl out] ∧ 0 ≤ i ∧ i ≤ A.length ∧ c ≤ 1 ∧ WL out ∧ out.length = i.toNat ∧
    val out + 4294967296 ^ i.toNat * c = val (A.take i.toNat) + val (B.take i.toNat)) (numf (fun i => (A.length - i).toNat) 4) ?_ ?_ ?_
  · rw [hi]; exact ⟨0, 0, [], rfl, by omega, by omega, by omega, WL.nil, rfl, by simp [val]⟩
  · rintro ds ⟨i, c, out, rfl, _⟩; rw [hlen]; rfl
  · rintro ds ⟨i, c, out, rfl, h0, h1, hc, hw, hlo, hv⟩
    unfold add_body ir_nat_Add
    simp only
    simp (disch := omega) only [STP]
    refine ite_step rfl ?_ ?_
    · intro hi
      have step : ∀ y : Nat, y = B.getD i.toNat 0 → (∃ (i' : Int) (c' : Nat) (out' : List Nat), [nl B, DV.int .u32 (((A.getD i.toNat 0 + y + c) / 4294967296 : Nat) : Int), nl A, .int .i64 A.length, .int .i64 (i + 1), nl (out ++ [(A.getD i.toNat 0 + y + c) % 4294967296])] = [nl B, .int .u32 c', nl A, .int .i64 A.length, .int .i64 i', nl out'] ∧ 0 ≤ i' ∧ i' ≤ A.length ∧ c' ≤ 1 ∧ WL out' ∧ out'.length = i'.toNat ∧
          val out' + 4294967296 ^ i'.toNat * c' = val (A.take i'.toNat) + val (B.take i'.toNat)) ∧ (A.length - (i + 1)).toNat < (A.length - i).toNat := by
        intro y hy
        have g1 := ha.getD i.toNat
        have g2 := hb.getD i.toNat
        refine ⟨⟨_, _, _, rfl, by omega, by omega, by omega, hw.append (WL.single (by omega)), by simp [hlo]; omega, ?_⟩, by omega⟩
        rw [show (i + 1).toNat = i.toNat + 1 by omega, val_take_getD, val_take_getD, val_snoc, hlo, Nat.pow_succ, ← hy]
        exact carry_step hv
      simp (disch := omega) only [STP]
      refine ite_step rfl ?_ ?_
      · intro hj
        simp (disch := omega) only [STP]
        refine call_step (c2 _ _ _ (ha.getD _) (hb.getD _) hc) rfl ?_
        simp (disch := omega) only [STP]
        exact jump_step rfl (step _ rfl)
      · intro hj
        refine call_step (c2 _ 0 _ (ha.getD _) (by omega) hc) rfl ?_
        simp (disch := omega) only [STP]
        refine jump_step rfl (step 0 ?_)
        simp [List.getD_eq_getElem?_getD, List.getElem?_eq_none (show B.length ≤ i.toNat by omega)]
    · intro hi
      simp (disch := omega) only [STP]
      refine call_step (c1 (out ++ [c]) (hw.append (WL.single (by omega))) (by simp; omega)) rfl ?_
      refine ret_step ?_
      show [AV.one (nn (val (out ++ [c])))] = _
      rw [val_snoc, hlo]
      rw [hv, val_take_all (by omega), val_take_all (by omega)]

theorem w_add (c1 : CTrim P) (c2 : CAdd32 P) {a b : List Nat} (ha : WF a) (hb : WF b) : IRwp P [] [nl a, nl b] ir_nat_Add (· = [.one (nn (val a + val b))]) := by
  obtain ⟨ha, hla⟩ := ha
  obtain ⟨hb, hlb⟩ := hb
  unfold ir_nat_Add
  refine call_step (c1 a ha (by omega)) rfl ?_
  refine call_step (c1 b hb (by omega)) rfl ?_
  have l1 := limbs_len_le ha
  have l2 := limbs_len_le hb
  simp only [nn]
  simp (disch := omega) only [STP]
  refine ite_step rfl ?_ ?_
  · intro h
    simp (disch := omega) only [STP]
    have := w_add_loop c1 c2 (WL_limbs (val b)) (WL_limbs (val a)) (by omega) (by omega) (P := P) (ρ := [nl a, nl b, nl (limbs (val a)), nl (limbs (val b)), .int .i64 (limbs (val a)).length, .int .i64 (limbs (val b)).length, .bool (decide (((limbs (val a)).length : Int) < (limbs (val b)).length)), .int .i64 (limbs (val b)).length, .int .i64 ((limbs (val b)).length + 1), nl [], .int .i64 (limbs (val b)).length]) (inits := [.var 2, .int .u32 0, .var 3, .var 10, .int .i64 0, .var 9]) rfl
    simp only [val_limbs] at this
    rw [Nat.add_comm (val a)]
    exact this
  · intro h
    simp (disch := omega) only [STP]
    have := w_add_loop c1 c2 (WL_limbs (val a)) (WL_limbs (val b)) (by omega) (by omega) (P := P) (ρ := [nl a, nl b, nl (limbs (val a)), nl (limbs (val b)), .int .i64 (limbs (val a)).length, .int .i64 (limbs (val b)).length, .bool (decide (((limbs (val a)).length : Int) < (limbs (val b)).length)), .int .i64 (limbs (val a)).length, .int .i64 ((limbs (val a)).length + 1), nl [], .int .i64 (limbs (val a)).length]) (inits := [.var 3, .int .u32 0, .var 2, .var 10, .int .i64 0, .var 9]) rfl
    simp only [val_limbs] at this
    exact this

/-! ### Sub -/
theorem bv_int (X : BitVec 32) : BitVec.ofInt IntKind.u32.bits (X.toNat : Int) = X := by
  show BitVec.ofInt 32 (X.toNat : Int) = X
  simp
theorem bv_wrap (X : BitVec 32) : IntKind.u32.wrap (X.toNat : Int) = (X.toNat : Int) := wu32 (by omega) (by have := X.isLt; omega)
theorem d_com32 (X : BitVec 32) : Prim.den .com [.int .u32 (X.toNat : Int)] = some (.int .u32 ((~~~X).toNat : Int)) := by
  simp only [Prim.den]
  have : (BitVec.ofInt IntKind.u32.bits (if IntKind.u32.signed = true then -1 else IntKind.u32.max) ^^^ BitVec.ofInt IntKind.u32.bits (X.toNat : Int)) = ~~~X := by
    rw [bv_int]
    show BitVec.ofInt 32 4294967295 ^^^ X = ~~~X
    have : BitVec.ofInt 32 4294967295 = BitVec.allOnes 32 := by decide
    rw [this, BitVec.allOnes_xor]
  rw [this]; exact congrArg (fun x => some (DV.int .u32 x)) (bv_wrap _)
theorem d_and32 (X Y : BitVec 32) : Prim.den (.bin .and) [.int .u32 (X.toNat : Int), .int .u32 (Y.toNat : Int)] = some (.int .u32 ((X &&& Y).toNat : Int)) := by
  simp only [Prim.den, Prim.bin1, binInt]
  rw [if_neg (by simp), bv_int, bv_int]; exact congrArg (fun x => some (DV.int .u32 x)) (bv_wrap _)
theorem d_or32 (X Y : BitVec 32) : Prim.den (.bin .or) [.int .u32 (X.toNat : Int), .int .u32 (Y.toNat : Int)] = some (.int .u32 ((X ||| Y).toNat : Int)) := by
  simp only [Prim.den, Prim.bin1, binInt]
  rw [if_neg (by simp), bv_int, bv_int]; exact congrArg (fun x => some (DV.int .u32 x)) (bv_wrap _)
theorem d_xor32 (X Y : BitVec 32) : Prim.den (.bin .xor) [.int .u32 (X.toNat : Int), .int .u32 (Y.toNat : Int)] = some (.int .u32 ((X ^^^ Y).toNat : Int)) := by
  simp only [Prim.den, Prim.bin1, binInt]
  rw [if_neg (by simp), bv_int, bv_int]; exact congrArg (fun x => some (DV.int .u32 x)) (bv_wrap _)
theorem msb_div (X : BitVec 32) : X.toNat / 2147483648 = if X.msb then 1 else 0 := by
  have := X.isLt
  rw [BitVec.msb_eq_decide]
  simp only [Nat.reduceSub, Nat.reducePow, decide_eq_true_eq]
  split <;> omega
theorem borrow_bit {x y b d : Nat} (hx : x < 4294967296) (hy : y < 4294967296) (hb : b ≤ 1) (hd : d = (x + 8589934592 - y - b) % 4294967296) :
    ((~~~(BitVec.ofNat 32 x) &&& BitVec.ofNat 32 y) ||| (~~~(BitVec.ofNat 32 x ^^^ BitVec.ofNat 32 y) &&& BitVec.ofNat 32 d)).toNat / 2147483648 = if x < y + b then 1 else 0 := by
  rw [msb_div]
  have hd' : d < 4294967296 := by omega
  have m : ∀ z : Nat, z < 4294967296 → (BitVec.ofNat 32 z).msb = decide (2147483648 ≤ z) := fun z hz => by
    rw [BitVec.msb_eq_decide]; simp [Nat.mod_eq_of_lt hz]
  simp only [BitVec.msb_or, BitVec.msb_and, BitVec.msb_not, BitVec.msb_xor, m x hx, m y hy, m d hd']
  by_cases h1 : 2147483648 ≤ x <;> by_cases h2 : 2147483648 ≤ y <;> by_cases h3 : 2147483648 ≤ d <;> simp [h1, h2, h3] <;> omega

def CSub32 (P : Program) : Prop := ∀ x y b : Nat, x < 4294967296 → y < 4294967296 → b ≤ 1 → PureCalls P F.math_bits_Sub32 [.one (.int .u32 (x : Int)), .one (.int .u32 (y : Int)), .one (.int .u32 (b : Int))]
  [.one (.int .u32 (((x + 8589934592 - y - b) % 4294967296 : Nat) : Int)), .one (.int .u32 ((if x < y + b then 1 else 0 : Nat) : Int))]
theorem w_sub32 {x y b : Nat} (hx : x < 4294967296) (hy : y < 4294967296) (hb : b ≤ 1) : IRwp P [] [.int .u32 (x : Int), .int .u32 (y : Int), .int .u32 (b : Int)] ir_math_bits_Sub32
    (· = [.one (.int .u32 (((x + 8589934592 - y - b) % 4294967296 : Nat) : Int)), .one (.int .u32 ((if x < y + b then 1 else 0 : Nat) : Int))]) := by
  unfold ir_math_bits_Sub32
  have ex : (x : Int) = ((BitVec.ofNat 32 x).toNat : Int) := by simp [Nat.mod_eq_of_lt hx]
  have ey : (y : Int) = ((BitVec.ofNat 32 y).toNat : Int) := by simp [Nat.mod_eq_of_lt hy]
  obtain ⟨d, hd⟩ : ∃ d, d = (x + 8589934592 - y - b) % 4294967296 := ⟨_, rfl⟩
  have hd' : d < 4294967296 := by omega
  have ed : (d : Int) = ((BitVec.ofNat 32 d).toNat : Int) := by simp [Nat.mod_eq_of_lt hd']
  have e1 : Prim.den (.bin .sub) [.int .u32 (x : Int), .int .u32 (y : Int)] = some (.int .u32 (((x : Int) - y) % 4294967296)) := d_sub32
  have e2 : Prim.den (.bin .sub) [.int .u32 (((x : Int) - y) % 4294967296), .int .u32 (b : Int)] = some (.int .u32 (d : Int)) := by
    rw [d_sub32]; congr 2; omega
  have e3 : Prim.den .com [.int .u32 (x : Int)] = some (.int .u32 ((~~~(BitVec.ofNat 32 x)).toNat : Int)) := by rw [ex]; exact d_com32 _
  have e4 : Prim.den (.bin .and) [.int .u32 ((~~~(BitVec.ofNat 32 x)).toNat : Int), .int .u32 (y : Int)] = some (.int .u32 ((~~~(BitVec.ofNat 32 x) &&& BitVec.ofNat 32 y).toNat : Int)) := by rw [ey]; exact d_and32 _ _
  have e5 : Prim.den (.bin .xor) [.int .u32 (x : Int), .int .u32 (y : Int)] = some (.int .u32 ((BitVec.ofNat 32 x ^^^ BitVec.ofNat 32 y).toNat : Int)) := by rw [ex, ey]; exact d_xor32 _ _
  have e6 : Prim.den (.bin .and) [.int .u32 ((~~~(BitVec.ofNat 32 x ^^^ BitVec.ofNat 32 y)).toNat : Int), .int .u32 (d : Int)] = some (.int .u32 ((~~~(BitVec.ofNat 32 x ^^^ BitVec.ofNat 32 y) &&& BitVec.ofNat 32 d).toNat : Int)) := by rw [ed]; exact d_and32 _ _
  have e7 : ∀ Z : BitVec 32, Prim.den (.bin .shr) [.int .u32 (Z.toNat : Int), .int .u64 31] = some (.int .u32 ((Z.toNat / 2147483648 : Nat) : Int)) := fun Z => by
    rw [d_shrk (c := 2147483648) (by omega) (by decide) (by omega) (by omega)]; rfl
  simp only [IRwp_prim, List.map_cons, List.map_nil, A.ev, List.getD_cons_zero, List.getD_cons_succ, List.cons_append, List.nil_append, e1, e2, e3, e4, e5, e6, e7, d_com32, d_or32, Option.isSome_some, Option.getD_some, true_and]
  refine ret_step ?_
  rw [borrow_bit hx hy hb hd, ← hd]
  rfl

theorem borrow_step {p vo va vb x y b : Nat} (hx : x < 4294967296) (hy : y < 4294967296) (hb : b ≤ 1) (h : va + p * b = vo + vb) : (va + p * x) + p * 4294967296 * (if x < y + b then 1 else 0) = (vo + p * ((x + 8589934592 - y - b) % 4294967296)) + (vb + p * y) := by
  have h2 : x + 4294967296 * (if x < y + b then 1 else 0) = (x + 8589934592 - y - b) % 4294967296 + y + b := by split <;> omega
  generalize (x + 8589934592 - y - b) % 4294967296 = r at h2 ⊢
  generalize (if x < y + b then 1 else 0) = q at h2 ⊢
  have : p * (x + 4294967296 * q) = p * (r + y + b) := by rw [h2]
  grind

end Go.Px.Na
/- Wn2b: naturals: Sub. -/
set_option linter.unusedSimpArgs false
set_option linter.unusedVariables false
namespace Go.Px.Na
open Go.RowKit
variable {P : Program}

def CSub (P : Program) : Prop := ∀ a b, WF a → WF b → PureCalls P F.nat_Sub [.one (nl a), .one (nl b)] (if val a < val b then [.one (nl []), .one (.bool false)] else [.one (nn (val a - val b)), .one (.bool true)])
theorem w_sub (c1 : CTrim P) (c2 : CSub32 P) (c3 : CCmp P) {a b : List Nat} (ha : WF a) (hb : WF b) : IRwp P [] [nl a, nl b] ir_nat_Sub (· = if val a < val b then [.one (nl []), .one (.bool false)] else [.one (nn (val a - val b)), .one (.bool true)]) := by
  unfold ir_nat_Sub
  refine call_step (c3 a b ha hb) rfl ?_
  obtain ⟨ha, hla⟩ := ha
  obtain ⟨hb, hlb⟩ := hb
  simp (disch := omega) only [STP]
  refine ite_step rfl ?_ ?_
  · intro h
    have : val a < val b := by unfold cmpI at h; split at h <;> first | assumption | (split at h <;> omega)
    rw [if_pos this]
    exact ret_step rfl
  · intro h
    have hge : val b ≤ val a := by unfold cmpI at h; split at h <;> omega
    rw [if_neg (by omega)]
    refine call_step (c1 a ha (by omega)) rfl ?_
    refine call_step (c1 b hb (by omega)) rfl ?_
    have l1 := limbs_len_le ha
    have l2 := limbs_len_le hb
    have l3 := limbs_len_mono hge
    have wa := WL_limbs (val a)
    have wb := WL_limbs (val b)
    have va := val_limbs (val a)
    have vb := val_limbs (val b)
    simp only [nn]
    generalize limbs (val a) = A at *
    generalize limbs (val b) = B at *
    simp (disch := omega) only [STP]
    refine loop_step (fun ds => ∃ (i : Int) (c : Nat) (out : List Nat), ds = [nl B, .int .u32 c, nl A, .int .i64 A.length, .int .i64 i, nl out] ∧ 0 ≤ i ∧ i ≤ A.length ∧ c ≤ 1 ∧ WL out ∧ out.length = i.toNat ∧
      val (A.take i.toNat) + 4294967296 ^ i.toNat * c = val out + val (B.take i.toNat)) (numf (fun i => (A.length - i).toNat) 4) ?_ ?_ ?_
    · exact ⟨0, 0, [], rfl, by omega, by omega, by omega, WL.nil, rfl, by simp [val]⟩
    · rintro ds ⟨i, c, out, rfl, _⟩; rfl
    · rintro ds ⟨i, c, out, rfl, h0, h1, hc, hw, hlo, hv⟩
      simp (disch := omega) only [STP]
      refine ite_step rfl ?_ ?_
      · intro hi
        have step : ∀ y : Nat, y = B.getD i.toNat 0 → (∃ (i' : Int) (c' : Nat) (out' : List Nat), [nl B, DV.int .u32 ((if A.getD i.toNat 0 < y + c then 1 else 0 : Nat) : Int), nl A, .int .i64 A.length, .int .i64 (i + 1), nl (out ++ [(A.getD i.toNat 0 + 8589934592 - y - c) % 4294967296])] = [nl B, .int .u32 c', nl A, .int .i64 A.length, .int .i64 i', nl out'] ∧ 0 ≤ i' ∧ i' ≤ A.length ∧ c' ≤ 1 ∧ WL out' ∧ out'.length = i'.toNat ∧
            val (A.take i'.toNat) + 4294967296 ^ i'.toNat * c' = val out' + val (B.take i'.toNat)) ∧ (A.length - (i + 1)).toNat < (A.length - i).toNat := by
          intro y hy
          have g1 := wa.getD i.toNat
          have g2 := wb.getD i.toNat
          refine ⟨⟨_, _, _, rfl, by omega, by omega, by split <;> omega, hw.append (WL.single (by omega)), by simp [hlo]; omega, ?_⟩, by omega⟩
          rw [show (i + 1).toNat = i.toNat + 1 by omega, val_take_getD, val_take_getD, val_snoc, hlo, Nat.pow_succ, ← hy]
          exact borrow_step g1 (by omega) hc hv
        simp (disch := omega) only [STP]
        refine ite_step rfl ?_ ?_
        · intro hj
          simp (disch := omega) only [STP]
          refine call_step (c2 _ _ _ (wa.getD _) (wb.getD _) hc) rfl ?_
          simp (disch := omega) only [STP]
          exact jump_step rfl (step _ rfl)
        · intro hj
          refine call_step (c2 _ 0 _ (wa.getD _) (by omega) hc) rfl ?_
          simp (disch := omega) only [STP]
          refine jump_step rfl (step 0 ?_)
          simp [List.getD_eq_getElem?_getD, List.getElem?_eq_none (show B.length ≤ i.toNat by omega)]
      · intro hi
        refine call_step (c1 out hw (by omega)) rfl ?_
        refine ret_step ?_
        show [AV.one (nn (val out)), AV.one (.bool true)] = _
        rw [val_take_all (by omega), val_take_all (by omega), va, vb] at hv
        have h4 := val_lt hw
        rw [hlo] at h4
        have : c = 0 ∨ c = 1 := by omega
        rcases this with rfl | rfl
        · rw [show val out = val a - val b by omega]; rfl
        · exfalso; omega

end Go.Px.Na
/- Wn3: naturals: Mul, small, shr. -/
set_option linter.unusedSimpArgs false
set_option linter.unusedVariables false
namespace Go.Px.Na
open Go.RowKit
variable {P : Program}

theorem val_set {l : List Nat} {j x : Nat} (h : j < l.length) : val (l.set j x) + 4294967296 ^ j * l.getD j 0 = val l + 4294967296 ^ j * x := by
  induction l generalizing j with
  | nil => simp at h
  | cons y r ih =>
    cases j with
    | zero => simp [val]; omega
    | succ j =>
      have := ih (j := j) (by simpa using h)
      simp only [List.set_cons_succ, val, List.getD_cons_succ, Nat.pow_succ]
      grind
theorem getD_set_ne {l : List Nat} {j k x : Nat} (h : j ≠ k) : (l.set j x).getD k 0 = l.getD k 0 := by
  simp [List.getD_eq_getElem?_getD, List.getElem?_set_ne h]
theorem getD_set_eq {l : List Nat} {j x : Nat} (h : j < l.length) : (l.set j x).getD j 0 = x := by
  simp [List.getD_eq_getElem?_getD, h]
theorem mul_lt64 {x y : Nat} (hx : x < 4294967296) (hy : y < 4294967296) : x * y ≤ 18446744065119617025 := by
  have := Nat.mul_le_mul (Nat.le_sub_one_of_lt hx) (Nat.le_sub_one_of_lt hy)
  omega

theorem mul_step {p q vo vo' V x y o c b : Nat} (h1 : vo' + (p * q) * o = vo + (p * q) * ((x * y + o + c) % 4294967296)) (h2 : vo + (p * q) * c = V + p * x * b) :
    vo' + (p * q * 4294967296) * ((x * y + o + c) / 4294967296) = V + p * x * (b + q * y) := by
  have h3 := Nat.mod_add_div (x * y + o + c) 4294967296
  generalize (x * y + o + c) % 4294967296 = r at h1 h3
  generalize (x * y + o + c) / 4294967296 = t at h3 ⊢
  have h4 : p * q * (r + 4294967296 * t) = p * q * (x * y + o + c) := by rw [h3]
  grind

def CMul (P : Program) : Prop := ∀ a b, WF a → WF b → PureCalls P F.nat_Mul [.one (nl a), .one (nl b)] [.one (nn (val a * val b))]
theorem w_mul (c1 : CTrim P) {a b : List Nat} (ha : WF a) (hb : WF b) : IRwp P [] [nl a, nl b] ir_nat_Mul (· = [.one (nn (val a * val b))]) := by
  obtain ⟨ha, hla⟩ := ha
  obtain ⟨hb, hlb⟩ := hb
  unfold ir_nat_Mul
  refine call_step (c1 a ha (by omega)) rfl ?_
  refine call_step (c1 b hb (by omega)) rfl ?_
  have l1 := limbs_len_le ha
  have l2 := limbs_len_le hb
  have wa := WL_limbs (val a)
  have wb := WL_limbs (val b)
  have va := val_limbs (val a)
  have vb := val_limbs (val b)
  rw [← va, ← vb]
  simp only [nn, val_limbs]
  generalize limbs (val a) = A at *
  generalize limbs (val b) = B at *
  simp (disch := omega) only [STP]
  refine loop_step (fun ds => ∃ (i : Int) (out : List Nat), ds = [nl B, nl A, .int .i64 A.length, .int .i64 i, nl out] ∧ 0 ≤ i ∧ i ≤ A.length ∧ WL out ∧ out.length = A.length + B.length ∧
    (∀ j, i.toNat + B.length ≤ j → out.getD j 0 = 0) ∧ val out = val (A.take i.toNat) * val B) (numf (fun i => (A.length - i).toNat) 3) ?_ ?_ ?_
  · refine ⟨0, List.replicate ((A.length : Int) + B.length).toNat 0, rfl, by omega, by omega, WL.rep _, by simp; omega, fun j _ => ?_, ?_⟩
    · simp only [List.getD_eq_getElem?_getD, List.getElem?_replicate]; split <;> rfl
    · rw [val_rep]; simp [val]
  · rintro ds ⟨i, out, rfl, _⟩; rfl
  · rintro ds ⟨i, out, rfl, h0, h1, hw, hlo, hz, hv⟩
    simp (disch := omega) only [STP]
    refine ite_step rfl ?_ ?_
    · intro hi
      simp (disch := omega) only [STP]
      have hx := wa.getD i.toNat
      generalize hxe : A.getD i.toNat 0 = x at hx ⊢
      refine loop_step (fun ds => ∃ (k : Int) (c : Nat) (out' : List Nat), ds = [nl B, .int .i64 i, .int .u32 x, .int .u64 c, nl A, .int .i64 A.length, .int .i64 B.length, .int .i64 k, nl out'] ∧ 0 ≤ k ∧ k ≤ B.length ∧ c < 4294967296 ∧ WL out' ∧ out'.length = A.length + B.length ∧
        (∀ j, i.toNat + B.length ≤ j → out'.getD j 0 = 0) ∧ val out' + (4294967296 ^ i.toNat * 4294967296 ^ k.toNat) * c = val out + 4294967296 ^ i.toNat * x * val (B.take k.toNat)) (numf (fun k => (B.length - k).toNat) 7) ?_ ?_ ?_
      · exact ⟨0, 0, out, rfl, by omega, by omega, by omega, hw, hlo, hz, by simp [val]⟩
      · rintro ds ⟨k, c, out', rfl, _⟩; rfl
      · rintro ds ⟨k, c, out', rfl, g0, g1, gc, gw, glo, gz, gv⟩
        simp (disch := omega) only [STP]
        refine ite_step rfl ?_ ?_
        · intro hk
          have hy := wb.getD k.toNat
          have ho := gw.getD (i + k).toNat
          have hm := mul_lt64 hx hy
          obtain ⟨xy, hxy⟩ : ∃ xy : Nat, xy = x * B.getD k.toNat 0 := ⟨_, rfl⟩
          rw [← hxy] at hm
          have e1 : Prim.den (.bin .mul) [.int .u64 (x : Int), .int .u64 ((B.getD k.toNat 0 : Nat) : Int)] = some (.int .u64 (xy : Int)) := by
            have : (x : Int) * ((B.getD k.toNat 0 : Nat) : Int) = (xy : Int) := by rw [hxy]; simp
            rw [d_mulu (by omega) (by omega), this]
          have e2 : ∀ t : Nat, Prim.den (.conv .u32) [.int .u64 (t : Int)] = some (.int .u32 ((t % 4294967296 : Nat) : Int)) := fun t => by rw [d_conv32]; rfl
          have e3 : ∀ t : Nat, Prim.den (.bin .shr) [.int .u64 (t : Int), .int .u64 32] = some (.int .u64 ((t / 4294967296 : Nat) : Int)) := fun t => by rw [d_shr32 rfl]; rfl
          have e4 : Prim.den (.bin .add) [.int .u64 ((xy : Int) + ((out'.getD (i + k).toNat 0 : Nat) : Int)), .int .u64 (c : Int)] = some (.int .u64 ((xy + out'.getD (i + k).toNat 0 + c : Nat) : Int)) := by
            rw [d_addu (by omega) (by omega)]; simp
          simp (disch := omega) only [STP, e1, e2, e3, e4]
          refine jump_step rfl ⟨⟨_, _, _, rfl, by omega, by omega, by omega, gw.set (Nat.mod_lt _ (by decide)), by simp [glo], fun j hj => ?_, ?_⟩, ?_⟩
          · rw [getD_set_ne (by omega)]; exact gz j hj
          · have hs := val_set (l := out') (j := (i + k).toNat) (x := (xy + out'.getD (i + k).toNat 0 + c) % 4294967296) (by omega)
            rw [show (i + k).toNat = i.toNat + k.toNat by omega, Nat.pow_add] at hs
            rw [show (k + 1).toNat = k.toNat + 1 by omega, val_take_getD, Nat.pow_succ]
            rw [show (i + k).toNat = i.toNat + k.toNat by omega] at *
            rw [hxy] at hs ⊢
            have := mul_step hs gv
            rw [← Nat.mul_assoc]
            exact this
          · show (B.length - (k + 1) : Int).toNat < (B.length - k : Int).toNat
            omega
        · intro hk
          have e2 : Prim.den (.conv .u32) [.int .u64 (c : Int)] = some (.int .u32 (c : Int)) := d_conv32' (by omega) (by omega)
          simp (disch := omega) only [STP, e2]
          refine jump_step rfl ⟨⟨_, _, rfl, by omega, by omega, gw.set gc, by simp [glo], fun j hj => ?_, ?_⟩, ?_⟩
          · rw [getD_set_ne (by omega)]; exact gz j (by omega)
          · have hs := val_set (l := out') (j := (i + B.length).toNat) (x := c) (by omega)
            rw [gz _ (by omega), Nat.mul_zero, Nat.add_zero] at hs
            rw [hs, show (i + B.length).toNat = i.toNat + B.length by omega, Nat.pow_add]
            rw [show k.toNat = B.length by omega, List.take_length] at gv
            rw [gv, hv, show (i + 1).toNat = i.toNat + 1 by omega, val_take_getD, hxe]
            grind
          · show (A.length - (i + 1) : Int).toNat < (A.length - i : Int).toNat
            omega
    · intro hi
      refine call_step (c1 out hw (by omega)) rfl ?_
      refine ret_step ?_
      show [AV.one (nn (val out))] = _
      rw [hv, val_take_all (by omega), va, vb]
      rfl

/-! ### Div32, small -/
theorem or_add {h l k : Nat} (hl : l < 2 ^ k) : (h * 2 ^ k) ||| l = h * 2 ^ k + l := by
  rw [Nat.mul_comm, Nat.two_pow_add_eq_or_of_lt hl]
theorem den_or64 (a b : Nat) (ha : a < 18446744073709551616) (hb : b < 18446744073709551616) : Prim.den (.bin .or) [.int .u64 (a : Int), .int .u64 (b : Int)] = some (.int .u64 ((a ||| b : Nat) : Int)) := by
  simp only [Prim.den, Prim.bin1, binInt]
  rw [if_neg (by simp)]
  have e : (BitVec.ofInt IntKind.u64.bits (a : Int) ||| BitVec.ofInt IntKind.u64.bits (b : Int)).toNat = a ||| b := by
    show (BitVec.ofInt 64 (a : Int) ||| BitVec.ofInt 64 (b : Int)).toNat = a ||| b
    simp [Nat.mod_eq_of_lt ha, Nat.mod_eq_of_lt hb]
  have hlt : a ||| b < 2 ^ 64 := Nat.or_lt_two_pow (by simpa using ha) (by simpa using hb)
  rw [e, wu64 (by omega) (by omega)]
theorem d_or64 {h l : Int} (h0 : 0 ≤ h) (h1 : h < 4294967296) (h2 : 0 ≤ l) (h3 : l < 4294967296) : Prim.den (.bin .or) [.int .u64 (h * 4294967296), .int .u64 l] = some (.int .u64 (h * 4294967296 + l)) := by
  obtain ⟨m, rfl⟩ := Int.eq_ofNat_of_zero_le h0
  obtain ⟨n, rfl⟩ := Int.eq_ofNat_of_zero_le h2
  have := den_or64 (m * 4294967296) n (by omega) (by omega)
  rw [or_add (k := 32) (by omega)] at this
  simpa using this
theorem d_or0 {l : Int} (h2 : 0 ≤ l) (h3 : l < 4294967296) : Prim.den (.bin .or) [.int .u64 0, .int .u64 l] = some (.int .u64 l) := by
  have := d_or64 (h := 0) (l := l) (by omega) (by omega) h2 h3
  simpa using this

def CDiv32 (P : Program) : Prop := ∀ h l y : Nat, h < y → l < 4294967296 → y < 4294967296 → PureCalls P F.math_bits_Div32 [.one (.int .u32 (h : Int)), .one (.int .u32 (l : Int)), .one (.int .u32 (y : Int))]
  [.one (.int .u32 (((h * 4294967296 + l) / y : Nat) : Int)), .one (.int .u32 (((h * 4294967296 + l) % y : Nat) : Int))]
theorem div_lt32 {h l y : Nat} (hh : h < y) (hl : l < 4294967296) : (h * 4294967296 + l) / y < 4294967296 := by
  rw [Nat.div_lt_iff_lt_mul (by omega)]
  have : (h + 1) * 4294967296 ≤ y * 4294967296 := Nat.mul_le_mul_right _ hh
  rw [Nat.mul_comm 4294967296]
  omega
theorem w_div32 {h l y : Nat} (hh : h < y) (hl : l < 4294967296) (hy : y < 4294967296) : IRwp P [] [.int .u32 (h : Int), .int .u32 (l : Int), .int .u32 (y : Int)] ir_math_bits_Div32
    (· = [.one (.int .u32 (((h * 4294967296 + l) / y : Nat) : Int)), .one (.int .u32 (((h * 4294967296 + l) % y : Nat) : Int))]) := by
  unfold ir_math_bits_Div32
  have hm : (h * 4294967296 + l) % y < y := Nat.mod_lt _ (by omega)
  have hd := div_lt32 hh hl
  have e1 : Prim.den (.bin .quo) [.int .u64 ((h : Int) * 4294967296 + l), .int .u64 (y : Int)] = some (.int .u64 (((h * 4294967296 + l) / y : Nat) : Int)) := by
    rw [d_quou (by omega) (by omega) (by omega)]; simp
  have e2 : Prim.den (.bin .rem) [.int .u64 ((h : Int) * 4294967296 + l), .int .u64 (y : Int)] = some (.int .u64 (((h * 4294967296 + l) % y : Nat) : Int)) := by
    rw [d_remu (by omega) (by omega)]; simp
  generalize (h * 4294967296 + l) / y = q at *
  generalize (h * 4294967296 + l) % y = r at *
  simp (disch := omega) only [STP]
  refine ite_step rfl ?_ ?_
  · intro h1
    simp (disch := omega) only [STP]
    refine ite_step rfl ?_ ?_
    · intro h2; omega
    · intro h2
      simp (disch := omega) only [STP, d_or64, e1, e2]
      exact ret_step rfl
  · intro h1; exfalso; apply h1; intro h2; omega

theorem drop_set {l : List Nat} {i j x : Nat} (h : i < j) : (l.set i x).drop j = l.drop j := by
  rw [List.drop_set, if_pos h]

def CSmall (P : Program) : Prop := ∀ a (b : Nat), WF a → 0 < b → b < 4294967296 → PureCalls P F.nat_small [.one (nl a), .one (.int .u32 (b : Int))] [.one (nn (val a / b)), .one (nn (val a % b))]
theorem w_small (c1 : CTrim P) (c2 : CDiv32 P) {a : List Nat} {b : Nat} (ha : WF a) (hb0 : 0 < b) (hb : b < 4294967296) : IRwp P [] [nl a, .int .u32 (b : Int)] ir_nat_small (· = [.one (nn (val a / b)), .one (nn (val a % b))]) := by
  obtain ⟨ha, hla⟩ := ha
  unfold ir_nat_small
  simp (disch := omega) only [STP]
  refine loop_step (fun ds => ∃ (i : Int) (r : Nat) (q : List Nat), ds = [nl a, .int .u32 (b : Int), .int .u32 (r : Int), .int .i64 i, nl q] ∧ -1 ≤ i ∧ i < a.length ∧ r < b ∧ WL q ∧ q.length = a.length ∧
    val (a.drop (i + 1).toNat) = b * val (q.drop (i + 1).toNat) + r) (numf (fun i => (i + 1).toNat) 3) ?_ ?_ ?_
  · refine ⟨_, 0, List.replicate a.length 0, rfl, by omega, by omega, by omega, WL.rep _, by simp, ?_⟩
    rw [List.drop_eq_nil_of_le (by omega), List.drop_eq_nil_of_le (by simp)]
    simp [val]
  · rintro ds ⟨i, r, q, rfl, _⟩; rfl
  · rintro ds ⟨i, r, q, rfl, h0, h1, hr, hw, hlq, hv⟩
    simp (disch := omega) only [STP]
    refine ite_step rfl ?_ ?_
    · intro hi
      simp (disch := omega) only [STP]
      have hx := ha.getD i.toNat
      refine call_step (c2 r _ b hr hx hb) rfl ?_
      have hm : (r * 4294967296 + a.getD i.toNat 0) % b < b := Nat.mod_lt _ (by omega)
      have hd := div_lt32 hr hx
      have g1 := val_getD_drop a i.toNat
      generalize a.getD i.toNat 0 = x at *
      generalize hq : (r * 4294967296 + x) / b = t at *
      generalize hs : (r * 4294967296 + x) % b = s at *
      have hts := Nat.mod_add_div (r * 4294967296 + x) b
      rw [hq, hs] at hts
      simp (disch := omega) only [STP]
      refine jump_step rfl ⟨⟨_, _, _, rfl, by omega, by omega, hm, hw.set hd, by simp [hlq], ?_⟩, ?_⟩
      · rw [show (i - 1 + 1).toNat = i.toNat by omega, g1, val_getD_drop (q.set i.toNat t), getD_set_eq (by omega), drop_set (by omega)]
        rw [show (i + 1).toNat = i.toNat + 1 by omega] at hv
        rw [hv]
        grind
      · show (i - 1 + 1).toNat < (i + 1).toNat
        omega
    · intro hi
      refine call_step (c1 q hw (by omega)) rfl ?_
      simp (disch := omega) only [STP]
      refine call_step (c1 [r] (WL.single (by omega)) (by simp)) rfl ?_
      refine ret_step ?_
      rw [show (i + 1).toNat = 0 by omega, List.drop_zero, List.drop_zero] at hv
      show [AV.one (nn (val q)), AV.one (nn (val [r]))] = _
      rw [val_single, hv, Nat.mul_add_div hb0, Nat.div_eq_of_lt hr, Nat.mul_add_mod, Nat.mod_eq_of_lt hr]
      rfl

/-! ### shr -/
theorem d_shrn {k' : IntKind} {a n : Int} (h0 : 0 ≤ a) (hn0 : 0 ≤ n) (hn : n < 64) : Prim.den (.bin .shr) [.int .u64 a, .int k' n] = some (.int .u64 (a / ((2 ^ n.toNat : Nat) : Int))) := by
  refine d_shrk hn0 ?_ h0 (Int.natCast_nonneg _)
  rw [show IntKind.u64.bits = 64 from rfl, Nat.min_eq_left (by omega)]
  simp

/-- A digit of a number that is shifted. -/
theorem shr_digit {V x h R p m : Nat} {n : Nat} (hn : n ≤ 32) (hm : m = 2 ^ n) (hp : 0 < p) (hV : V / p = x + 4294967296 * (h + 4294967296 * R)) : V / m / p % 4294967296 = (h * 4294967296 + x) / m % 4294967296 := by
  obtain ⟨d, hd⟩ : ∃ d, 4294967296 = m * d := ⟨2 ^ (32 - n), by rw [hm, ← Nat.pow_add, show n + (32 - n) = 32 by omega]⟩
  have hm0 : 0 < m := by rw [hm]; exact Nat.two_pow_pos n
  rw [Nat.div_div_eq_div_mul, Nat.mul_comm m p, ← Nat.div_div_eq_div_mul, hV]
  have : x + 4294967296 * (h + 4294967296 * R) = (h * 4294967296 + x) + m * (4294967296 * (d * R)) := by
    have : 4294967296 * 4294967296 * R = 4294967296 * (m * d) * R := by rw [← hd]
    grind
  rw [this, Nat.add_mul_div_left _ _ hm0, Nat.add_mul_mod_self_left]

def CShr (P : Program) : Prop := ∀ a (n : Nat), WF a → n < 32 → PureCalls P F.nat_shr [.one (nl a), .one (.int .i64 (n : Int))] [.one (nn (val a / 2 ^ n))]
theorem drop_val {a : List Nat} (ha : WL a) (i : Nat) : val a / 4294967296 ^ i = val (a.drop i) := by
  by_cases h : i ≤ a.length
  · have h1 := val_take_drop a i
    have h2 := val_lt (ha.take i)
    have h3 : (a.take i).length = i := by simp [h]
    rw [h3] at h1 h2
    rw [h1, Nat.add_mul_div_left _ _ (Nat.pow_pos (by omega)), Nat.div_eq_of_lt h2, Nat.zero_add]
  · rw [List.drop_eq_nil_of_le (by omega), Nat.div_eq_of_lt]
    · rfl
    · exact Nat.lt_of_lt_of_le (val_lt ha) (Nat.pow_le_pow_right (by omega) (by omega))
theorem w_shr (c1 : CTrim P) {a : List Nat} {n : Nat} (ha : WF a) (hn : n < 32) : IRwp P [] [nl a, .int .i64 (n : Int)] ir_nat_shr (· = [.one (nn (val a / 2 ^ n))]) := by
  obtain ⟨ha, hla⟩ := ha
  unfold ir_nat_shr
  have hpow : 0 < 2 ^ n := Nat.two_pow_pos n
  simp (disch := omega) only [STP]
  refine loop_step (fun ds => ∃ (i : Int) (out : List Nat), ds = [nl a, .int .i64 (n : Int), .int .i64 a.length, .int .i64 i, nl out] ∧ 0 ≤ i ∧ i ≤ a.length ∧ WL out ∧ out.length = a.length ∧
    val (out.take i.toNat) = (val a / 2 ^ n) % 4294967296 ^ i.toNat) (numf (fun i => (a.length - i).toNat) 3) ?_ ?_ ?_
  · exact ⟨0, List.replicate a.length 0, rfl, by omega, by omega, WL.rep _, by simp, by simp [val, Nat.mod_one]⟩
  · rintro ds ⟨i, out, rfl, _⟩; rfl
  · rintro ds ⟨i, out, rfl, h0, h1, hw, hlo, hv⟩
    simp (disch := omega) only [STP]
    refine ite_step rfl ?_ ?_
    · intro hi
      have hx := ha.getD i.toNat
      have hh := ha.getD (i.toNat + 1)
      have g1 := val_getD_drop a i.toNat
      have g2 := val_getD_drop a (i.toNat + 1)
      rw [g2] at g1
      have key := shr_digit (V := val a) (p := 4294967296 ^ i.toNat) (n := n) (by omega) rfl (Nat.pow_pos (by omega)) ((drop_val ha i.toNat).trans g1)
      have e5 : ∀ z : Nat, Prim.den (.conv .u32) [.int .u64 ((z : Int) / ((2 ^ n : Nat) : Int))] = some (.int .u32 ((z / 2 ^ n % 4294967296 : Nat) : Int)) := fun z => by rw [d_conv32]; simp
      have fin : ∀ z : Nat, z = a.getD (i.toNat + 1) 0 * 4294967296 + a.getD i.toNat 0 → (∃ (i' : Int) (out' : List Nat), [nl a, DV.int .i64 (n : Int), .int .i64 a.length, .int .i64 (i + 1), nl (out.set i.toNat (z / 2 ^ n % 4294967296))] = [nl a, .int .i64 (n : Int), .int .i64 a.length, .int .i64 i', nl out'] ∧ 0 ≤ i' ∧ i' ≤ a.length ∧ WL out' ∧ out'.length = a.length ∧
          val (out'.take i'.toNat) = (val a / 2 ^ n) % 4294967296 ^ i'.toNat) ∧ (a.length - (i + 1)).toNat < (a.length - i).toNat := by
        intro z hz
        refine ⟨⟨_, _, rfl, by omega, by omega, hw.set (Nat.mod_lt _ (by decide)), by simp [hlo], ?_⟩, by omega⟩
        rw [show (i + 1).toNat = i.toNat + 1 by omega, val_take_getD, getD_set_eq (by omega), List.take_set_of_le (Nat.le_refl _), hv, Nat.mod_pow_succ, key, hz]
      simp (disch := omega) only [STP]
      refine ite_step rfl ?_ ?_
      · intro hj
        have e6 : (i + 1).toNat = i.toNat + 1 := by omega
        have e7 : ((a.getD (i.toNat + 1) 0 : Nat) : Int) * 4294967296 + ((a.getD i.toNat 0 : Nat) : Int) = ((a.getD (i.toNat + 1) 0 * 4294967296 + a.getD i.toNat 0 : Nat) : Int) := by simp
        simp (disch := omega) only [STP, d_or64, e6, e7, d_shrn, e5]
        exact jump_step rfl (fin _ rfl)
      · intro hj
        simp (disch := omega) only [STP, d_or0, d_shrn, e5]
        refine jump_step rfl (fin _ ?_)
        have : a.getD (i.toNat + 1) 0 = 0 := by simp [List.getD_eq_getElem?_getD, List.getElem?_eq_none (show a.length ≤ i.toNat + 1 by omega)]
        rw [this]; omega
    · intro hi
      refine call_step (c1 out hw (by omega)) rfl ?_
      refine ret_step ?_
      show [AV.one (nn (val out))] = _
      rw [val_take_all (by omega)] at hv
      rw [hv, Nat.mod_eq_of_lt]
      refine Nat.lt_of_le_of_lt (Nat.div_le_self _ _) ?_
      rw [show i.toNat = a.length by omega]
      exact val_lt ha

end Go.Px.Na
/- Wn4: naturals: Shl, DivMod. -/
set_option linter.unusedSimpArgs false
set_option linter.unusedVariables false
namespace Go.Px.Na
open Go.RowKit
variable {P : Program}

theorem den_or32 (a b : Nat) (ha : a < 4294967296) (hb : b < 4294967296) : Prim.den (.bin .or) [.int .u32 (a : Int), .int .u32 (b : Int)] = some (.int .u32 ((a ||| b : Nat) : Int)) := by
  simp only [Prim.den, Prim.bin1, binInt]
  rw [if_neg (by simp)]
  have e : (BitVec.ofInt IntKind.u32.bits (a : Int) ||| BitVec.ofInt IntKind.u32.bits (b : Int)).toNat = a ||| b := by
    show (BitVec.ofInt 32 (a : Int) ||| BitVec.ofInt 32 (b : Int)).toNat = a ||| b
    simp [Nat.mod_eq_of_lt ha, Nat.mod_eq_of_lt hb]
  have hlt : a ||| b < 2 ^ 32 := Nat.or_lt_two_pow (by simpa using ha) (by simpa using hb)
  rw [e, wu32 (by omega) (by omega)]

theorem shl_digit {x c s : Nat} (hs : s < 32) (hx : x < 4294967296) (hc : c < 2 ^ s) :
    ((x * 2 ^ s % 4294967296) ||| c) = (x * 2 ^ s + c) % 4294967296 ∧ x / 2 ^ (32 - s) = (x * 2 ^ s + c) / 4294967296 ∧ (x * 2 ^ s + c) / 4294967296 < 2 ^ s := by
  have hB : (4294967296 : Nat) = 2 ^ (32 - s) * 2 ^ s := by rw [← Nat.pow_add, show 32 - s + s = 32 by omega]
  have hp := Nat.two_pow_pos s
  have hp2 := Nat.two_pow_pos (32 - s)
  have h1 : x * 2 ^ s % 4294967296 = x % 2 ^ (32 - s) * 2 ^ s := by
    conv => lhs; rw [hB]
    rw [Nat.mul_mod_mul_right]
  have h2 := Nat.mod_add_div x (2 ^ (32 - s))
  have h3 : x % 2 ^ (32 - s) < 2 ^ (32 - s) := Nat.mod_lt _ hp2
  rw [h1, or_add hc]
  generalize x % 2 ^ (32 - s) = y at *
  generalize x / 2 ^ (32 - s) = t at *
  have h4 : x * 2 ^ s + c = y * 2 ^ s + c + 4294967296 * t := by
    rw [← h2, hB]; grind
  have h5 : (y + 1) * 2 ^ s ≤ 4294967296 := by rw [hB]; exact Nat.mul_le_mul_right _ h3
  have h6 : y * 2 ^ s + c < 4294967296 := by rw [Nat.add_mul, Nat.one_mul] at h5; omega
  have h7 : (x * 2 ^ s + c) / 4294967296 < 2 ^ s := by
    rw [Nat.div_lt_iff_lt_mul (by omega)]
    have : (x + 1) * 2 ^ s ≤ 4294967296 * 2 ^ s := Nat.mul_le_mul_right _ hx
    rw [Nat.add_mul, Nat.one_mul] at this
    rw [Nat.mul_comm (2 ^ s)]
    omega
  refine ⟨?_, ?_, h7⟩
  · rw [h4, Nat.add_mul_mod_self_left, Nat.mod_eq_of_lt h6]
  · rw [h4, Nat.add_mul_div_left _ _ (by omega), Nat.div_eq_of_lt h6, Nat.zero_add]

theorem d_shlx {k' : IntKind} {x s : Nat} (hs : s < 32) : Prim.den (.bin .shl) [.int .u32 (x : Int), .int k' (s : Int)] = some (.int .u32 ((x * 2 ^ s % 4294967296 : Nat) : Int)) := by
  simp only [Prim.den, Prim.bin1, binInt]
  rw [if_neg (by omega), wu32', Int.toNat_natCast, show min s IntKind.u32.bits = s from Nat.min_eq_left (by show s ≤ 32; omega)]
  simp

theorem shl_step {p vo va x c q r s : Nat} (h : vo + p * c = va) (h2 : q * 4294967296 + r = x * s + c) : vo + p * r + p * 4294967296 * q = va + p * (x * s) := by
  have : p * (q * 4294967296 + r) = p * (x * s + c) := by rw [h2]
  grind

def shlRes (v : Nat) (k : Int) : List AV := if k < 0 ∨ 65536 < k then [.own 1 TU32 0 [], .one (.bool false)] else [.own 1 TU32 (limbs (v * 2 ^ k.toNat)).length (ul (limbs (v * 2 ^ k.toNat))), .one (.bool true)]
def CShl (P : Program) : Prop := ∀ a (k : Int), WF a → PureCalls P F.nat_Shl [.one (nl a), .one (.int .i64 k)] (shlRes (val a) k)
theorem w_shl (c1 : CTrim P) {a : List Nat} {k : Int} (ha : WF a) : IRwp P [] [nl a, .int .i64 k] ir_nat_Shl (· = shlRes (val a) k) := by
  obtain ⟨ha, hla⟩ := ha
  unfold ir_nat_Shl
  simp (disch := omega) only [STP]
  refine ite_step rfl ?_ ?_
  · intro h
    unfold shlRes
    rw [if_pos (by omega)]
    exact ret_step rfl
  · intro h
    simp (disch := omega) only [STP]
    refine ite_step rfl ?_ ?_
    · intro h
      unfold shlRes
      rw [if_pos (by omega)]
      exact ret_step rfl
    · intro h
      have hres : shlRes (val a) k = [.own 1 TU32 (limbs (val a * 2 ^ k.toNat)).length (ul (limbs (val a * 2 ^ k.toNat))), .one (.bool true)] := by
        unfold shlRes; rw [if_neg (by omega)]
      rw [hres]
      obtain ⟨s, hs⟩ : ∃ s : Nat, (s : Int) = k % 32 := ⟨(k % 32).toNat, by omega⟩
      obtain ⟨m, hm⟩ : ∃ m : Nat, (m : Int) = k / 32 := ⟨(k / 32).toNat, by omega⟩
      have hk : k.toNat = 32 * m + s := by omega
      have hs32 : s < 32 := by omega
      simp (disch := omega) only [STP, ← hm]
      refine call_step (c1 a ha (by omega)) rfl ?_
      have l1 := limbs_len_le ha
      have wa := WL_limbs (val a)
      have va := val_limbs (val a)
      simp only [nn]
      rw [hk]
      generalize val a = v at *
      generalize limbs v = A at *
      simp (disch := omega) only [STP]
      refine loop_step (fun ds => ∃ (i : Int) (c : Nat) (out : List Nat), ds = [.int .i64 k, .int .u32 (c : Int), nl A, .int .i64 A.length, .int .i64 i, nl out] ∧ 0 ≤ i ∧ i ≤ A.length ∧ c < 2 ^ s ∧ WL out ∧ out.length = m + i.toNat ∧
        val out + 4294967296 ^ (m + i.toNat) * c = 4294967296 ^ m * 2 ^ s * val (A.take i.toNat)) (numf (fun i => (A.length - i).toNat) 4) ?_ ?_ ?_
      · exact ⟨0, 0, _, rfl, by omega, by omega, Nat.two_pow_pos s, WL.rep _, by simp, by simp [val, val_rep]⟩
      · rintro ds ⟨i, c, out, rfl, _⟩; rfl
      · rintro ds ⟨i, c, out, rfl, h0, h1, hc, hw, hlo, hv⟩
        have hcs : 2 ^ s < 4294967296 := Nat.pow_lt_pow_right (a := 2) (m := s) (n := 32) (by omega) hs32
        have hcB : c < 4294967296 := Nat.lt_trans hc hcs
        simp (disch := omega) only [STP]
        refine ite_step rfl ?_ ?_
        · intro hi
          have hx := wa.getD i.toNat
          obtain ⟨g1, g2, g3⟩ := shl_digit hs32 hx hc
          have gm := Nat.mod_lt ((A.getD i.toNat 0) * 2 ^ s + c) (show 0 < 4294967296 by decide)
          have gd := Nat.div_add_mod ((A.getD i.toNat 0) * 2 ^ s + c) 4294967296
          have e1 : Prim.den (.bin .or) [.int .u32 ((A.getD i.toNat 0 * 2 ^ s % 4294967296 : Nat) : Int), .int .u32 (c : Int)] = some (.int .u32 (((A.getD i.toNat 0 * 2 ^ s + c) % 4294967296 : Nat) : Int)) := by
            rw [den_or32 _ _ (Nat.mod_lt _ (by decide)) hcB, g1]
          have e2 : Prim.den (.bin .shr) [.int .u64 ((A.getD i.toNat 0 : Nat) : Int), .int .i64 (32 - (s : Int))] = some (.int .u64 (((A.getD i.toNat 0 * 2 ^ s + c) / 4294967296 : Nat) : Int)) := by
            rw [d_shrn (by omega) (by omega) (by omega), ← g2, show (32 - (s : Int)).toNat = 32 - s by omega]; simp
          have e3 : Prim.den (.conv .u32) [.int .u64 (((A.getD i.toNat 0 * 2 ^ s + c) / 4294967296 : Nat) : Int)] = some (.int .u32 (((A.getD i.toNat 0 * 2 ^ s + c) / 4294967296 : Nat) : Int)) := by
            have g4 : 2 ^ s < 4294967296 := hcs
            exact d_conv32' (Int.natCast_nonneg _) (by have := Nat.lt_trans g3 g4
                                                       omega)
          have e4 : Prim.den (.bin .shl) [.int .u32 ((A.getD i.toNat 0 : Nat) : Int), .int .i64 (s : Int)] = _ := d_shlx (k' := .i64) (x := A.getD i.toNat 0) hs32
          simp (disch := omega) only [STP, ← hs, e1, e2, e3, e4]
          refine jump_step rfl ⟨⟨_, _, _, rfl, by omega, by omega, g3, hw.append (WL.single gm), by simp [hlo]; omega, ?_⟩, ?_⟩
          · rw [show (i + 1).toNat = i.toNat + 1 by omega, val_take_getD, val_snoc, hlo, ← Nat.add_assoc, Nat.pow_succ]
            have := shl_step (x := A.getD i.toNat 0) (s := 2 ^ s) hv (by rw [Nat.mul_comm]; exact gd)
            rw [this, Nat.pow_add]
            grind
          · show (A.length - (i + 1) : Int).toNat < (A.length - i : Int).toNat
            omega
        · intro hi
          simp (disch := omega) only [STP]
          have hw' := hw.append (WL.single hcB)
          have hv' : val (out ++ [c]) = v * 2 ^ (32 * m + s) := by
            rw [val_snoc, hlo, hv, val_take_all (by omega), va, Nat.pow_add, Nat.pow_mul, show (2 : Nat) ^ 32 = 4294967296 from rfl]
            grind
          have hl' : (out ++ [c]).length ≤ 4398046600000 := by simp; omega
          rw [← hv']
          generalize out ++ [c] = o at *
          refine loop_step (fun ds => ∃ n : Int, ds = [.int .i64 n, .int .i64 k, .int .u32 (c : Int), nl o] ∧ 0 ≤ n ∧ n ≤ o.length ∧ val (o.take n.toNat) = val o) (num 0) ?_ ?_ ?_
          · exact ⟨o.length, rfl, by omega, by omega, by simp⟩
          · rintro ds ⟨n, rfl, _⟩; rfl
          · rintro ds ⟨n, rfl, h0, hn, hv⟩
            simp (disch := omega) only [STP]
            refine ite_step rfl ?_ ?_
            · intro hb
              simp (disch := omega) only [STP]
              refine ite_step rfl ?_ ?_
              · intro hz
                simp (disch := omega) only [STP]
                refine jump_step rfl ⟨⟨_, rfl, by omega, by omega, ?_⟩, ?_⟩
                · rw [val_cut (by omega) (by omega), ← hv]; congr 2; omega
                · show (n - 1).toNat < n.toNat; omega
              · intro hz
                simp (disch := omega) only [STP]
                refine ret_step ?_
                show [AV.own 1 TU32 (o.take n.toNat).length (ul (o.take n.toNat)), AV.one (.bool true)] = _
                rw [limbs_of_take hw' (by omega) hv (.inr (by rw [show n.toNat - 1 = (n - 1).toNat by omega]; omega))]
            · intro hb
              simp (disch := omega) only [STP]
              refine ret_step ?_
              show [AV.own 1 TU32 (o.take n.toNat).length (ul (o.take n.toNat)), AV.one (.bool true)] = _
              rw [limbs_of_take hw' (by omega) hv (.inl (by omega))]

def CLong (P : Program) : Prop := ∀ m n : Nat, (limbs m).length ≤ 4398000000000 → n ≤ m → 2 ≤ (limbs n).length → PureCalls P F.nat_long [.one (nn m), .one (nn n)] [.one (nn (m / n)), .one (nn (m % n))]

def divRes (m n : Nat) : List AV := if n = 0 then [.one (nl []), .one (nl []), .one (.bool false)] else [.one (nn (m / n)), .one (nn (m % n)), .one (.bool true)]
def CDivMod (P : Program) : Prop := ∀ a b, WF a → WF b → PureCalls P F.nat_DivMod [.one (nl a), .one (nl b)] (divRes (val a) (val b))
theorem w_divmod (c1 : CTrim P) (c2 : CCmp P) (c3 : CNorm P) (c4 : CSmall P) (c5 : CLong P) {a b : List Nat} (ha : WF a) (hb : WF b) : IRwp P [] [nl a, nl b] ir_nat_DivMod (· = divRes (val a) (val b)) := by
  obtain ⟨ha, hla⟩ := ha
  obtain ⟨hb, hlb⟩ := hb
  unfold ir_nat_DivMod
  refine call_step (c1 a ha (by omega)) rfl ?_
  refine call_step (c1 b hb (by omega)) rfl ?_
  have l1 := limbs_len_le ha
  have l2 := limbs_len_le hb
  generalize val a = m at *
  generalize val b = n at *
  have wm : WF (limbs m) := ⟨WL_limbs m, by omega⟩
  have wn : WF (limbs n) := ⟨WL_limbs n, by omega⟩
  simp only [nn]
  simp (disch := omega) only [STP]
  refine ite_step rfl ?_ ?_
  · intro h
    have : n = 0 := limbs_eq_nil.1 (List.eq_nil_of_length_eq_zero (by omega))
    unfold divRes; rw [if_pos this]
    exact ret_step rfl
  · intro h
    have hn : n ≠ 0 := fun hz => by rw [hz, limbs_zero] at h; simp at h
    have hr : divRes m n = [.one (nn (m / n)), .one (nn (m % n)), .one (.bool true)] := by unfold divRes; rw [if_neg hn]
    rw [hr]
    refine call_step (c2 _ _ wm wn) rfl ?_
    simp (disch := omega) only [STP]
    refine ite_step rfl ?_ ?_
    · intro h
      have hlt : m < n := by unfold cmpI at h; split at h <;> first | assumption | (split at h <;> omega)
      refine call_step (c3 _ wm) rfl ?_
      rw [Nat.div_eq_of_lt hlt, Nat.mod_eq_of_lt hlt]
      refine ret_step ?_
      show [AV.one (nl []), AV.one (nn (val (limbs m))), AV.one (.bool true)] = _
      rw [val_limbs]; unfold nn; rw [limbs_zero]
    · intro h
      have hge : n ≤ m := by unfold cmpI at h; split at h <;> omega
      simp (disch := omega) only [STP]
      refine ite_step rfl ?_ ?_
      · intro h1
        simp (disch := omega) only [STP]
        have hv : val (limbs n) = (limbs n).getD (Int.toNat 0) 0 := by
          match hl : limbs n with
          | [] => rw [hl] at h1; simp at h1
          | [x] => simp [val_single]
          | x :: y :: r => rw [hl] at h1; simp at h1; omega
        rw [val_limbs] at hv
        have h4 := c4 (limbs m) n wm (by omega) (by rw [hv]; exact wn.1.getD _)
        have e : (((limbs n).getD (Int.toNat 0) 0 : Nat) : Int) = (n : Int) := by rw [← hv]
        rw [← e] at h4
        refine call_step h4 rfl ?_
        refine ret_step ?_
        show [AV.one (nn (val (limbs m) / n)), AV.one (nn (val (limbs m) % n)), AV.one (.bool true)] = _
        rw [val_limbs]
      · intro h1
        refine call_step (c5 m n (by omega) hge (by omega)) rfl ?_
        exact ret_step rfl

end Go.Px.Na
/- Wn5: naturals: the long division. -/
set_option maxRecDepth 10000
set_option linter.unusedSimpArgs false
set_option linter.unusedVariables false
namespace Go.Px.Na
open Go.RowKit
variable {P : Program}

theorem val_lt_of_zeros {u : List Nat} {K : Nat} (hw : WL u) (h : ∀ k, K ≤ k → u.getD k 0 = 0) : val u < 4294967296 ^ K := by
  have hz : ∀ (n i : Nat), K ≤ i → u.length ≤ i + n → val (u.drop i) = 0 := by
    intro n
    induction n with
    | zero => intro i _ hi; rw [List.drop_eq_nil_of_le (by omega)]; rfl
    | succ n ih => intro i hi hl; rw [val_getD_drop, h i hi, ih (i + 1) (by omega) (by omega)]
  have h1 := val_take_drop u K
  rw [hz u.length K (Nat.le_refl _) (by omega), Nat.mul_zero, Nat.add_zero] at h1
  rw [h1]
  refine Nat.lt_of_lt_of_le (val_lt (hw.take K)) (Nat.pow_le_pow_right (by omega) (by simp; omega))
theorem zeros_of_lt {u : List Nat} {K : Nat} (hw : WL u) (h : val u < 4294967296 ^ K) : ∀ k, K ≤ k → u.getD k 0 = 0 := by
  intro k hk
  have h1 := drop_val hw k
  rw [Nat.div_eq_of_lt (Nat.lt_of_lt_of_le h (Nat.pow_le_pow_right (by omega) hk))] at h1
  rw [val_getD_drop] at h1
  omega
/-- Two digits of a number. -/
theorem two_digits {u : List Nat} (hw : WL u) (i : Nat) : val u / 4294967296 ^ i = u.getD i 0 + 4294967296 * (val u / 4294967296 ^ (i + 1)) := by
  rw [drop_val hw, drop_val hw, val_getD_drop]

structure KF (D V Q top t2 v1 w2 u2 v2 : Nat) : Prop where
  hq : Q = D / V
  h0 : 0 < V
  htop : top < 4294967296 * (v1 + 1)
  e1 : t2 = top * 4294967296 + u2
  e2 : w2 = v1 * 4294967296 + v2
  hv2 : v2 < 4294967296
  down : ∀ g, t2 < g * w2 → Q < g
  up : ∀ g, g < 4294967296 → g * w2 ≤ t2 → g ≤ Q + 1
  qB : Q < 4294967296
  first : Q ≤ top / v1
  hv1 : 0 < v1

theorem kf_end {D V g Q top t2 v1 w2 u2 v2 r : Nat} (K : KF D V Q top t2 v1 w2 u2 v2) (h : g * v1 + r = top) (hg : g < 4294967296) (hr : g * v2 ≤ r * 4294967296 + u2) : g ≤ Q + 1 := by
  refine K.up g hg ?_
  rw [K.e1, K.e2, ← h, Nat.mul_add, ← Nat.mul_assoc, Nat.add_mul]
  omega
theorem kf_break {D V g Q top t2 v1 w2 u2 v2 r : Nat} (K : KF D V Q top t2 v1 w2 u2 v2) (h : g * v1 + r = top) (hr : 4294967296 ≤ r) : g < 4294967296 ∧ g ≤ Q + 1 := by
  have hg : g < 4294967296 := by
    rcases Nat.lt_or_ge g 4294967296 with h1 | h1
    · exact h1
    · exfalso
      have := Nat.mul_le_mul_right v1 h1
      have := K.htop
      rw [Nat.mul_add] at this
      omega
  refine ⟨hg, kf_end K h hg ?_⟩
  have := Nat.mul_lt_mul'' hg K.hv2
  have := Nat.mul_le_mul_right 4294967296 hr
  omega
theorem kf_down_aux {g t2 top w2 u2 v1 v2 r : Nat} (k1 : t2 = top * 4294967296 + u2) (k2 : w2 = v1 * 4294967296 + v2) (h : g * v1 + r = top) (hr : r * 4294967296 + u2 < g * v2) : t2 < g * w2 := by
  have e : (g * v1 + r) * 4294967296 = g * v1 * 4294967296 + r * 4294967296 := Nat.add_mul _ _ _
  have e' : g * (v1 * 4294967296 + v2) = g * v1 * 4294967296 + g * v2 := by rw [Nat.mul_add g, Nat.mul_assoc g]
  subst h
  subst k1 k2
  rw [e, e']
  exact Nat.lt_of_le_of_lt (Nat.le_of_eq (Nat.add_assoc _ _ _)) (Nat.add_lt_add_left hr _)
theorem kf_down {D V g Q top t2 v1 w2 u2 v2 r : Nat} (K : KF D V Q top t2 v1 w2 u2 v2) (h : g * v1 + r = top) (hr : r * 4294967296 + u2 < g * v2) : Q < g := K.down g (kf_down_aux K.e1 K.e2 h hr)

theorem kf_make {D V : Nat} {n : Nat} {v1 v2 : Nat} (hn : 2 ≤ n) (hD : D < 4294967296 * V) (hV : 4294967296 ^ (n - 1) ≤ V) (h1 : V / 4294967296 ^ (n - 1) = v1) (h2 : V / 4294967296 ^ (n - 2) = v1 * 4294967296 + v2) (hv2 : v2 < 4294967296)
    {u2 : Nat} (h3 : D / 4294967296 ^ (n - 2) = D / 4294967296 ^ (n - 1) * 4294967296 + u2) :
    KF D V (D / V) (D / 4294967296 ^ (n - 1)) (D / 4294967296 ^ (n - 2)) v1 (V / 4294967296 ^ (n - 2)) u2 v2 := by
  have p1 : 0 < 4294967296 ^ (n - 1) := Nat.pow_pos (by omega)
  have p2 : 0 < 4294967296 ^ (n - 2) := Nat.pow_pos (by omega)
  have V0 : 0 < V := by omega
  have hv1 : 0 < v1 := by rw [← h1]; exact Nat.div_pos hV p1
  have d1 := Nat.div_add_mod D (4294967296 ^ (n - 1))
  have d2 := Nat.div_add_mod D (4294967296 ^ (n - 2))
  have d3 := Nat.div_add_mod V (4294967296 ^ (n - 1))
  have d4 := Nat.div_add_mod V (4294967296 ^ (n - 2))
  have m1 := Nat.mod_lt D p1
  have m2 := Nat.mod_lt D p2
  have m3 := Nat.mod_lt V p1
  have m4 := Nat.mod_lt V p2
  have hpp : 4294967296 ^ (n - 1) = 4294967296 * 4294967296 ^ (n - 2) := by
    rw [show n - 1 = (n - 2) + 1 by omega, Nat.pow_succ, Nat.mul_comm]
  refine { hq := rfl, h0 := V0, htop := ?_, e1 := h3, e2 := h2, hv2 := hv2, down := fun g h => ?_, up := fun g hg h => ?_, qB := ?_, first := ?_, hv1 := hv1 }
  · rw [Nat.div_lt_iff_lt_mul p1]
    rw [h1] at d3
    have : 4294967296 * V < 4294967296 * ((v1 + 1) * 4294967296 ^ (n - 1)) := Nat.mul_lt_mul_of_pos_left (by rw [Nat.add_mul, Nat.one_mul, Nat.mul_comm v1]; omega) (by omega)
    rw [← Nat.mul_assoc] at this
    omega
  · exact lt_of_div_lt V0 (knuth_down (by rw [Nat.mul_comm]; exact d2.symm) m2 (by rw [Nat.mul_comm]; exact d4.symm) h)
  · exact le_succ_div V0 (knuth_up (by rw [Nat.mul_comm]; exact d2.symm) (by rw [Nat.mul_comm]; exact d4.symm) m4 hg (by rw [← hpp]; exact hV) h)
  · exact (Nat.div_lt_iff_lt_mul V0).2 hD
  · rw [h1] at d3
    exact knuth_first (by rw [Nat.mul_comm]; exact d1.symm) m1 (by rw [Nat.mul_comm]; exact d3.symm) hv1 p1

theorem less_step {vu' vu'' vu0 p pj pi g va y c b x d b' t : Nat} (hp : p = pj * pi) (h1 : vu'' + p * x = vu' + p * d) (h2 : vu' + pj * g * va = vu0 + p * (c + b)) (ht : t = g * y + c) (h3 : x + 4294967296 * b' = d + t % 4294967296 + b) :
    vu'' + pj * g * (va + pi * y) = vu0 + p * 4294967296 * (t / 4294967296 + b') := by
  have h4 := Nat.mod_add_div t 4294967296
  generalize t % 4294967296 = r at *
  generalize t / 4294967296 = q at *
  have h5 : p * (r + 4294967296 * q) = p * (g * y + c) := by rw [h4, ht]
  have h6 : p * (x + 4294967296 * b') = p * (d + r + b) := by rw [h3]
  subst hp
  grind
theorem less_last {vu' vu'' vu0 p pj g V c b x d b' : Nat} (h1 : vu'' + p * x = vu' + p * d) (h2 : vu' + pj * g * V = vu0 + p * (c + b)) (h3 : x + 4294967296 * b' = d + c + b) : vu'' + pj * g * V = vu0 + p * 4294967296 * b' := by
  have h6 : p * (x + 4294967296 * b') = p * (d + c + b) := by rw [h3]
  grind
theorem back_step {vu' vu'' vu0 p pj pi va y c x : Nat} (hp : p = pj * pi) (h1 : vu'' + p * x = vu' + p * ((x + y + c) % 4294967296)) (h2 : vu' + p * c = vu0 + pj * va) : vu'' + p * 4294967296 * ((x + y + c) / 4294967296) = vu0 + pj * (va + pi * y) := by
  have h4 := Nat.mod_add_div (x + y + c) 4294967296
  generalize (x + y + c) % 4294967296 = r at *
  generalize (x + y + c) / 4294967296 = q at *
  have h5 : p * (r + 4294967296 * q) = p * (x + y + c) := by rw [h4]
  subst hp
  grind
theorem back_last {vu' vu'' vu0 p pj V c x : Nat} (h1 : vu'' + p * x = vu' + p * ((x + c) % 4294967296)) (h2 : vu' + p * c = vu0 + pj * V) : vu'' + p * 4294967296 * ((x + c) / 4294967296) = vu0 + pj * V := by
  have h4 := Nat.mod_add_div (x + c) 4294967296
  generalize (x + c) % 4294967296 = r at *
  generalize (x + c) / 4294967296 = q at *
  have h5 : p * (r + 4294967296 * q) = p * (x + c) := by rw [h4]
  grind
/-- A guess by one too high, mended. -/
theorem back_mend {u0 u1 u3 pj g V W e : Nat} (h1 : u1 + pj * g * V = u0 + W) (h3 : u3 + W * e = u1 + pj * V) (he : e ≤ 1) (hlt : u3 < W) (hg : 0 < g) (hq : pj * (g - 1) * V ≤ u0) : u3 + pj * (g - 1) * V = u0 := by
  obtain ⟨k, rfl⟩ : ∃ k, g = k + 1 := ⟨g - 1, by omega⟩
  have e1 : pj * (k + 1) * V = pj * k * V + pj * V := by grind
  rw [e1] at h1
  simp only [Nat.add_sub_cancel] at hq ⊢
  have : e = 0 ∨ e = 1 := by omega
  rcases this with rfl | rfl
  · exfalso; omega
  · omega
theorem sub32_eq {x y b : Nat} (hx : x < 4294967296) (hy : y < 4294967296) (hb : b ≤ 1) : x + 4294967296 * (if x < y + b then 1 else 0) = (x + 8589934592 - y - b) % 4294967296 + y + b := by split <;> omega

def lenAt (N i : Nat) (ds : List DV) : Nat := match ds[i]? with | some (.list n _) => N - n | _ => 0

def long_body : IR := match ir_nat_long with
  | .prim _ _ (.prim _ _ (.prim _ _ (.prim _ _ (.call _ _ _ (.call _ _ _ (.call _ _ _ (.prim _ _ (.loop _ (.prim _ _ (.prim _ _ (.prim _ _ (.ite _ _ (.prim _ _ (.prim _ _ (.prim _ _ (.prim _ _ (.prim _ _ (.prim _ _ (.loop _ b)))))))))))))))))))  => b
  | _ => .bad
def long_after : IR := match long_body with
  | .prim _ _ (.ite _ (.prim _ _ (.prim _ _ (.prim _ _ (.prim _ _ (.prim _ _ (.prim _ _ (.prim _ _ (.prim _ _ (.prim _ _ (.prim _ _ (.prim _ _ (.prim _ _ (.prim _ _ (.prim _ _ (.prim _ _ (.prim _ _ (.prim _ _ (.prim _ _ (.prim _ _ (.prim _ _ (.prim _ _ (.join _ b)))))))))))))))))))))) _) => b
  | _ => .bad
def long_guess : IR := match long_body with
  | .prim _ _ (.ite _ (.prim _ _ (.prim _ _ (.prim _ _ (.prim _ _ (.prim _ _ (.prim _ _ (.prim _ _ (.prim _ _ (.prim _ _ (.prim _ _ (.prim _ _ (.prim _ _ (.prim _ _ (.prim _ _ (.prim _ _ (.prim _ _ (.prim _ _ (.prim _ _ (.prim _ _ (.prim _ _ (.prim _ _ (.join b _)))))))))))))))))))))) _) => b
  | _ => .bad

/-- What the main loop keeps. -/
def LInv (s n m : Nat) (V : Nat) (v : List Nat) (A : Nat) (ds : List DV) : Prop :=
  ∃ (j : Int) (u q : List Nat), ds = [.int .i64 (s : Int), .int .i64 (n : Int), .int .i64 j, nl v, nl u, nl q] ∧ -1 ≤ j ∧ j + n < m ∧ WL u ∧ u.length = m ∧ WL q ∧ q.length + n = m ∧
    val (u.drop (j + 1).toNat) < V ∧ A = val u + V * (4294967296 ^ (j + 1).toNat * val (q.drop (j + 1).toNat))

section
variable {s n m : Nat} {v u q : List Nat} {j : Nat} {As : List (List DV → Prop)} {Q : List AV → Prop}

/-- What the guess ends with. -/
def J1 (s n j : Nat) (v u q : List Nat) (Qd : Nat) (ds : List DV) : Prop :=
  ∃ g : Nat, ds = [.int .i64 (s : Int), .int .i64 (n : Int), .int .i64 (j : Int), .int .u64 (g : Int), nl v, nl u, nl q] ∧ g < 4294967296 ∧ Qd ≤ g ∧ g ≤ Qd + 1
/-- What the taking away ends with. -/
def J2 (s n j : Nat) (v u q : List Nat) (Qd : Nat) (ds : List DV) : Prop :=
  ∃ u' : List Nat, ds = [.int .i64 (s : Int), .int .i64 (n : Int), .int .i64 (j : Int), .int .u64 (Qd : Int), nl v, nl u', nl q] ∧ WL u' ∧ u'.length = u.length ∧ val u' + 4294967296 ^ j * Qd * val v = val u

theorem w_guess {X Y : List DV → Prop} {D Qd : Nat} (hv : WL v) (hlv : v.length = n) (hn : 2 ≤ n) (hu : WL u) (hju : j + n < u.length) (hm : u.length ≤ 4398046600000) (K : KF D (val v) Qd (u.getD (j + n) 0 * 4294967296 + u.getD (j + n - 1) 0) (D / 4294967296 ^ (n - 2)) (v.getD (n - 1) 0) (val v / 4294967296 ^ (n - 2)) (u.getD (j + n - 2) 0) (v.getD (n - 2) 0))
    {ρ : List DV} (h22 : ρ[22]? = some (.int .u64 (((u.getD (j + n) 0 * 4294967296 + u.getD (j + n - 1) 0) / v.getD (n - 1) 0 : Nat) : Int))) (h27 : ρ[27]? = some (.int .u64 (((u.getD (j + n) 0 * 4294967296 + u.getD (j + n - 1) 0) % v.getD (n - 1) 0 : Nat) : Int)))
    (h0 : ρ[0]? = some (.int .i64 (s : Int))) (h1 : ρ[1]? = some (.int .i64 (n : Int))) (h2 : ρ[2]? = some (.int .i64 (j : Int))) (h3 : ρ[3]? = some (nl v)) (h4 : ρ[4]? = some (nl u)) (h5 : ρ[5]? = some (nl q)) :
    IRwp P [X, Y, J1 s n j v u q Qd] ρ long_guess Q := by
  have ht1 := hu.getD (j + n)
  have ht2 := hu.getD (j + n - 1)
  have hu2 := hu.getD (j + n - 2)
  have hv1 := hv.getD (n - 1)
  have hv2 := hv.getD (n - 2)
  generalize hd1 : v.getD (n - 1) 0 = v1 at *
  generalize hd2 : v.getD (n - 2) 0 = v2 at *
  generalize hd3 : u.getD (j + n - 2) 0 = u2 at *
  generalize htop : u.getD (j + n) 0 * 4294967296 + u.getD (j + n - 1) 0 = top at *
  have htop' : top < 18446744073709551616 := by omega
  have hp1 := K.hv1
  show IRwp P [X, Y, J1 s n j v u q Qd] ρ (.loop [.var 0, .var 1, .var 2, .var 22, .var 27, .var 3, .var 4, .var 5] _) Q
  refine loop_step (fun ds => ∃ g r : Nat, ds = [.int .i64 (s : Int), .int .i64 (n : Int), .int .i64 (j : Int), .int .u64 (g : Int), .int .u64 (r : Int), nl v, nl u, nl q] ∧ g * v1 + r = top ∧ Qd ≤ g ∧ r < 4294967296) (num 3) ?_ ?_ ?_
  · refine ⟨top / v1, top % v1, ?_, ?_, K.first, Nat.lt_trans (Nat.mod_lt _ hp1) hv1⟩
    · simp [A.ev, List.getD_eq_getElem?_getD, h0, h1, h2, h3, h4, h5, h22, h27]
    · rw [Nat.mul_comm]; exact Nat.div_add_mod _ _
  · rintro ds ⟨g, r, rfl, _⟩; rfl
  · rintro ds ⟨g, r, rfl, hgr, hq, hr⟩
    have hg0 : g < 18446744073709551616 := by
      have : g * 1 ≤ g * v1 := Nat.mul_le_mul_left _ hp1
      omega
    have e1 : ((n : Int) - 1).toNat = n - 1 := by omega
    have e2 : ((n : Int) - 2).toNat = n - 2 := by omega
    have e3 : ((j : Int) + n - 2).toNat = j + n - 2 := by omega
    -- one less
    have down : Qd < g → (g - 1) * v1 + (r + v1) = top := by
      intro h
      obtain ⟨k, rfl⟩ : ∃ k, g = k + 1 := ⟨g - 1, by omega⟩
      rw [Nat.add_sub_cancel, ← hgr]; grind
    have eg : 0 < g → (g : Int) - 1 = ((g - 1 : Nat) : Int) := fun h => by omega
    have er : (r : Int) + (v1 : Int) = ((r + v1 : Nat) : Int) := by simp
    have both : Qd < g → ∀ (L : List DV), L = [.int .i64 (s : Int), .int .i64 (n : Int), .int .i64 (j : Int), .int .u64 ((g - 1 : Nat) : Int), .int .u64 ((r + v1 : Nat) : Int), nl v, nl u, nl q] → r + v1 < 4294967296 →
        (fun ds' => (∃ g r : Nat, ds' = [.int .i64 (s : Int), .int .i64 (n : Int), .int .i64 (j : Int), .int .u64 (g : Int), .int .u64 (r : Int), nl v, nl u, nl q] ∧ g * v1 + r = top ∧ Qd ≤ g ∧ r < 4294967296) ∧ num 3 ds' < num 3 [.int .i64 (s : Int), .int .i64 (n : Int), .int .i64 (j : Int), .int .u64 (g : Int), .int .u64 (r : Int), nl v, nl u, nl q]) L := by
      intro h L hL hr'
      subst hL
      refine ⟨⟨_, _, rfl, down h, by omega, hr'⟩, ?_⟩
      show ((g - 1 : Nat) : Int).toNat < (g : Int).toNat
      omega
    have brk : Qd < g → 4294967296 ≤ r + v1 → J1 s n j v u q Qd [.int .i64 (s : Int), .int .i64 (n : Int), .int .i64 (j : Int), .int .u64 ((g - 1 : Nat) : Int), nl v, nl u, nl q] := by
      intro h hr'
      have := kf_break K (down h) hr'
      exact ⟨_, rfl, this.1, by omega, this.2⟩
    simp (disch := omega) only [STP]
    refine ite_step rfl ?_ ?_
    · intro hgB
      have hqg : Qd < g := by have := K.qB; omega
      have eg' := eg (by omega)
      simp (disch := omega) only [STP, e1, hd1, eg', er]
      refine ite_step rfl ?_ ?_
      · intro hb
        exact jump_step rfl (brk hqg (by omega))
      · intro hb
        exact jump_step rfl (both hqg _ rfl (by omega))
    · intro hgB
      simp (disch := omega) only [STP]
      refine ite_step rfl ?_ ?_
      · intro hrB
        have hm := mul_lt64 (show g < 4294967296 by omega) hv2
        obtain ⟨gv, hgv⟩ : ∃ gv : Nat, gv = g * v2 := ⟨_, rfl⟩
        rw [← hgv] at hm
        have em : Prim.den (.bin .mul) [.int .u64 (g : Int), .int .u64 (v2 : Int)] = some (.int .u64 (gv : Int)) := by
          have : (g : Int) * (v2 : Int) = (gv : Int) := by rw [hgv]; simp
          rw [d_mulu (by omega) (by omega), this]
        simp (disch := omega) only [STP, e2, e3, hd2, hd3, em, d_or64]
        refine ite_step rfl ?_ ?_
        · intro ht
          have hqg : Qd < g := kf_down K hgr (by rw [← hgv]; omega)
          have eg' := eg (by omega)
          simp (disch := omega) only [STP, e1, hd1, eg', er]
          refine ite_step rfl ?_ ?_
          · intro hb
            exact jump_step rfl (brk hqg (by omega))
          · intro hb
            exact jump_step rfl (both hqg _ rfl (by omega))
        · intro ht
          refine jump_step rfl ⟨_, rfl, by omega, hq, ?_⟩
          exact kf_end K hgr (by omega) (by rw [← hgv]; omega)
      · intro hrB; exfalso; omega

end
end Go.Px.Na
/- Wn6: naturals: the long division: what is taken away, the main loop. -/
set_option maxRecDepth 10000
set_option linter.unusedSimpArgs false
set_option linter.unusedVariables false
namespace Go.Px.Na
open Go.RowKit
variable {P : Program}
section
variable {s n m : Nat} {v u q : List Nat} {j : Nat} {As : List (List DV → Prop)} {Q : List AV → Prop}

theorem lss_iff {x y b : Nat} : ((((if x < y + b then 1 else 0 : Nat)) : Int) ≠ 0) ↔ x < y + b := by split <;> simp [*]

theorem w_after (c2 : CSub32 P) (c3 : CAdd32 P) {X Y : List DV → Prop} {D Qd g : Nat} (hv : WL v) (hlv : v.length = n) (hn : n ≤ 4398000000000) (hu : WL u) (hju : j + n < u.length) (hm : u.length ≤ 4398046600000) (hlq : q.length + n = u.length)
    (hD : D = val u / 4294967296 ^ j) (hQ : Qd = D / val v) (hV0 : 0 < val v) (hDV : D < 4294967296 * val v) (hg : g < 4294967296) (hg1 : Qd ≤ g) (hg2 : g ≤ Qd + 1) (hs : s < 32)
    (hz : ∀ k, j + n < k → u.getD k 0 = 0)
    (hY : ∀ u', WL u' → u'.length = u.length → val u' + 4294967296 ^ j * Qd * val v = val u → Y [.int .i64 (s : Int), .int .i64 (n : Int), .int .i64 ((j : Int) - 1), nl v, nl u', nl (q.set j Qd)]) :
    IRwp P [X, Y] [.int .i64 (s : Int), .int .i64 (n : Int), .int .i64 (j : Int), .int .u64 (g : Int), nl v, nl u, nl q] long_after Q := by
  have hpj : 0 < 4294967296 ^ j := Nat.pow_pos (by omega)
  -- what the quotient says of the whole
  have hqle : 4294967296 ^ j * Qd * val v ≤ val u := by
    have h1 : Qd * val v ≤ D := by rw [hQ]; exact Nat.div_mul_le_self _ _
    have h2 : 4294967296 ^ j * (Qd * val v) ≤ 4294967296 ^ j * D := Nat.mul_le_mul_left _ h1
    have h3 : 4294967296 ^ j * D ≤ val u := by rw [hD]; exact Nat.mul_div_le _ _
    rw [Nat.mul_assoc]; exact Nat.le_trans h2 h3
  have hgle : 4294967296 ^ j * g * val v ≤ val u → g = Qd := by
    intro h
    have h1 : g * val v ≤ D := by
      rw [hD, Nat.le_div_iff_mul_le hpj, Nat.mul_comm, ← Nat.mul_assoc]; exact h
    have : g ≤ Qd := by rw [hQ]; exact (Nat.le_div_iff_mul_le hV0).2 h1
    omega
  have hQB : Qd < 4294967296 := by rw [hQ]; exact (Nat.div_lt_iff_lt_mul hV0).2 hDV
  show IRwp P [X, Y] _ (.join _ _) Q
  refine join_step (J2 s n j v u q Qd) ?_ ?_
  · have ecut : ((j : Int) + (n : Int) + 1 - (j : Int)) = (n : Int) + 1 := by omega
    have evl : (v.length : Int) = (n : Int) := by rw [hlv]
    simp (disch := omega) only [STP, ecut, evl]
    refine loop_step (fun ds => ∃ (i : Int) (c b : Nat) (u' : List Nat), ds = [.int .i64 (j : Int), .int .i64 ((n : Int) + 1), .int .u64 (g : Int), .int .u64 (c : Int), .int .u32 (b : Int), .int .i64 (n : Int), .int .i64 i, .int .i64 (s : Int), .int .i64 (n : Int), nl u', nl v, nl q] ∧
      0 ≤ i ∧ i ≤ n ∧ c < 4294967296 ∧ b ≤ 1 ∧ WL u' ∧ u'.length = u.length ∧ (∀ k, j + n < k → u'.getD k 0 = 0) ∧ val u' + 4294967296 ^ j * g * val (v.take i.toNat) = val u + 4294967296 ^ (j + i.toNat) * (c + b)) (numf (fun i => (n - i).toNat) 6) ?_ ?_ ?_
    · exact ⟨0, 0, 0, u, rfl, by omega, by omega, by omega, by omega, hu, rfl, hz, by simp [val]⟩
    · rintro ds ⟨i, c, b, u', rfl, _⟩; rfl
    · rintro ds ⟨i, c, b, u', rfl, h0, h1, hc, hb, hw, hlu, hzu, hval⟩
      simp (disch := omega) only [STP]
      refine ite_step rfl ?_ ?_
      · intro hi
        have hy := hv.getD i.toNat
        have hx := hw.getD ((j : Int) + i).toNat
        have hmm := mul_lt64 hg hy
        obtain ⟨gv, hgv⟩ : ∃ gv : Nat, gv = g * v.getD i.toNat 0 := ⟨_, rfl⟩
        rw [← hgv] at hmm
        have em : Prim.den (.bin .mul) [.int .u64 (g : Int), .int .u64 ((v.getD i.toNat 0 : Nat) : Int)] = some (.int .u64 (gv : Int)) := by
          have : (g : Int) * ((v.getD i.toNat 0 : Nat) : Int) = (gv : Int) := by rw [hgv]; simp
          rw [d_mulu (by omega) (by omega), this]
        have ea : Prim.den (.bin .add) [.int .u64 (gv : Int), .int .u64 (c : Int)] = some (.int .u64 ((gv + c : Nat) : Int)) := by rw [d_addu (by omega) (by omega)]; simp
        have ed : ∀ t : Nat, Prim.den (.bin .shr) [.int .u64 (t : Int), .int .u64 32] = some (.int .u64 ((t / 4294967296 : Nat) : Int)) := fun t => by rw [d_shr32 rfl]; rfl
        have er : ∀ t : Nat, Prim.den (.conv .u32) [.int .u64 (t : Int)] = some (.int .u32 ((t % 4294967296 : Nat) : Int)) := fun t => by rw [d_conv32]; rfl
        simp (disch := omega) only [STP, em, ea, ed, er]
        refine call_step (c2 _ ((gv + c) % 4294967296) b hx (Nat.mod_lt _ (by decide)) hb) rfl ?_
        simp (disch := omega) only [STP]
        have hsub := sub32_eq hx (Nat.mod_lt (gv + c) (show 0 < 4294967296 by decide)) hb
        have hlt2 : (u'.getD ((j : Int) + i).toNat 0 + 8589934592 - (gv + c) % 4294967296 - b) % 4294967296 < 4294967296 := Nat.mod_lt _ (by decide)
        have hb2 : (if u'.getD ((j : Int) + i).toNat 0 < (gv + c) % 4294967296 + b then 1 else 0 : Nat) ≤ 1 := by split <;> decide
        generalize (u'.getD ((j : Int) + i).toNat 0 + 8589934592 - (gv + c) % 4294967296 - b) % 4294967296 = d at *
        generalize (if u'.getD ((j : Int) + i).toNat 0 < (gv + c) % 4294967296 + b then 1 else 0 : Nat) = b' at *
        refine jump_step rfl ⟨⟨_, _, b', _, rfl, by omega, by omega, by omega, hb2, hw.set hlt2, by simp [hlu], fun k hk => ?_, ?_⟩, ?_⟩
        · rw [getD_set_ne (by omega)]; exact hzu k hk
        · have hs' := val_set (l := u') (j := ((j : Int) + i).toNat) (x := d) (by omega)
          have e7 : ((j : Int) + i).toNat = j + i.toNat := by omega
          rw [show (i + 1).toNat = i.toNat + 1 by omega, val_take_getD, ← Nat.add_assoc, Nat.pow_succ]
          refine less_step (pi := 4294967296 ^ i.toNat) (x := u'.getD ((j : Int) + i).toNat 0) (d := d) (t := gv + c) (c := c) (b := b) (vu' := val u') ?_ ?_ hval ?_ hsub
          · rw [Nat.pow_add]
          · rw [← e7]; exact hs'
          · rw [hgv]
        · show ((n : Int) - (i + 1)).toNat < ((n : Int) - i).toNat
          omega
      · intro hi
        have hin : i.toNat = n := by omega
        rw [hin, val_take_all (by omega)] at hval
        have hx := hw.getD ((j : Int) + n).toNat
        have e7 : ((j : Int) + n).toNat = j + n := by omega
        simp (disch := omega) only [STP, evl]
        refine call_step (c2 _ c b hx hc hb) rfl ?_
        simp (disch := omega) only [STP]
        have hsub := sub32_eq hx hc hb
        have hlt2 : (u'.getD ((j : Int) + n).toNat 0 + 8589934592 - c - b) % 4294967296 < 4294967296 := Nat.mod_lt _ (by decide)
        have hif := @lss_iff (u'.getD ((j : Int) + n).toNat 0) c b
        have hib : (if u'.getD ((j : Int) + n).toNat 0 < c + b then 1 else 0 : Nat) ≤ 1 := by split <;> decide
        have hs' := fun d => val_set (l := u') (j := ((j : Int) + n).toNat) (x := d) (by omega)
        generalize (u'.getD ((j : Int) + n).toNat 0 + 8589934592 - c - b) % 4294967296 = d at *
        generalize hbe : (if u'.getD ((j : Int) + n).toNat 0 < c + b then 1 else 0 : Nat) = b' at *
        have hlast := less_last (vu'' := val (u'.set ((j : Int) + n).toNat d)) (p := 4294967296 ^ (j + n)) (by rw [← e7]; exact hs' d) hval hsub
        have hw2 := hw.set (i := ((j : Int) + n).toNat) hlt2
        have hl2 : (u'.set ((j : Int) + n).toNat d).length = u.length := by simp [hlu]
        have hz2 : ∀ k, j + n < k → (u'.set ((j : Int) + n).toNat d).getD k 0 = 0 := fun k hk => by rw [getD_set_ne (by omega)]; exact hzu k hk
        generalize u'.set ((j : Int) + n).toNat d = u2 at *
        refine ite_step rfl ?_ ?_
        · intro hne
          have hb1 : b' = 1 := by omega
          subst hb1
          rw [Nat.mul_one] at hlast
          have hg0 : 0 < g := by
            rcases Nat.eq_zero_or_pos g with h | h
            · exfalso
              rw [h, Nat.mul_zero, Nat.zero_mul, Nat.add_zero] at hlast
              have := val_lt_of_zeros (u := u2) (K := j + n + 1) hw2 (fun k hk => hz2 k (by omega))
              rw [Nat.pow_succ] at this
              omega
            · exact h
          have hgQ : g = Qd + 1 := by
            rcases Nat.lt_or_ge g (Qd + 1) with h | h
            · exfalso
              have hgq : g = Qd := by omega
              have := val_lt_of_zeros (u := u2) (K := j + n + 1) hw2 (fun k hk => hz2 k (by omega))
              rw [Nat.pow_succ] at this
              rw [hgq] at hlast
              omega
            · omega
          have eg : (g : Int) - 1 = (Qd : Int) := by omega
          simp (disch := omega) only [STP, ecut, evl, eg]
          refine loop_step (fun ds => ∃ (i : Int) (c : Nat) (u' : List Nat), ds = [.int .i64 (j : Int), .int .i64 ((n : Int) + 1), .int .u32 (c : Int), .int .i64 (n : Int), .int .i64 i, .int .i64 (s : Int), .int .i64 (n : Int), .int .u64 (Qd : Int), nl u', nl v, nl q] ∧
            0 ≤ i ∧ i ≤ n ∧ c ≤ 1 ∧ WL u' ∧ u'.length = u.length ∧ (∀ k, j + n < k → u'.getD k 0 = 0) ∧ val u' + 4294967296 ^ (j + i.toNat) * c = val u2 + 4294967296 ^ j * val (v.take i.toNat)) (numf (fun i => (n - i).toNat) 4) ?_ ?_ ?_
          · exact ⟨0, 0, u2, rfl, by omega, by omega, by omega, hw2, hl2, hz2, by simp [val]⟩
          · rintro ds ⟨i, c, u', rfl, _⟩; rfl
          · rintro ds ⟨i, c, u3, rfl, h0, h1, hc, hw, hlu, hzu, hval⟩
            simp (disch := omega) only [STP]
            refine ite_step rfl ?_ ?_
            · intro hi
              have hy := hv.getD i.toNat
              have hx := hw.getD ((j : Int) + i).toNat
              simp (disch := omega) only [STP]
              refine call_step (c3 _ _ c hx hy hc) rfl ?_
              simp (disch := omega) only [STP]
              refine jump_step rfl ⟨⟨_, _, _, rfl, by omega, by omega, by omega, hw.set (Nat.mod_lt _ (by decide)), by simp [hlu], fun k hk => ?_, ?_⟩, ?_⟩
              · rw [getD_set_ne (by omega)]; exact hzu k hk
              · have hs' := val_set (l := u3) (j := ((j : Int) + i).toNat) (x := (u3.getD ((j : Int) + i).toNat 0 + v.getD i.toNat 0 + c) % 4294967296) (by omega)
                have e7 : ((j : Int) + i).toNat = j + i.toNat := by omega
                rw [show (i + 1).toNat = i.toNat + 1 by omega, val_take_getD, ← Nat.add_assoc, Nat.pow_succ]
                refine back_step (pi := 4294967296 ^ i.toNat) (vu' := val u3) ?_ ?_ hval
                · rw [Nat.pow_add]
                · rw [← e7]; exact hs'
              · show ((n : Int) - (i + 1)).toNat < ((n : Int) - i).toNat
                omega
            · intro hi
              have hin : i.toNat = n := by omega
              rw [hin, val_take_all (by omega)] at hval
              have hx := hw.getD ((j : Int) + n).toNat
              have ea : Prim.den (.bin .add) [.int .u32 ((u3.getD ((j : Int) + n).toNat 0 : Nat) : Int), .int .u32 (c : Int)] = some (.int .u32 (((u3.getD ((j : Int) + n).toNat 0 + c) % 4294967296 : Nat) : Int)) := by rw [d_add32]; rfl
              simp (disch := omega) only [STP, evl, ea]
              have hs3 := val_set (l := u3) (j := ((j : Int) + n).toNat) (x := (u3.getD ((j : Int) + n).toNat 0 + c) % 4294967296) (by omega)
              have hb3 := back_last (p := 4294967296 ^ (j + n)) (by rw [← e7]; exact hs3) hval
              have hw3 := hw.set (i := ((j : Int) + n).toNat) (Nat.mod_lt (u3.getD ((j : Int) + n).toNat 0 + c) (show 0 < 4294967296 by decide))
              have hz3 : ∀ k, j + n < k → (u3.set ((j : Int) + n).toNat ((u3.getD ((j : Int) + n).toNat 0 + c) % 4294967296)).getD k 0 = 0 := fun k hk => by rw [getD_set_ne (by omega)]; exact hzu k hk
              have hlt3 := val_lt_of_zeros (K := j + n + 1) hw3 (fun k hk => hz3 k (by omega))
              rw [Nat.pow_succ] at hlt3
              have hmend := back_mend hlast hb3 (by omega) hlt3 hg0 (by rw [hgQ, Nat.add_sub_cancel]; exact hqle)
              rw [hgQ, Nat.add_sub_cancel] at hmend
              exact jump_step rfl ⟨_, rfl, hw3, by simp [hlu], hmend⟩
        · intro hne
          have hb1 : b' = 0 := by omega
          subst hb1
          rw [Nat.mul_zero, Nat.add_zero] at hlast
          have hgq := hgle (by omega)
          rw [hgq] at hlast ⊢
          exact jump_step rfl ⟨u2, rfl, hw2, hl2, hlast⟩
  · rintro ds ⟨u', rfl, hw, hlu, hval⟩
    simp (disch := omega) only [STP]
    exact jump_step rfl (hY u' hw hlu hval)

end
end Go.Px.Na
/- Wn7: naturals: the long division, whole. -/
set_option maxRecDepth 10000
set_option linter.unusedSimpArgs false
set_option linter.unusedVariables false
namespace Go.Px.Na
open Go.RowKit
variable {P : Program}

theorem nl_fold (l : List Nat) : DV.list l.length (ul l) = nl l := rfl

theorem w_long (c1 : CTrim P) (c2 : CSub32 P) (c3 : CAdd32 P) (c4 : CLz P) (c5 : CShl P) (c6 : CShr P) {M N : Nat} (hlM : (limbs M).length ≤ 4398000000000) (hNM : N ≤ M) (hN2 : 2 ≤ (limbs N).length) :
    IRwp P [] [nn M, nn N] ir_nat_long (· = [.one (nn (M / N)), .one (nn (M % N))]) := by
  unfold ir_nat_long
  have hN0 : N ≠ 0 := fun h => by rw [h, limbs_zero] at hN2; simp at hN2
  have hlen := limbs_len_mono hNM
  obtain ⟨hbits, htop0⟩ := nbits_limbs hN0
  have htop := (WL_limbs N).getD ((limbs N).length - 1)
  obtain ⟨n, hn⟩ : ∃ n, n = (limbs N).length := ⟨_, rfl⟩
  simp only [nn]
  rw [← hn] at hbits htop0 htop hN2 hlen
  have e1 : (((limbs N).length : Int) - 1).toNat = n - 1 := by omega
  simp (disch := omega) only [STP, e1]
  have hb1 := nbits_le (n := (limbs N).getD (n - 1) 0) (k := 32) htop
  have hb2 : 0 < nbits ((limbs N).getD (n - 1) 0) := by obtain ⟨k, hk, _⟩ := nbits_spec htop0; omega
  obtain ⟨s, hs⟩ : ∃ s : Nat, s = 32 - nbits ((limbs N).getD (n - 1) 0) := ⟨_, rfl⟩
  refine call_step (c4 _ htop) rfl ?_
  have es : (32 - (nbits ((limbs N).getD (n - 1) 0) : Int)) = (s : Int) := by omega
  rw [es]
  have hs32 : s < 32 := by omega
  have hshl : ∀ v, shlRes v (s : Int) = [.own 1 TU32 (limbs (v * 2 ^ s)).length (ul (limbs (v * 2 ^ s))), .one (.bool true)] := fun v => by
    unfold shlRes; rw [if_neg (by omega), Int.toNat_natCast]
  have k1 := c5 (limbs N) (s : Int) ⟨WL_limbs N, by omega⟩
  have k2 := c5 (limbs M) (s : Int) ⟨WL_limbs M, by omega⟩
  rw [val_limbs, hshl] at k1 k2
  refine call_step k1 rfl ?_
  refine call_step k2 rfl ?_
  -- the sizes
  have hV1 : N * 2 ^ s < 4294967296 ^ n := by
    obtain ⟨k, hk1, hk2, hk3⟩ := nbits_spec hN0
    have : N * 2 ^ s < 2 ^ (k + 1) * 2 ^ s := Nat.mul_lt_mul_of_pos_right hk3 (Nat.two_pow_pos s)
    rw [← Nat.pow_add, show k + 1 + s = 32 * n by omega, Nat.pow_mul] at this
    exact this
  have hV2 : 4294967296 ^ (n - 1) * 2 ^ s ≤ N * 2 ^ s := by
    have := limbs_ge_pow hN0
    rw [← hn] at this
    exact Nat.mul_le_mul_right _ this
  have hp2 : 0 < 2 ^ s := Nat.two_pow_pos s
  have hV3 : 4294967296 ^ (n - 1) ≤ N * 2 ^ s := Nat.le_trans (Nat.le_mul_of_pos_right _ hp2) hV2
  have hlv : (limbs (N * 2 ^ s)).length = n := by
    have h1 := limbs_len hV1
    rcases Nat.lt_or_ge (limbs (N * 2 ^ s)).length n with h | h
    · exfalso
      have h2 := limbs_lt_pow (N * 2 ^ s)
      have h3 := Nat.pow_le_pow_right (n := 4294967296) (by omega) (show (limbs (N * 2 ^ s)).length ≤ n - 1 by omega)
      omega
    · omega
  have hU1 : M * 2 ^ s < 4294967296 ^ ((limbs M).length) * 2 ^ s := Nat.mul_lt_mul_of_pos_right (limbs_lt_pow M) hp2
  have h2B : 2 ^ s ≤ 4294967296 := Nat.le_of_lt (Nat.pow_lt_pow_right (a := 2) (m := s) (n := 32) (by omega) hs32)
  have hlu : (limbs (M * 2 ^ s)).length ≤ (limbs M).length + 1 := limbs_len (Nat.lt_of_lt_of_le hU1 (by rw [Nat.pow_succ]; exact Nat.mul_le_mul_left _ h2B))
  have wv := WL_limbs (N * 2 ^ s)
  have vv := val_limbs (N * 2 ^ s)
  generalize hve : limbs (N * 2 ^ s) = v at *
  have hV0 : 0 < N * 2 ^ s := by have : 0 < 4294967296 ^ (n - 1) := Nat.pow_pos (by omega); omega
  obtain ⟨V, hVd⟩ : ∃ V, V = N * 2 ^ s := ⟨_, rfl⟩
  obtain ⟨A, hAd⟩ : ∃ A, A = M * 2 ^ s := ⟨_, rfl⟩
  rw [← hVd] at hV1 hV2 hV3 vv hV0
  rw [← hAd] at hU1 hlu ⊢
  simp (disch := omega) only [STP, nl_fold]
  simp only [hlv]
  obtain ⟨l, hl⟩ : ∃ l, l = (limbs M).length := ⟨_, rfl⟩
  rw [← hl] at hU1 hlu hlM hlen
  refine loop_step (fun ds => ∃ u : List Nat, ds = [nl (limbs M), .int .i64 (s : Int), .int .i64 (n : Int), nl v, nl u] ∧ WL u ∧ val u = A ∧ u.length ≤ l + 1) (lenAt (l + 1) 4) ?_ ?_ ?_
  · exact ⟨limbs A, rfl, WL_limbs A, val_limbs A, hlu⟩
  · rintro ds ⟨u, rfl, _⟩; rfl
  · rintro ds ⟨u, rfl, wu, vu, lu⟩
    simp (disch := omega) only [STP]
    refine ite_step rfl ?_ ?_
    · intro h
      have em0 : Prim.den (.mk 1) [.int .u32 0] = some (nl [0]) := rfl
      simp (disch := omega) only [STP, em0]
      refine jump_step rfl ⟨⟨_, rfl, wu.append (WL.single (by omega)), by rw [val_snoc, vu, Nat.mul_zero, Nat.add_zero], by simp; omega⟩, ?_⟩
      show l + 1 - (u ++ [0]).length < l + 1 - u.length
      simp; omega
    · intro h
      have hm : u.length = l + 1 := by omega
      simp (disch := omega) only [STP]
      refine loop_step (LInv s n (l + 1) V v A) (numf (fun j => (j + 1).toNat) 2) ?_ ?_ ?_
      · refine ⟨_, u, List.replicate ((u.length : Int) - n).toNat 0, rfl, by omega, by omega, wu, hm, WL.rep _, by simp; omega, ?_, ?_⟩
        · rw [show ((u.length : Int) - n - 1 + 1).toNat = l + 1 - n by omega, ← drop_val wu, vu, Nat.div_lt_iff_lt_mul (Nat.pow_pos (by omega))]
          refine Nat.lt_of_lt_of_le hU1 ?_
          have : 4294967296 ^ l * 2 ^ s = 4294967296 ^ (n - 1) * 2 ^ s * 4294967296 ^ (l + 1 - n) := by
            rw [show l = (n - 1) + (l + 1 - n) by omega, Nat.pow_add, show n - 1 + (l + 1 - n) + 1 - n = l + 1 - n by omega]; grind
          rw [this]
          exact Nat.mul_le_mul_right _ hV2
        · have : val (List.drop ((u.length : Int) - n - 1 + 1).toNat (List.replicate ((u.length : Int) - n).toNat 0)) = 0 := by
            rw [List.drop_replicate, val_rep]
          rw [this, vu]; simp
      · rintro ds ⟨j, u, q, rfl, _⟩; rfl
      · rintro ds ⟨j, u, q, rfl, h0, h1, wu, lu, wq, lq, hdrop, hA⟩
        show IRwp P [_, _] _ long_body _
        unfold long_body ir_nat_long
        simp only
        simp (disch := omega) only [STP]
        refine ite_step rfl ?_ ?_
        · intro hj
          obtain ⟨jn, rfl⟩ := Int.eq_ofNat_of_zero_le hj
          have ej : ((jn : Int) + 1).toNat = jn + 1 := by omega
          rw [ej] at hdrop hA
          have hDv : val u / 4294967296 ^ jn = val (u.drop jn) := drop_val wu jn
          have hDd := val_getD_drop u jn
          have huj := wu.getD jn
          have hDlt : val (u.drop jn) < 4294967296 * V := by
            have : 4294967296 * (val (u.drop (jn + 1)) + 1) ≤ 4294967296 * V := Nat.mul_le_mul_left _ hdrop
            omega
          have hz : ∀ k, jn + n < k → u.getD k 0 = 0 := fun k hk => zeros_of_lt (K := jn + 1 + n) wu (by
            have h1 := val_take_drop u (jn + 1)
            have h2 := val_lt (wu.take (jn + 1))
            have h3 : (u.take (jn + 1)).length = jn + 1 := by simp; omega
            rw [h3] at h1 h2
            have h4 : 4294967296 ^ (jn + 1) * (val (u.drop (jn + 1)) + 1) ≤ 4294967296 ^ (jn + 1) * V := Nat.mul_le_mul_left _ hdrop
            have h5 : 4294967296 ^ (jn + 1) * V ≤ 4294967296 ^ (jn + 1) * 4294967296 ^ n := Nat.mul_le_mul_left _ (Nat.le_of_lt hV1)
            rw [Nat.pow_add, h1]
            rw [Nat.mul_add, Nat.mul_one] at h4
            omega) k (by omega)
          -- the digits
          have htop : val (u.drop jn) / 4294967296 ^ (n - 1) = u.getD (jn + n) 0 * 4294967296 + u.getD (jn + n - 1) 0 := by
            rw [← hDv, Nat.div_div_eq_div_mul, ← Nat.pow_add, show jn + (n - 1) = jn + n - 1 by omega, drop_val wu, val_getD_drop, show jn + n - 1 + 1 = jn + n by omega, val_getD_drop u (jn + n)]
            have : val (u.drop (jn + n + 1)) = 0 := by
              rw [← drop_val wu]
              exact Nat.div_eq_of_lt (val_lt_of_zeros wu fun k hk => hz k (by omega))
            rw [this]; omega
          have ht2 : val (u.drop jn) / 4294967296 ^ (n - 2) = val (u.drop jn) / 4294967296 ^ (n - 1) * 4294967296 + u.getD (jn + n - 2) 0 := by
            rw [← hDv, Nat.div_div_eq_div_mul, Nat.div_div_eq_div_mul, ← Nat.pow_add, ← Nat.pow_add, show jn + (n - 1) = (jn + n - 2) + 1 by omega, show jn + (n - 2) = jn + n - 2 by omega, two_digits wu (jn + n - 2)]
            omega
          have hv1 : val v / 4294967296 ^ (n - 1) = v.getD (n - 1) 0 := by
            rw [drop_val wv, val_getD_drop, List.drop_eq_nil_of_le (as := v) (i := n - 1 + 1) (by omega)]; simp [val]
          have hv2 : val v / 4294967296 ^ (n - 2) = v.getD (n - 1) 0 * 4294967296 + v.getD (n - 2) 0 := by
            rw [two_digits wv, show n - 2 + 1 = n - 1 by omega, hv1]; omega
          rw [← vv] at hDlt hV3
          have K := kf_make (D := val (u.drop jn)) (V := val v) (n := n) hN2 hDlt hV3 hv1 hv2 (wv.getD _) ht2
          rw [htop] at K
          have hp1 := K.hv1
          have g1 := wu.getD (jn + n)
          have g2 := wu.getD (jn + n - 1)
          have e2 : ((jn : Int) + n).toNat = jn + n := by omega
          have e3 : ((jn : Int) + n - 1).toNat = jn + n - 1 := by omega
          have e4 : ((n : Int) - 1).toNat = n - 1 := by omega
          have gv1 := wv.getD (n - 1)
          have eq1 : Prim.den (.bin .quo) [.int .u64 (((u.getD (jn + n) 0 : Nat) : Int) * 4294967296 + ((u.getD (jn + n - 1) 0 : Nat) : Int)), .int .u64 ((v.getD (n - 1) 0 : Nat) : Int)] = some (.int .u64 (((u.getD (jn + n) 0 * 4294967296 + u.getD (jn + n - 1) 0) / v.getD (n - 1) 0 : Nat) : Int)) := by
            rw [d_quou (by omega) (by omega) (by omega)]; simp
          have eq2 : Prim.den (.bin .rem) [.int .u64 (((u.getD (jn + n) 0 : Nat) : Int) * 4294967296 + ((u.getD (jn + n - 1) 0 : Nat) : Int)), .int .u64 ((v.getD (n - 1) 0 : Nat) : Int)] = some (.int .u64 (((u.getD (jn + n) 0 * 4294967296 + u.getD (jn + n - 1) 0) % v.getD (n - 1) 0 : Nat) : Int)) := by
            rw [d_remu (by omega) (by omega)]; simp
          simp (disch := omega) only [STP, e2, e3, e4, d_or64, eq1, eq2]
          show IRwp P [_, _] _ (.join long_guess long_after) _
          refine join_step (J1 s n jn v u q (val (u.drop jn) / val v)) ?_ ?_
          · exact w_guess wv hlv hN2 wu (by omega) (by omega) K rfl rfl rfl rfl rfl rfl rfl rfl
          · rintro ds ⟨g, rfl, hg, hg1, hg2⟩
            refine w_after c2 c3 wv hlv (by omega) wu (by omega) (by omega) (by omega) hDv.symm rfl (by rw [vv]; exact hV0) hDlt hg hg1 hg2 hs32 hz ?_
            intro u' wu' lu' hval
            have hpj : 0 < 4294967296 ^ jn := Nat.pow_pos (by omega)
            have hdiv : val (u.drop jn) = val (u'.drop jn) + val (u.drop jn) / val v * val v := by
              have h9 : val u / 4294967296 ^ jn = val u' / 4294967296 ^ jn + val (u.drop jn) / val v * val v := by
                rw [← hval, Nat.mul_assoc, Nat.add_mul_div_left _ _ hpj]
              rw [hDv, drop_val wu'] at h9
              exact h9
            have hmod := Nat.div_add_mod (val (u.drop jn)) (val v)
            have hml := Nat.mod_lt (val (u.drop jn)) (show 0 < val v by rw [vv]; exact hV0)
            have hqB := K.qB
            generalize val (u.drop jn) / val v = Qd at *
            rw [Nat.mul_comm] at hmod
            refine ⟨⟨_, u', q.set jn Qd, rfl, by omega, by omega, wu', by omega, wq.set hqB, by simp; omega, ?_, ?_⟩, ?_⟩
            · rw [show ((jn : Int) - 1 + 1).toNat = jn by omega, ← vv]; omega
            · rw [show ((jn : Int) - 1 + 1).toNat = jn by omega, val_getD_drop (q.set jn Qd), getD_set_eq (by omega), drop_set (by omega), hA, ← hval, vv, Nat.pow_succ]
              grind
            · show ((jn : Int) - 1 + 1).toNat < ((jn : Int) + 1).toNat
              omega
        · intro hj
          have ej : (j + 1).toNat = 0 := by omega
          rw [ej] at hdrop hA
          rw [List.drop_zero] at hdrop
          rw [List.drop_zero, Nat.pow_zero, Nat.one_mul] at hA
          refine call_step (c1 q wq (by omega)) rfl ?_
          have en : ((n : Int)).toNat = n := by omega
          simp (disch := omega) only [STP]
          have hwt := wu.take n
          have hvt : val (u.take n) = val u := by
            have h1 := val_take_drop u n
            have h2 : val (u.drop n) = 0 := by rw [← drop_val wu]; exact Nat.div_eq_of_lt (Nat.lt_trans hdrop hV1)
            rw [h2] at h1; simpa using h1.symm
          refine call_step (c6 (u.take n) s ⟨hwt, by simp; omega⟩ hs32) rfl ?_
          refine ret_step ?_
          show [AV.one (nn (val q)), AV.one (nn (val (u.take n) / 2 ^ s))] = _
          have hq : val q = M / N := by
            have h1 : A / V = M / N := by rw [hAd, hVd, Nat.mul_div_mul_right _ _ hp2]
            rw [← h1, hA, Nat.add_mul_div_left _ _ hV0, Nat.div_eq_of_lt hdrop, Nat.zero_add]
          have hr : val u = (M % N) * 2 ^ s := by
            have h1 : A % V = (M % N) * 2 ^ s := by rw [hAd, hVd, Nat.mul_mod_mul_right]
            rw [← h1, hA, Nat.add_mul_mod_self_left, Nat.mod_eq_of_lt hdrop]
          rw [hvt, hq, hr, Nat.mul_div_cancel _ hp2]; rfl

end Go.Px.Na

/- Wr1: the document's naturals: Norm, Same, Of, limb, Cmp, Zero, Bits, Add, Sub. -/
import Derived.Test.YtgnhhdgepnfnmaaWn7
set_option maxRecDepth 10000
set_option linter.unusedSimpArgs false
set_option linter.unusedVariables false
namespace Go.Px.Na
open Go.RowKit
variable {P : Program}

def CRNorm (P : Program) : Prop := ∀ a, WL a → a.length ≤ 8796093022208 → PureCalls P F.penumbraref01_Norm [.one (nl a)] [.one (nn (val a))]
theorem wr_norm {a : List Nat} (h : WL a) (hl : a.length ≤ 8796093022208) : IRwp P [] [nl a] ir_penumbraref01_Norm (· = [.one (nn (val a))]) := by
  unfold ir_penumbraref01_Norm
  simp (disch := omega) only [STEP, Px.A.ev, List.map_cons, List.map_nil, List.getD_cons_zero, List.getD_cons_succ, List.cons_append, List.nil_append, List.append_nil, Option.isSome_some, Option.getD_some, true_and, Int.sub_zero, Int.toNat_zero, List.drop_zero, Int.toNat_natCast]
  refine loop_step (fun ds => ∃ n : Int, ds = [nl a, .int .i64 n] ∧ 0 ≤ n ∧ n ≤ a.length ∧ val (a.take n.toNat) = val a) (num 1) ?_ ?_ ?_
  · exact ⟨a.length, rfl, by omega, by omega, by simp⟩
  · rintro ds ⟨n, rfl, _⟩; rfl
  · rintro ds ⟨n, rfl, h0, hn, hv⟩
    have htl : (a.take n.toNat).length ≤ 8796093022208 := by simp; omega
    simp (disch := omega) only [STEP, Px.A.ev, List.map_cons, List.map_nil, List.getD_cons_zero, List.getD_cons_succ, List.cons_append, List.nil_append, List.append_nil, Option.isSome_some, Option.getD_some, true_and, Int.sub_zero, Int.toNat_zero, List.drop_zero, Int.toNat_natCast]
    refine ite_step rfl ?_ ?_
    · intro hb
      simp (disch := omega) only [STEP, Px.A.ev, List.map_cons, List.map_nil, List.getD_cons_zero, List.getD_cons_succ, List.cons_append, List.nil_append, List.append_nil, Option.isSome_some, Option.getD_some, true_and, Int.sub_zero, Int.toNat_zero, List.drop_zero, Int.toNat_natCast]
      refine ite_step rfl ?_ ?_
      · intro hz
        simp (disch := omega) only [STEP, Px.A.ev, List.map_cons, List.map_nil, List.getD_cons_zero, List.getD_cons_succ, List.cons_append, List.nil_append, List.append_nil, Option.isSome_some, Option.getD_some, true_and, Int.sub_zero, Int.toNat_zero, List.drop_zero, Int.toNat_natCast]
        refine jump_step rfl ⟨⟨_, rfl, by omega, by omega, ?_⟩, ?_⟩
        · rw [val_cut (by omega) (by omega), ← hv]; congr 2; omega
        · show (n - 1).toNat < n.toNat; omega
      · intro hz
        simp (disch := omega) only [STEP, Px.A.ev, List.map_cons, List.map_nil, List.getD_cons_zero, List.getD_cons_succ, List.cons_append, List.nil_append, List.append_nil, Option.isSome_some, Option.getD_some, true_and, Int.sub_zero, Int.toNat_zero, List.drop_zero, Int.toNat_natCast]
        refine ret_step ?_
        show [AV.one (nl (a.take n.toNat))] = _
        rw [limbs_of_take h (by omega) hv (.inr ?_)]; rfl
        rw [show n.toNat - 1 = (n - 1).toNat by omega]; omega
    · intro hb
      simp (disch := omega) only [STEP, Px.A.ev, List.map_cons, List.map_nil, List.getD_cons_zero, List.getD_cons_succ, List.cons_append, List.nil_append, List.append_nil, Option.isSome_some, Option.getD_some, true_and, Int.sub_zero, Int.toNat_zero, List.drop_zero, Int.toNat_natCast]
      refine ret_step ?_
      show [AV.one (nl (a.take n.toNat))] = _
      rw [limbs_of_take h (by omega) hv (.inl (by omega))]; rfl

def CRSame (P : Program) : Prop := ∀ a b : List Nat, a.length ≤ 8796093022208 → b.length ≤ 8796093022208 → PureCalls P F.penumbraref01_Same [.one (nl a), .one (nl b)] [.one (.bool (decide (a = b)))]
theorem wr_same {a b : List Nat} (ha : a.length ≤ 8796093022208) (hb : b.length ≤ 8796093022208) : IRwp P [] [nl a, nl b] ir_penumbraref01_Same (· = [.one (.bool (decide (a = b)))]) := by
  unfold ir_penumbraref01_Same
  simp (disch := omega) only [STEP, Px.A.ev, List.map_cons, List.map_nil, List.getD_cons_zero, List.getD_cons_succ, List.cons_append, List.nil_append, List.append_nil, Option.isSome_some, Option.getD_some, true_and, Int.sub_zero, Int.toNat_zero, List.drop_zero, Int.toNat_natCast]
  refine ite_step rfl ?_ ?_
  · intro h
    have : a ≠ b := fun he => h (by rw [he])
    exact ret_step (by simp [Arg.ev, A.ev, this])
  · intro h
    have hl : a.length = b.length := by omega
    refine loop_step (fun ds => ∃ i : Int, ds = [nl a, nl b, .int .i64 i] ∧ 0 ≤ i ∧ i ≤ a.length ∧ a.take i.toNat = b.take i.toNat) (numf (fun i => (a.length - i).toNat) 2) ?_ ?_ ?_
    · exact ⟨0, rfl, by omega, by omega, by simp⟩
    · rintro ds ⟨i, rfl, _⟩; rfl
    · rintro ds ⟨i, rfl, h0, h1, hv⟩
      simp (disch := omega) only [STEP, Px.A.ev, List.map_cons, List.map_nil, List.getD_cons_zero, List.getD_cons_succ, List.cons_append, List.nil_append, List.append_nil, Option.isSome_some, Option.getD_some, true_and, Int.sub_zero, Int.toNat_zero, List.drop_zero, Int.toNat_natCast]
      refine ite_step rfl ?_ ?_
      · intro hi
        have ea : a.getD i.toNat 0 = a[i.toNat]'(by omega) := by simp [List.getD_eq_getElem?_getD, show i.toNat < a.length by omega]
        have eb : b.getD i.toNat 0 = b[i.toNat]'(by omega) := by simp [List.getD_eq_getElem?_getD, show i.toNat < b.length by omega]
        simp (disch := omega) only [STEP, Px.A.ev, List.map_cons, List.map_nil, List.getD_cons_zero, List.getD_cons_succ, List.cons_append, List.nil_append, List.append_nil, Option.isSome_some, Option.getD_some, true_and, Int.sub_zero, Int.toNat_zero, List.drop_zero, Int.toNat_natCast]
        refine ite_step rfl ?_ ?_
        · intro hne
          have : a ≠ b := fun he => hne (by rw [he])
          exact ret_step (by simp [Arg.ev, A.ev, this])
        · intro hne
          simp (disch := omega) only [STEP, Px.A.ev, List.map_cons, List.map_nil, List.getD_cons_zero, List.getD_cons_succ, List.cons_append, List.nil_append, List.append_nil, Option.isSome_some, Option.getD_some, true_and, Int.sub_zero, Int.toNat_zero, List.drop_zero, Int.toNat_natCast]
          refine jump_step rfl ⟨⟨_, rfl, by omega, by omega, ?_⟩, ?_⟩
          · rw [show (i + 1).toNat = i.toNat + 1 by omega, List.take_succ_eq_append_getElem (by omega), List.take_succ_eq_append_getElem (by omega), hv, ← ea, ← eb, show a.getD i.toNat 0 = b.getD i.toNat 0 by omega]
          · show (a.length - (i + 1) : Int).toNat < (a.length - i : Int).toNat
            omega
      · intro hi
        rw [List.take_of_length_le (by omega), List.take_of_length_le (by omega)] at hv
        exact ret_step (by simp [Arg.ev, A.ev, hv])

def CROf (P : Program) : Prop := ∀ n : Nat, n < 18446744073709551616 → PureCalls P F.penumbraref01_Of [.one (.int .u64 (n : Int))] [.one (nn n)]
theorem wr_of (c1 : CRNorm P) {n : Nat} (h : n < 18446744073709551616) : IRwp P [] [.int .u64 (n : Int)] ir_penumbraref01_Of (· = [.one (nn n)]) := by
  unfold ir_penumbraref01_Of
  have e1 : Prim.den (.conv .u32) [.int .u64 (n : Int)] = some (.int .u32 ((n % 4294967296 : Nat) : Int)) := by rw [d_conv32]; rfl
  have e2 : Prim.den (.bin .shr) [.int .u64 (n : Int), .int .u64 32] = some (.int .u64 ((n / 4294967296 : Nat) : Int)) := by rw [d_shr32 rfl]; rfl
  have e3 : Prim.den (.conv .u32) [.int .u64 ((n / 4294967296 : Nat) : Int)] = some (.int .u32 ((n / 4294967296 : Nat) : Int)) := d_conv32' (by omega) (by omega)
  simp (disch := omega) only [STEP, Px.A.ev, List.map_cons, List.map_nil, List.getD_cons_zero, List.getD_cons_succ, List.cons_append, List.nil_append, List.append_nil, Option.isSome_some, Option.getD_some, true_and, Int.sub_zero, Int.toNat_zero, List.drop_zero, Int.toNat_natCast, e1, e2, e3]
  refine call_step (c1 [n % 4294967296, n / 4294967296] (WL.cons (by omega) (WL.single (by omega))) (by simp)) rfl ?_
  refine ret_step ?_
  show [AV.one (nn (val _))] = _
  congr 3
  simp only [val]; omega

def CRLimb (P : Program) : Prop := ∀ (a : List Nat) (i : Int), WL a → 0 ≤ i → PureCalls P F.penumbraref01_limb [.one (nl a), .one (.int .i64 i)] [.one (.int .u64 ((a.getD i.toNat 0 : Nat) : Int))]
theorem wr_limb {a : List Nat} {i : Int} (h : WL a) (h0 : 0 ≤ i) : IRwp P [] [nl a, .int .i64 i] ir_penumbraref01_limb (· = [.one (.int .u64 ((a.getD i.toNat 0 : Nat) : Int))]) := by
  unfold ir_penumbraref01_limb
  have hx := h.getD i.toNat
  simp (disch := omega) only [STEP, Px.A.ev, List.map_cons, List.map_nil, List.getD_cons_zero, List.getD_cons_succ, List.cons_append, List.nil_append, List.append_nil, Option.isSome_some, Option.getD_some, true_and, Int.sub_zero, Int.toNat_zero, List.drop_zero, Int.toNat_natCast]
  refine ite_step rfl ?_ ?_
  · intro hi
    simp (disch := omega) only [STEP, Px.A.ev, List.map_cons, List.map_nil, List.getD_cons_zero, List.getD_cons_succ, List.cons_append, List.nil_append, List.append_nil, Option.isSome_some, Option.getD_some, true_and, Int.sub_zero, Int.toNat_zero, List.drop_zero, Int.toNat_natCast]
    exact ret_step rfl
  · intro hi
    refine ret_step ?_
    have : a.getD i.toNat 0 = 0 := by simp [List.getD_eq_getElem?_getD, List.getElem?_eq_none (show a.length ≤ i.toNat by omega)]
    rw [this]; rfl

theorem lt_of_drop {a b : List Nat} (ha : WL a) (hb : WL b) {i : Nat} (h : val (a.drop i) < val (b.drop i)) : val a < val b := by
  rw [← drop_val ha, ← drop_val hb] at h
  rcases Nat.lt_or_ge (val a) (val b) with h1 | h1
  · exact h1
  · have := Nat.div_le_div_right (c := 4294967296 ^ i) h1; omega

def CRCmp (P : Program) : Prop := ∀ a b, WL a → WL b → a.length ≤ 8796093022208 → b.length ≤ 8796093022208 → PureCalls P F.penumbraref01_Cmp [.one (nl a), .one (nl b)] [.one (.int .i64 (cmpI (val a) (val b)))]
theorem wr_cmp (c1 : CRLimb P) {a b : List Nat} (ha : WL a) (hb : WL b) (hla : a.length ≤ 8796093022208) (hlb : b.length ≤ 8796093022208) : IRwp P [] [nl a, nl b] ir_penumbraref01_Cmp (· = [.one (.int .i64 (cmpI (val a) (val b)))]) := by
  unfold ir_penumbraref01_Cmp
  obtain ⟨M, hM⟩ : ∃ M : Int, M = if (b.length : Int) > a.length then (b.length : Int) else a.length := ⟨_, rfl⟩
  have hM1 : (a.length : Int) ≤ M ∧ (b.length : Int) ≤ M ∧ M ≤ 8796093022208 := by rw [hM]; split <;> omega
  have hMn : 0 ≤ M := by omega
  simp (disch := omega) only [STEP, Px.A.ev, List.map_cons, List.map_nil, List.getD_cons_zero, List.getD_cons_succ, List.cons_append, List.nil_append, List.append_nil, Option.isSome_some, Option.getD_some, true_and, Int.sub_zero, Int.toNat_zero, List.drop_zero, Int.toNat_natCast, ← hM]
  refine loop_step (fun ds => ∃ i : Int, ds = [nl a, nl b, .int .i64 i] ∧ -1 ≤ i ∧ i ≤ M ∧ val (a.drop (i + 1).toNat) = val (b.drop (i + 1).toNat)) (numf (fun i => (i + 1).toNat) 2) ?_ ?_ ?_
  · refine ⟨_, rfl, by omega, by omega, ?_⟩
    rw [List.drop_eq_nil_of_le (by omega), List.drop_eq_nil_of_le (by omega)]
  · rintro ds ⟨i, rfl, _⟩; rfl
  · rintro ds ⟨i, rfl, h0, h1, hv⟩
    simp (disch := omega) only [STEP, Px.A.ev, List.map_cons, List.map_nil, List.getD_cons_zero, List.getD_cons_succ, List.cons_append, List.nil_append, List.append_nil, Option.isSome_some, Option.getD_some, true_and, Int.sub_zero, Int.toNat_zero, List.drop_zero, Int.toNat_natCast]
    refine ite_step rfl ?_ ?_
    · intro hi
      have e : (i + 1).toNat = i.toNat + 1 := by omega
      rw [e] at hv
      have g1 := val_getD_drop a i.toNat
      have g2 := val_getD_drop b i.toNat
      refine call_step (c1 a i ha hi) rfl ?_
      refine call_step (c1 b i hb hi) rfl ?_
      simp (disch := omega) only [STEP, Px.A.ev, List.map_cons, List.map_nil, List.getD_cons_zero, List.getD_cons_succ, List.cons_append, List.nil_append, List.append_nil, Option.isSome_some, Option.getD_some, true_and, Int.sub_zero, Int.toNat_zero, List.drop_zero, Int.toNat_natCast]
      refine ite_step rfl ?_ ?_
      · intro hx
        have : val a < val b := lt_of_drop ha hb (i := i.toNat) (by omega)
        exact ret_step (by simp [cmpI, this, Arg.ev, A.ev])
      · intro hx
        simp (disch := omega) only [STEP, Px.A.ev, List.map_cons, List.map_nil, List.getD_cons_zero, List.getD_cons_succ, List.cons_append, List.nil_append, List.append_nil, Option.isSome_some, Option.getD_some, true_and, Int.sub_zero, Int.toNat_zero, List.drop_zero, Int.toNat_natCast]
        refine ite_step rfl ?_ ?_
        · intro hx
          have : val b < val a := lt_of_drop hb ha (i := i.toNat) (by omega)
          exact ret_step (by simp [cmpI, this, Nat.lt_asymm this, Arg.ev, A.ev])
        · intro hx
          simp (disch := omega) only [STEP, Px.A.ev, List.map_cons, List.map_nil, List.getD_cons_zero, List.getD_cons_succ, List.cons_append, List.nil_append, List.append_nil, Option.isSome_some, Option.getD_some, true_and, Int.sub_zero, Int.toNat_zero, List.drop_zero, Int.toNat_natCast]
          refine jump_step rfl ⟨⟨_, rfl, by omega, by omega, ?_⟩, ?_⟩
          · rw [show (i - 1 + 1).toNat = i.toNat by omega]; omega
          · show (i - 1 + 1).toNat < (i + 1).toNat; omega
    · intro hi
      have e : (i + 1).toNat = 0 := by omega
      rw [e] at hv
      simp only [List.drop_zero] at hv
      rw [hv]
      exact ret_step (by simp [cmpI, Arg.ev, A.ev])

def CRZero (P : Program) : Prop := ∀ a, WL a → a.length ≤ 8796093022208 → PureCalls P F.penumbraref01_Zero [.one (nl a)] [.one (.bool (decide (val a = 0)))]
theorem wr_zero (c1 : CRCmp P) {a : List Nat} (ha : WL a) (hla : a.length ≤ 8796093022208) : IRwp P [] [nl a] ir_penumbraref01_Zero (· = [.one (.bool (decide (val a = 0)))]) := by
  unfold ir_penumbraref01_Zero
  refine call_step (c1 a [] ha WL.nil hla (by simp)) rfl ?_
  simp (disch := omega) only [STEP, Px.A.ev, List.map_cons, List.map_nil, List.getD_cons_zero, List.getD_cons_succ, List.cons_append, List.nil_append, List.append_nil, Option.isSome_some, Option.getD_some, true_and, Int.sub_zero, Int.toNat_zero, List.drop_zero, Int.toNat_natCast]
  refine ret_step ?_
  show [AV.one (.bool (decide (cmpI (val a) 0 = 0)))] = _
  have : (cmpI (val a) 0 = 0) ↔ val a = 0 := by
    unfold cmpI
    split
    · omega
    · split
      · constructor
        · intro h; cases h
        · intro h; omega
      · constructor
        · intro h; omega
        · intro h; rfl
  simp only [this]

theorem nbits_half {x : Nat} (h : 0 < x) : nbits x = 1 + nbits (x / 2) := by
  by_cases h2 : x / 2 = 0
  · have : x = 1 := by omega
    subst this; decide
  · exact nbits_shift (k := 1) (by simpa using h2)

def CRBits (P : Program) : Prop := ∀ a, WF a → PureCalls P F.penumbraref01_Bits [.one (nl a)] [.one (.int .i64 (nbits (val a) : Int))]
theorem wr_bits (c1 : CRNorm P) {a : List Nat} (h : WF a) : IRwp P [] [nl a] ir_penumbraref01_Bits (· = [.one (.int .i64 (nbits (val a) : Int))]) := by
  obtain ⟨h, hl⟩ := h
  unfold ir_penumbraref01_Bits
  refine call_step (c1 a h (by omega)) rfl ?_
  have hl' := limbs_len_le h
  simp only [nn]
  simp (disch := omega) only [STEP, Px.A.ev, List.map_cons, List.map_nil, List.getD_cons_zero, List.getD_cons_succ, List.cons_append, List.nil_append, List.append_nil, Option.isSome_some, Option.getD_some, true_and, Int.sub_zero, Int.toNat_zero, List.drop_zero, Int.toNat_natCast]
  refine ite_step rfl ?_ ?_
  · intro h0
    have : val a = 0 := limbs_eq_nil.1 (List.eq_nil_of_length_eq_zero (by omega))
    rw [this]
    exact ret_step rfl
  · intro h0
    have hn : val a ≠ 0 := fun hz => by rw [hz, limbs_zero] at h0; simp at h0
    obtain ⟨e1, e2⟩ := nbits_limbs hn
    have hlt := (WL_limbs (val a)).getD ((limbs (val a)).length - 1)
    have e : ((↑(limbs (val a)).length : Int) - 1).toNat = (limbs (val a)).length - 1 := by omega
    simp (disch := omega) only [STEP, Px.A.ev, List.map_cons, List.map_nil, List.getD_cons_zero, List.getD_cons_succ, List.cons_append, List.nil_append, List.append_nil, Option.isSome_some, Option.getD_some, true_and, Int.sub_zero, Int.toNat_zero, List.drop_zero, Int.toNat_natCast, e]
    have hb := nbits_le (n := (limbs (val a)).getD ((limbs (val a)).length - 1) 0) (k := 32) (by omega)
    refine loop_step (fun ds => ∃ (k : Int) (x : Nat), ds = [.int .i64 k, .int .u32 (x : Int)] ∧ 0 ≤ k ∧ x < 4294967296 ∧ k + nbits x = nbits (val a)) (num 1) ?_ ?_ ?_
    · refine ⟨_, _, rfl, by omega, hlt, ?_⟩
      rw [e1]; omega
    · rintro ds ⟨k, x, rfl, _⟩; rfl
    · rintro ds ⟨k, x, rfl, hk, hx, hv⟩
      have hbx : nbits (val a) ≤ 32 * 4398046511103 + 32 := by rw [e1]; omega
      simp (disch := omega) only [STEP, Px.A.ev, List.map_cons, List.map_nil, List.getD_cons_zero, List.getD_cons_succ, List.cons_append, List.nil_append, List.append_nil, Option.isSome_some, Option.getD_some, true_and, Int.sub_zero, Int.toNat_zero, List.drop_zero, Int.toNat_natCast]
      refine ite_step rfl ?_ ?_
      · intro hi
        have hh := nbits_half (x := x) (by omega)
        simp (disch := omega) only [STEP, Px.A.ev, List.map_cons, List.map_nil, List.getD_cons_zero, List.getD_cons_succ, List.cons_append, List.nil_append, List.append_nil, Option.isSome_some, Option.getD_some, true_and, Int.sub_zero, Int.toNat_zero, List.drop_zero, Int.toNat_natCast]
        refine jump_step rfl ⟨⟨k + 1, x / 2, ?_, by omega, by omega, by omega⟩, ?_⟩
        · simp [A.ev]
        · show ((x : Int) / 2).toNat < ((x : Nat) : Int).toNat
          omega
      · intro hi
        have : x = 0 := by omega
        subst this
        refine ret_step ?_
        show [AV.one (.int .i64 k)] = _
        congr 3
        rw [show nbits 0 = 0 from rfl] at hv
        simpa using hv

def add_bodyR : IR := match ir_penumbraref01_Add with
  | .prim _ _ (.loop _ b) => b
  | _ => .bad
def CRAdd (P : Program) : Prop := ∀ a b, WL a → WL b → a.length ≤ 4398046511103 → b.length ≤ 4398046511103 → PureCalls P F.penumbraref01_Add [.one (nl a), .one (nl b)] [.one (nn (val a + val b))]
theorem wr_add (c1 : CRNorm P) (c2 : CRLimb P) {a b : List Nat} (ha : WL a) (hb : WL b) (hla : a.length ≤ 4398046511103) (hlb : b.length ≤ 4398046511103) : IRwp P [] [nl a, nl b] ir_penumbraref01_Add (· = [.one (nn (val a + val b))]) := by
  unfold ir_penumbraref01_Add
  simp (disch := omega) only [STEP, Px.A.ev, List.map_cons, List.map_nil, List.getD_cons_zero, List.getD_cons_succ, List.cons_append, List.nil_append, List.append_nil, Option.isSome_some, Option.getD_some, true_and, Int.sub_zero, Int.toNat_zero, List.drop_zero, Int.toNat_natCast]
  refine loop_step (fun ds => ∃ (i : Int) (c : Nat) (out : List Nat), ds = [nl a, nl b, .int .u64 (c : Int), .int .i64 i, nl out] ∧ 0 ≤ i ∧ (i ≤ a.length ∨ i ≤ b.length) ∧ c ≤ 1 ∧ WL out ∧ out.length = i.toNat ∧
    val out + 4294967296 ^ i.toNat * c = val (a.take i.toNat) + val (b.take i.toNat)) (numf (fun i => (a.length + b.length - i).toNat) 3) ?_ ?_ ?_
  · exact ⟨0, 0, [], rfl, by omega, by omega, by omega, WL.nil, rfl, by simp [val]⟩
  · rintro ds ⟨i, c, out, rfl, _⟩; rfl
  · rintro ds ⟨i, c, out, rfl, h0, h1, hc, hw, hlo, hv⟩
    have g1 := ha.getD i.toNat
    have g2 := hb.getD i.toNat
    obtain ⟨t, ht⟩ : ∃ t : Nat, t = a.getD i.toNat 0 + b.getD i.toNat 0 + c := ⟨_, rfl⟩
    have e0 : ((a.getD i.toNat 0 : Nat) : Int) + ((b.getD i.toNat 0 : Nat) : Int) + (c : Int) = (t : Int) := by omega
    have e1 : Prim.den (.bin .rem) [.int .u64 (t : Int), .int .u64 4294967296] = some (.int .u64 ((t % 4294967296 : Nat) : Int)) := by rw [d_remu (by omega) (by omega)]; rfl
    have e2 : Prim.den (.bin .quo) [.int .u64 (t : Int), .int .u64 4294967296] = some (.int .u64 ((t / 4294967296 : Nat) : Int)) := by rw [d_quou (by omega) (by omega) (by omega)]; rfl
    have e3 : Prim.den (.conv .u32) [.int .u64 ((t % 4294967296 : Nat) : Int)] = some (.int .u32 ((t % 4294967296 : Nat) : Int)) := d_conv32' (by omega) (by omega)
    have step : (i < a.length ∨ i < b.length) → (∃ (i' : Int) (c' : Nat) (out' : List Nat), [nl a, nl b, DV.int .u64 ((t / 4294967296 : Nat) : Int), .int .i64 (i + 1), nl (out ++ [t % 4294967296])] = [nl a, nl b, .int .u64 (c' : Int), .int .i64 i', nl out'] ∧ 0 ≤ i' ∧ (i' ≤ a.length ∨ i' ≤ b.length) ∧ c' ≤ 1 ∧ WL out' ∧ out'.length = i'.toNat ∧
        val out' + 4294967296 ^ i'.toNat * c' = val (a.take i'.toNat) + val (b.take i'.toNat)) ∧ (a.length + b.length - (i + 1)).toNat < (a.length + b.length - i).toNat := by
      intro hi
      refine ⟨⟨_, _, _, rfl, by omega, by omega, by omega, hw.append (WL.single (Nat.mod_lt _ (by decide))), by simp [hlo]; omega, ?_⟩, by omega⟩
      rw [show (i + 1).toNat = i.toNat + 1 by omega, val_take_getD, val_take_getD, val_snoc, hlo, Nat.pow_succ, ht]
      exact carry_step hv
    simp (disch := omega) only [STEP, Px.A.ev, List.map_cons, List.map_nil, List.getD_cons_zero, List.getD_cons_succ, List.cons_append, List.nil_append, List.append_nil, Option.isSome_some, Option.getD_some, true_and, Int.sub_zero, Int.toNat_zero, List.drop_zero, Int.toNat_natCast]
    refine ite_step rfl ?_ ?_
    · intro hi
      refine call_step (c2 a i ha h0) rfl ?_
      refine call_step (c2 b i hb h0) rfl ?_
      simp (disch := omega) only [STEP, Px.A.ev, List.map_cons, List.map_nil, List.getD_cons_zero, List.getD_cons_succ, List.cons_append, List.nil_append, List.append_nil, Option.isSome_some, Option.getD_some, true_and, Int.sub_zero, Int.toNat_zero, List.drop_zero, Int.toNat_natCast, e0, e1, e2, e3]
      exact jump_step rfl (step (.inl hi))
    · intro hi
      simp (disch := omega) only [STEP, Px.A.ev, List.map_cons, List.map_nil, List.getD_cons_zero, List.getD_cons_succ, List.cons_append, List.nil_append, List.append_nil, Option.isSome_some, Option.getD_some, true_and, Int.sub_zero, Int.toNat_zero, List.drop_zero, Int.toNat_natCast]
      refine ite_step rfl ?_ ?_
      · intro hj
        refine call_step (c2 a i ha h0) rfl ?_
        refine call_step (c2 b i hb h0) rfl ?_
        simp (disch := omega) only [STEP, Px.A.ev, List.map_cons, List.map_nil, List.getD_cons_zero, List.getD_cons_succ, List.cons_append, List.nil_append, List.append_nil, Option.isSome_some, Option.getD_some, true_and, Int.sub_zero, Int.toNat_zero, List.drop_zero, Int.toNat_natCast, e0, e1, e2, e3]
        exact jump_step rfl (step (.inr hj))
      · intro hj
        simp (disch := omega) only [STEP, Px.A.ev, List.map_cons, List.map_nil, List.getD_cons_zero, List.getD_cons_succ, List.cons_append, List.nil_append, List.append_nil, Option.isSome_some, Option.getD_some, true_and, Int.sub_zero, Int.toNat_zero, List.drop_zero, Int.toNat_natCast]
        refine call_step (c1 (out ++ [c]) (hw.append (WL.single (by omega))) (by simp; omega)) rfl ?_
        refine ret_step ?_
        show [AV.one (nn (val (out ++ [c])))] = _
        rw [val_snoc, hlo]
        rw [hv, val_take_all (by omega), val_take_all (by omega)]

theorem borrowR {p va vo vb x y b : Nat} (hx : x < 4294967296) (hy : y < 4294967296) (hb : b ≤ 1) (h : va + p * b = vo + vb) :
    (va + p * x) + p * 4294967296 * (1 - (4294967296 + x - y - b) / 4294967296) = (vo + p * ((4294967296 + x - y - b) % 4294967296)) + (vb + p * y) := by
  have h2 : x + 4294967296 * (1 - (4294967296 + x - y - b) / 4294967296) = (4294967296 + x - y - b) % 4294967296 + y + b := by omega
  generalize (4294967296 + x - y - b) % 4294967296 = r at h2 ⊢
  generalize 1 - (4294967296 + x - y - b) / 4294967296 = q at h2 ⊢
  have : p * (x + 4294967296 * q) = p * (r + y + b) := by rw [h2]
  grind

def CRSub (P : Program) : Prop := ∀ a b, WL a → WL b → a.length ≤ 4398046511103 → b.length ≤ 4398046511103 → PureCalls P F.penumbraref01_Sub [.one (nl a), .one (nl b)] (if val a < val b then [.one (nl []), .one (.bool false)] else [.one (nn (val a - val b)), .one (.bool true)])
theorem wr_sub (c1 : CRNorm P) (c2 : CRLimb P) (c3 : CRCmp P) {a b : List Nat} (ha : WL a) (hb : WL b) (hla : a.length ≤ 4398046511103) (hlb : b.length ≤ 4398046511103) : IRwp P [] [nl a, nl b] ir_penumbraref01_Sub (· = if val a < val b then [.one (nl []), .one (.bool false)] else [.one (nn (val a - val b)), .one (.bool true)]) := by
  unfold ir_penumbraref01_Sub
  refine call_step (c3 a b ha hb (by omega) (by omega)) rfl ?_
  simp (disch := omega) only [STEP, Px.A.ev, List.map_cons, List.map_nil, List.getD_cons_zero, List.getD_cons_succ, List.cons_append, List.nil_append, List.append_nil, Option.isSome_some, Option.getD_some, true_and, Int.sub_zero, Int.toNat_zero, List.drop_zero, Int.toNat_natCast]
  refine ite_step rfl ?_ ?_
  · intro h
    have : val a < val b := by unfold cmpI at h; split at h <;> first | assumption | (split at h <;> omega)
    rw [if_pos this]
    exact ret_step rfl
  · intro h
    have hge : val b ≤ val a := by unfold cmpI at h; split at h <;> omega
    rw [if_neg (by omega)]
    simp (disch := omega) only [STEP, Px.A.ev, List.map_cons, List.map_nil, List.getD_cons_zero, List.getD_cons_succ, List.cons_append, List.nil_append, List.append_nil, Option.isSome_some, Option.getD_some, true_and, Int.sub_zero, Int.toNat_zero, List.drop_zero, Int.toNat_natCast]
    refine loop_step (fun ds => ∃ (i : Int) (c : Nat) (out : List Nat), ds = [nl a, nl b, .int .u64 (c : Int), .int .i64 i, nl out] ∧ 0 ≤ i ∧ i ≤ a.length ∧ c ≤ 1 ∧ WL out ∧ out.length = i.toNat ∧
      val (a.take i.toNat) + 4294967296 ^ i.toNat * c = val out + val (b.take i.toNat)) (numf (fun i => (a.length - i).toNat) 3) ?_ ?_ ?_
    · exact ⟨0, 0, [], rfl, by omega, by omega, by omega, WL.nil, rfl, by simp [val]⟩
    · rintro ds ⟨i, c, out, rfl, _⟩; rfl
    · rintro ds ⟨i, c, out, rfl, h0, h1, hc, hw, hlo, hv⟩
      simp (disch := omega) only [STEP, Px.A.ev, List.map_cons, List.map_nil, List.getD_cons_zero, List.getD_cons_succ, List.cons_append, List.nil_append, List.append_nil, Option.isSome_some, Option.getD_some, true_and, Int.sub_zero, Int.toNat_zero, List.drop_zero, Int.toNat_natCast]
      refine ite_step rfl ?_ ?_
      · intro hi
        have g1 := ha.getD i.toNat
        have g2 := hb.getD i.toNat
        have hbr := borrowR g1 g2 hc hv
        obtain ⟨t, ht⟩ : ∃ t : Nat, t = 4294967296 + a.getD i.toNat 0 - b.getD i.toNat 0 - c := ⟨_, rfl⟩
        rw [← ht] at hbr
        have e0 : 4294967296 + ((a.getD i.toNat 0 : Nat) : Int) - ((b.getD i.toNat 0 : Nat) : Int) - (c : Int) = (t : Int) := by omega
        have htB : t < 8589934592 := by omega
        have e1 : Prim.den (.bin .rem) [.int .u64 (t : Int), .int .u64 4294967296] = some (.int .u64 ((t % 4294967296 : Nat) : Int)) := by rw [d_remu (by omega) (by omega)]; rfl
        have e2 : Prim.den (.bin .quo) [.int .u64 (t : Int), .int .u64 4294967296] = some (.int .u64 ((t / 4294967296 : Nat) : Int)) := by rw [d_quou (by omega) (by omega) (by omega)]; rfl
        have e3 : Prim.den (.conv .u32) [.int .u64 ((t % 4294967296 : Nat) : Int)] = some (.int .u32 ((t % 4294967296 : Nat) : Int)) := d_conv32' (by omega) (by omega)
        have e4 : Prim.den (.bin .sub) [.int .u64 1, .int .u64 ((t / 4294967296 : Nat) : Int)] = some (.int .u64 ((1 - t / 4294967296 : Nat) : Int)) := by
          rw [d_subu (by omega) (by omega)]; congr 2; omega
        refine call_step (c2 a i ha h0) rfl ?_
        simp (disch := omega) only [STEP, Px.A.ev, List.map_cons, List.map_nil, List.getD_cons_zero, List.getD_cons_succ, List.cons_append, List.nil_append, List.append_nil, Option.isSome_some, Option.getD_some, true_and, Int.sub_zero, Int.toNat_zero, List.drop_zero, Int.toNat_natCast]
        refine call_step (c2 b i hb h0) rfl ?_
        simp (disch := omega) only [STEP, Px.A.ev, List.map_cons, List.map_nil, List.getD_cons_zero, List.getD_cons_succ, List.cons_append, List.nil_append, List.append_nil, Option.isSome_some, Option.getD_some, true_and, Int.sub_zero, Int.toNat_zero, List.drop_zero, Int.toNat_natCast, e0, e1, e2, e3, e4]
        refine jump_step rfl ⟨⟨_, _, _, rfl, by omega, by omega, by omega, hw.append (WL.single (Nat.mod_lt _ (by decide))), by simp [hlo]; omega, ?_⟩, ?_⟩
        · rw [show (i + 1).toNat = i.toNat + 1 by omega, val_take_getD, val_take_getD, val_snoc, hlo, Nat.pow_succ]
          exact hbr
        · show (a.length - (i + 1) : Int).toNat < (a.length - i : Int).toNat
          omega
      · intro hi
        refine call_step (c1 out hw (by omega)) rfl ?_
        refine ret_step ?_
        show [AV.one (nn (val out)), AV.one (.bool true)] = _
        have hila : i.toNat = a.length := by omega
        have hbt : val (b.take i.toNat) = val b := by
          have h5 : val (b.drop i.toNat) = 0 := by
            rw [← drop_val hb]
            refine Nat.div_eq_of_lt (Nat.lt_of_le_of_lt hge ?_)
            rw [hila]; exact val_lt ha
          have h6 := val_take_drop b i.toNat
          rw [h5] at h6; simpa using h6.symm
        rw [val_take_all (by omega), hbt] at hv
        have h4 := val_lt hw
        rw [hlo] at h4
        have : c = 0 ∨ c = 1 := by omega
        rcases this with rfl | rfl
        · rw [show val out = val a - val b by omega]
        · exfalso; omega

end Go.Px.Na

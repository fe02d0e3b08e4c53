/- Wr1: the document's naturals: Norm, Same, Of, limb, Cmp, Zero, Bits, Add, Sub. -/
import Derived.Test.YtnohcccgfefnkaaGreatWn7
set_option maxRecDepth 10000
set_option linter.unusedSimpArgs false
set_option linter.unusedVariables false
namespace Go.Px.Na
open Go.RowKit
variable {P : Program}

def CRNorm (P : Program) : Prop := ∀ a, WL a → a.length ≤ 8796093022208 → PureCalls P F.penumbraref01_Norm [.one (nl a)] [.one (nn (val a))]
theorem wr_norm {a : List Nat} (h : WL a) (hl : a.length ≤ 8796093022208) : IRwp P [] [nl a] ir_penumbraref01_Norm (· = [.one (nn (val a))]) := by
  unfold ir_penumbraref01_Norm
  simp (disch := omega) only [STP]
  refine loop_step (fun ds => ∃ n : Int, ds = [nl a, .int .i64 n] ∧ 0 ≤ n ∧ n ≤ a.length ∧ val (a.take n.toNat) = val a) (num 1) ?_ ?_ ?_
  · exact ⟨a.length, rfl, by omega, by omega, by simp⟩
  · rintro ds ⟨n, rfl, _⟩; rfl
  · rintro ds ⟨n, rfl, h0, hn, hv⟩
    have htl : (a.take n.toNat).length ≤ 8796093022208 := by simp; omega
    simp (disch := omega) only [STP]
    refine ite_step rfl ?_ ?_
    · intro hb
      simp (disch := omega) only [STP]
      refine ite_step rfl ?_ ?_
      · intro hz
        simp (disch := omega) only [STP]
        refine jump_step rfl ⟨⟨_, rfl, by omega, by omega, ?_⟩, ?_⟩
        · rw [val_cut (by omega) (by omega), ← hv]; congr 2; omega
        · show (n - 1).toNat < n.toNat; omega
      · intro hz
        simp (disch := omega) only [STP]
        refine ret_step ?_
        show [AV.one (nl (a.take n.toNat))] = _
        rw [limbs_of_take h (by omega) hv (.inr ?_)]; rfl
        rw [show n.toNat - 1 = (n - 1).toNat by omega]; omega
    · intro hb
      simp (disch := omega) only [STP]
      refine ret_step ?_
      show [AV.one (nl (a.take n.toNat))] = _
      rw [limbs_of_take h (by omega) hv (.inl (by omega))]; rfl

def CRSame (P : Program) : Prop := ∀ a b : List Nat, a.length ≤ 8796093022208 → b.length ≤ 8796093022208 → PureCalls P F.penumbraref01_Same [.one (nl a), .one (nl b)] [.one (.bool (decide (a = b)))]
theorem wr_same {a b : List Nat} (ha : a.length ≤ 8796093022208) (hb : b.length ≤ 8796093022208) : IRwp P [] [nl a, nl b] ir_penumbraref01_Same (· = [.one (.bool (decide (a = b)))]) := by
  unfold ir_penumbraref01_Same
  simp (disch := omega) only [STP]
  refine ite_step rfl ?_ ?_
  · intro h
    have : a ≠ b := fun he => h (by rw [he])
    exact ret_step (by simp [Arg.ev, A.ev, this])
  · intro h
    have hl : a.length = b.length := by omega
    refine loop_step (fun ds => ∃ i : Int, ds = [nl a, nl b, .int .i64 i] ∧ 0 ≤ i ∧ i ≤ a.length ∧ a.take i.toNat = b.take i.toNat) (numf (fun i => (a.length - i).toNat) 2) ?_ ?_ ?_
    · exact ⟨0, rfl, by omega, by omega, by simp⟩
    · rintro ds ⟨i, rfl, _⟩; rfl
    · rintro ds ⟨i, rfl, h0, h1, hv⟩
      simp (disch := omega) only [STP]
      refine ite_step rfl ?_ ?_
      · intro hi
        have ea : a.getD i.toNat 0 = a[i.toNat]'(by omega) := by simp [List.getD_eq_getElem?_getD, show i.toNat < a.length by omega]
        have eb : b.getD i.toNat 0 = b[i.toNat]'(by omega) := by simp [List.getD_eq_getElem?_getD, show i.toNat < b.length by omega]
        simp (disch := omega) only [STP]
        refine ite_step rfl ?_ ?_
        · intro hne
          have : a ≠ b := fun he => hne (by rw [he])
          exact ret_step (by simp [Arg.ev, A.ev, this])
        · intro hne
          simp (disch := omega) only [STP]
          refine jump_step rfl ⟨⟨_, rfl, by omega, by omega, ?_⟩, ?_⟩
          · rw [show (i + 1).toNat = i.toNat + 1 by omega, List.take_succ_eq_append_getElem (by omega), List.take_succ_eq_append_getElem (by omega), hv, ← ea, ← eb, show a.getD i.toNat 0 = b.getD i.toNat 0 by omega]
          · show (a.length - (i + 1) : Int).toNat < (a.length - i : Int).toNat
            omega
      · intro hi
        rw [List.take_of_length_le (by omega), List.take_of_length_le (by omega)] at hv
        exact ret_step (by simp [Arg.ev, A.ev, hv])

def CROf (P : Program) : Prop := ∀ n : Nat, n < 18446744073709551616 → PureCalls P F.penumbraref01_Of [.one (.int .u64 (n : Int))] [.one (nn n)]
theorem wr_of (c1 : CRNorm P) {n : Nat} (h : n < 18446744073709551616) : IRwp P [] [.int .u64 (n : Int)] ir_penumbraref01_Of (· = [.one (nn n)]) := by
  unfold ir_penumbraref01_Of
  have e1 : Prim.den (.conv .u32) [.int .u64 (n : Int)] = some (.int .u32 ((n % 4294967296 : Nat) : Int)) := by rw [d_conv32]; rfl
  have e2 : Prim.den (.bin .shr) [.int .u64 (n : Int), .int .u64 32] = some (.int .u64 ((n / 4294967296 : Nat) : Int)) := by rw [d_shr32 rfl]; rfl
  have e3 : Prim.den (.conv .u32) [.int .u64 ((n / 4294967296 : Nat) : Int)] = some (.int .u32 ((n / 4294967296 : Nat) : Int)) := d_conv32' (by omega) (by omega)
  simp (disch := omega) only [STP, e1, e2, e3]
  refine call_step (c1 [n % 4294967296, n / 4294967296] (WL.cons (by omega) (WL.single (by omega))) (by simp)) rfl ?_
  refine ret_step ?_
  show [AV.one (nn (val _))] = _
  congr 3
  simp only [val]; omega

def CRLimb (P : Program) : Prop := ∀ (a : List Nat) (i : Int), WL a → 0 ≤ i → PureCalls P F.penumbraref01_limb [.one (nl a), .one (.int .i64 i)] [.one (.int .u64 ((a.getD i.toNat 0 : Nat) : Int))]
theorem wr_limb {a : List Nat} {i : Int} (h : WL a) (h0 : 0 ≤ i) : IRwp P [] [nl a, .int .i64 i] ir_penumbraref01_limb (· = [.one (.int .u64 ((a.getD i.toNat 0 : Nat) : Int))]) := by
  unfold ir_penumbraref01_limb
  have hx := h.getD i.toNat
  simp (disch := omega) only [STP]
  refine ite_step rfl ?_ ?_
  · intro hi
    simp (disch := omega) only [STP]
    exact ret_step rfl
  · intro hi
    refine ret_step ?_
    have : a.getD i.toNat 0 = 0 := by simp [List.getD_eq_getElem?_getD, List.getElem?_eq_none (show a.length ≤ i.toNat by omega)]
    rw [this]; rfl

theorem lt_of_drop {a b : List Nat} (ha : WL a) (hb : WL b) {i : Nat} (h : val (a.drop i) < val (b.drop i)) : val a < val b := by
  rw [← drop_val ha, ← drop_val hb] at h
  rcases Nat.lt_or_ge (val a) (val b) with h1 | h1
  · exact h1
  · have := Nat.div_le_div_right (c := 4294967296 ^ i) h1; omega

def CRCmp (P : Program) : Prop := ∀ a b, WL a → WL b → a.length ≤ 8796093022208 → b.length ≤ 8796093022208 → PureCalls P F.penumbraref01_Cmp [.one (nl a), .one (nl b)] [.one (.int .i64 (cmpI (val a) (val b)))]
theorem wr_cmp (c1 : CRLimb P) {a b : List Nat} (ha : WL a) (hb : WL b) (hla : a.length ≤ 8796093022208) (hlb : b.length ≤ 8796093022208) : IRwp P [] [nl a, nl b] ir_penumbraref01_Cmp (· = [.one (.int .i64 (cmpI (val a) (val b)))]) := by
  unfold ir_penumbraref01_Cmp
  obtain ⟨M, hM⟩ : ∃ M : Int, M = if (b.length : Int) > a.length then (b.length : Int) else a.length := ⟨_, rfl⟩
  have hM1 : (a.length : Int) ≤ M ∧ (b.length : Int) ≤ M ∧ M ≤ 8796093022208 := by rw [hM]; split <;> omega
  have hMn : 0 ≤ M := by omega
  simp (disch := omega) only [STP, ← hM]
  refine loop_step (fun ds => ∃ i : Int, ds = [nl a, nl b, .int .i64 i] ∧ -1 ≤ i ∧ i ≤ M ∧ val (a.drop (i + 1).toNat) = val (b.drop (i + 1).toNat)) (numf (fun i => (i + 1).toNat) 2) ?_ ?_ ?_
  · refine ⟨_, rfl, by omega, by omega, ?_⟩
    rw [List.drop_eq_nil_of_le (by omega), List.drop_eq_nil_of_le (by omega)]
  · rintro ds ⟨i, rfl, _⟩; rfl
  · rintro ds ⟨i, rfl, h0, h1, hv⟩
    simp (disch := omega) only [STP]
    refine ite_step rfl ?_ ?_
    · intro hi
      have e : (i + 1).toNat = i.toNat + 1 := by omega
      rw [e] at hv
      have g1 := val_getD_drop a i.toNat
      have g2 := val_getD_drop b i.toNat
      refine call_step (c1 a i ha hi) rfl ?_
      refine call_step (c1 b i hb hi) rfl ?_
      simp (disch := omega) only [STP]
      refine ite_step rfl ?_ ?_
      · intro hx
        have : val a < val b := lt_of_drop ha hb (i := i.toNat) (by omega)
        exact ret_step (by simp [cmpI, this, Arg.ev, A.ev])
      · intro hx
        simp (disch := omega) only [STP]
        refine ite_step rfl ?_ ?_
        · intro hx
          have : val b < val a := lt_of_drop hb ha (i := i.toNat) (by omega)
          exact ret_step (by simp [cmpI, this, Nat.lt_asymm this, Arg.ev, A.ev])
        · intro hx
          simp (disch := omega) only [STP]
          refine jump_step rfl ⟨⟨_, rfl, by omega, by omega, ?_⟩, ?_⟩
          · rw [show (i - 1 + 1).toNat = i.toNat by omega]; omega
          · show (i - 1 + 1).toNat < (i + 1).toNat; omega
    · intro hi
      have e : (i + 1).toNat = 0 := by omega
      rw [e] at hv
      simp only [List.drop_zero] at hv
      rw [hv]
      exact ret_step (by simp [cmpI, Arg.ev, A.ev])

def CRZero (P : Program) : Prop := ∀ a, WL a → a.length ≤ 8796093022208 → PureCalls P F.penumbraref01_Zero [.one (nl a)] [.one (.bool (decide (val a = 0)))]
theorem wr_zero (c1 : CRCmp P) {a : List Nat} (ha : WL a) (hla : a.length ≤ 8796093022208) : IRwp P [] [nl a] ir_penumbraref01_Zero (· = [.one (.bool (decide (val a = 0)))]) := by
  unfold ir_penumbraref01_Zero
  refine call_step (c1 a [] ha WL.nil hla (by simp)) rfl ?_
  simp (disch := omega) only [STP]
  refine ret_step ?_
  show [AV.one (.bool (decide (cmpI (val a) 0 = 0)))] = _
  have : (cmpI (val a) 0 = 0) ↔ val a = 0 := by
    unfold cmpI
    split
    · omega
    · split
      · constructor
        · intro h; cases h
        · intro h; omega
      · constructor
        · intro h; omega
        · intro h; rfl
  simp only [this]

def CRAdd (P : Program) : Prop := ∀ a b, WL a → WL b → a.length ≤ 4398046511103 → b.length ≤ 4398046511103 → PureCalls P F.penumbraref01_Add [.one (nl a), .one (nl b)] [.one (nn (val a + val b))]
theorem wr_add (c1 : CRNorm P) (c2 : CRLimb P) {a b : List Nat} (ha : WL a) (hb : WL b) (hla : a.length ≤ 4398046511103) (hlb : b.length ≤ 4398046511103) : IRwp P [] [nl a, nl b] ir_penumbraref01_Add (· = [.one (nn (val a + val b))]) := by
  unfold ir_penumbraref01_Add
  simp (disch := omega) only [STP]
  refine loop_step (fun ds => ∃ (i : Int) (c : Nat) (out : List Nat), ds = [nl a, nl b, .int .u64 (c : Int), .int .i64 i, nl out] ∧ 0 ≤ i ∧ (i ≤ a.length ∨ i ≤ b.length) ∧ c ≤ 1 ∧ WL out ∧ out.length = i.toNat ∧
    val out + 4294967296 ^ i.toNat * c = val (a.take i.toNat) + val (b.take i.toNat)) (numf (fun i => (a.length + b.length - i).toNat) 3) ?_ ?_ ?_
  · exact ⟨0, 0, [], rfl, by omega, by omega, by omega, WL.nil, rfl, by simp [val]⟩
  · rintro ds ⟨i, c, out, rfl, _⟩; rfl
  · rintro ds ⟨i, c, out, rfl, h0, h1, hc, hw, hlo, hv⟩
    have g1 := ha.getD i.toNat
    have g2 := hb.getD i.toNat
    obtain ⟨t, ht⟩ : ∃ t : Nat, t = a.getD i.toNat 0 + b.getD i.toNat 0 + c := ⟨_, rfl⟩
    have e0 : ((a.getD i.toNat 0 : Nat) : Int) + ((b.getD i.toNat 0 : Nat) : Int) + (c : Int) = (t : Int) := by omega
    have e1 : Prim.den (.bin .rem) [.int .u64 (t : Int), .int .u64 4294967296] = some (.int .u64 ((t % 4294967296 : Nat) : Int)) := by rw [d_remu (by omega) (by omega)]; rfl
    have e2 : Prim.den (.bin .quo) [.int .u64 (t : Int), .int .u64 4294967296] = some (.int .u64 ((t / 4294967296 : Nat) : Int)) := by rw [d_quou (by omega) (by omega) (by omega)]; rfl
    have e3 : Prim.den (.conv .u32) [.int .u64 ((t % 4294967296 : Nat) : Int)] = some (.int .u32 ((t % 4294967296 : Nat) : Int)) := d_conv32' (by omega) (by omega)
    have step : (i < a.length ∨ i < b.length) → (∃ (i' : Int) (c' : Nat) (out' : List Nat), [nl a, nl b, DV.int .u64 ((t / 4294967296 : Nat) : Int), .int .i64 (i + 1), nl (out ++ [t % 4294967296])] = [nl a, nl b, .int .u64 (c' : Int), .int .i64 i', nl out'] ∧ 0 ≤ i' ∧ (i' ≤ a.length ∨ i' ≤ b.length) ∧ c' ≤ 1 ∧ WL out' ∧ out'.length = i'.toNat ∧
        val out' + 4294967296 ^ i'.toNat * c' = val (a.take i'.toNat) + val (b.take i'.toNat)) ∧ (a.length + b.length - (i + 1)).toNat < (a.length + b.length - i).toNat := by
      intro hi
      refine ⟨⟨_, _, _, rfl, by omega, by omega, by omega, hw.append (WL.single (Nat.mod_lt _ (by decide))), by simp [hlo]; omega, ?_⟩, by omega⟩
      rw [show (i + 1).toNat = i.toNat + 1 by omega, val_take_getD, val_take_getD, val_snoc, hlo, Nat.pow_succ, ht]
      exact carry_step hv
    simp (disch := omega) only [STP]
    refine ite_step rfl ?_ ?_
    · intro hi
      refine call_step (c2 a i ha h0) rfl ?_
      refine call_step (c2 b i hb h0) rfl ?_
      simp (disch := omega) only [STP, e0, e1, e2, e3]
      exact jump_step rfl (step (.inl hi))
    · intro hi
      simp (disch := omega) only [STP]
      refine ite_step rfl ?_ ?_
      · intro hj
        refine call_step (c2 a i ha h0) rfl ?_
        refine call_step (c2 b i hb h0) rfl ?_
        simp (disch := omega) only [STP, e0, e1, e2, e3]
        exact jump_step rfl (step (.inr hj))
      · intro hj
        simp (disch := omega) only [STP]
        refine call_step (c1 (out ++ [c]) (hw.append (WL.single (by omega))) (by simp; omega)) rfl ?_
        refine ret_step ?_
        show [AV.one (nn (val (out ++ [c])))] = _
        rw [val_snoc, hlo]
        rw [hv, val_take_all (by omega), val_take_all (by omega)]

theorem borrowR {p va vo vb x y b : Nat} (hx : x < 4294967296) (hy : y < 4294967296) (hb : b ≤ 1) (h : va + p * b = vo + vb) :
    (va + p * x) + p * 4294967296 * (1 - (4294967296 + x - y - b) / 4294967296) = (vo + p * ((4294967296 + x - y - b) % 4294967296)) + (vb + p * y) := by
  have h2 : x + 4294967296 * (1 - (4294967296 + x - y - b) / 4294967296) = (4294967296 + x - y - b) % 4294967296 + y + b := by omega
  generalize (4294967296 + x - y - b) % 4294967296 = r at h2 ⊢
  generalize 1 - (4294967296 + x - y - b) / 4294967296 = q at h2 ⊢
  have : p * (x + 4294967296 * q) = p * (r + y + b) := by rw [h2]
  grind

def CRSub (P : Program) : Prop := ∀ a b, WL a → WL b → a.length ≤ 4398046511103 → b.length ≤ 4398046511103 → PureCalls P F.penumbraref01_Sub [.one (nl a), .one (nl b)] (if val a < val b then [.one (nl []), .one (.bool false)] else [.one (nn (val a - val b)), .one (.bool true)])
theorem wr_sub (c1 : CRNorm P) (c2 : CRLimb P) (c3 : CRCmp P) {a b : List Nat} (ha : WL a) (hb : WL b) (hla : a.length ≤ 4398046511103) (hlb : b.length ≤ 4398046511103) : IRwp P [] [nl a, nl b] ir_penumbraref01_Sub (· = if val a < val b then [.one (nl []), .one (.bool false)] else [.one (nn (val a - val b)), .one (.bool true)]) := by
  unfold ir_penumbraref01_Sub
  refine call_step (c3 a b ha hb (by omega) (by omega)) rfl ?_
  simp (disch := omega) only [STP]
  refine ite_step rfl ?_ ?_
  · intro h
    have : val a < val b := by unfold cmpI at h; split at h <;> first | assumption | (split at h <;> omega)
    rw [if_pos this]
    exact ret_step rfl
  · intro h
    have hge : val b ≤ val a := by unfold cmpI at h; split at h <;> omega
    rw [if_neg (by omega)]
    simp (disch := omega) only [STP]
    refine loop_step (fun ds => ∃ (i : Int) (c : Nat) (out : List Nat), ds = [nl a, nl b, .int .u64 (c : Int), .int .i64 i, nl out] ∧ 0 ≤ i ∧ i ≤ a.length ∧ c ≤ 1 ∧ WL out ∧ out.length = i.toNat ∧
      val (a.take i.toNat) + 4294967296 ^ i.toNat * c = val out + val (b.take i.toNat)) (numf (fun i => (a.length - i).toNat) 3) ?_ ?_ ?_
    · exact ⟨0, 0, [], rfl, by omega, by omega, by omega, WL.nil, rfl, by simp [val]⟩
    · rintro ds ⟨i, c, out, rfl, _⟩; rfl
    · rintro ds ⟨i, c, out, rfl, h0, h1, hc, hw, hlo, hv⟩
      simp (disch := omega) only [STP]
      refine ite_step rfl ?_ ?_
      · intro hi
        have g1 := ha.getD i.toNat
        have g2 := hb.getD i.toNat
        have hbr := borrowR g1 g2 hc hv
        obtain ⟨t, ht⟩ : ∃ t : Nat, t = 4294967296 + a.getD i.toNat 0 - b.getD i.toNat 0 - c := ⟨_, rfl⟩
        rw [← ht] at hbr
        have e0 : 4294967296 + ((a.getD i.toNat 0 : Nat) : Int) - ((b.getD i.toNat 0 : Nat) : Int) - (c : Int) = (t : Int) := by omega
        have htB : t < 8589934592 := by omega
        have e1 : Prim.den (.bin .rem) [.int .u64 (t : Int), .int .u64 4294967296] = some (.int .u64 ((t % 4294967296 : Nat) : Int)) := by rw [d_remu (by omega) (by omega)]; rfl
        have e2 : Prim.den (.bin .quo) [.int .u64 (t : Int), .int .u64 4294967296] = some (.int .u64 ((t / 4294967296 : Nat) : Int)) := by rw [d_quou (by omega) (by omega) (by omega)]; rfl
        have e3 : Prim.den (.conv .u32) [.int .u64 ((t % 4294967296 : Nat) : Int)] = some (.int .u32 ((t % 4294967296 : Nat) : Int)) := d_conv32' (by omega) (by omega)
        have e4 : Prim.den (.bin .sub) [.int .u64 1, .int .u64 ((t / 4294967296 : Nat) : Int)] = some (.int .u64 ((1 - t / 4294967296 : Nat) : Int)) := by
          rw [d_subu (by omega) (by omega)]; congr 2; omega
        refine call_step (c2 a i ha h0) rfl ?_
        simp (disch := omega) only [STP]
        refine call_step (c2 b i hb h0) rfl ?_
        simp (disch := omega) only [STP, e0, e1, e2, e3, e4]
        refine jump_step rfl ⟨⟨_, _, _, rfl, by omega, by omega, by omega, hw.append (WL.single (Nat.mod_lt _ (by decide))), by simp [hlo]; omega, ?_⟩, ?_⟩
        · rw [show (i + 1).toNat = i.toNat + 1 by omega, val_take_getD, val_take_getD, val_snoc, hlo, Nat.pow_succ]
          exact hbr
        · show (a.length - (i + 1) : Int).toNat < (a.length - i : Int).toNat
          omega
      · intro hi
        refine call_step (c1 out hw (by omega)) rfl ?_
        refine ret_step ?_
        show [AV.one (nn (val out)), AV.one (.bool true)] = _
        have hila : i.toNat = a.length := by omega
        have hbt : val (b.take i.toNat) = val b := by
          have h5 : val (b.drop i.toNat) = 0 := by
            rw [← drop_val hb]
            refine Nat.div_eq_of_lt (Nat.lt_of_le_of_lt hge ?_)
            rw [hila]; exact val_lt ha
          have h6 := val_take_drop b i.toNat
          rw [h5] at h6; simpa using h6.symm
        rw [val_take_all (by omega), hbt] at hv
        have h4 := val_lt hw
        rw [hlo] at h4
        have : c = 0 ∨ c = 1 := by omega
        rcases this with rfl | rfl
        · rw [show val out = val a - val b by omega]
        · exfalso; omega

end Go.Px.Na
/- Wr2: the document's naturals: Mul, Double, Half, at. -/
set_option maxRecDepth 10000
set_option linter.unusedSimpArgs false
set_option linter.unusedVariables false
namespace Go.Px.Na
open Go.RowKit
variable {P : Program}

theorem d_rem32 (t : Nat) : Prim.den (.bin .rem) [.int .u64 (t : Int), .int .u64 4294967296] = some (.int .u64 ((t % 4294967296 : Nat) : Int)) := by rw [d_remu (by omega) (by omega)]; rfl
theorem d_quo32n {t : Nat} (h : t < 18446744073709551616) : Prim.den (.bin .quo) [.int .u64 (t : Int), .int .u64 4294967296] = some (.int .u64 ((t / 4294967296 : Nat) : Int)) := by rw [d_quou (by omega) (by omega) (by omega)]; rfl
theorem d_c32 (t : Nat) : Prim.den (.conv .u32) [.int .u64 ((t % 4294967296 : Nat) : Int)] = some (.int .u32 ((t % 4294967296 : Nat) : Int)) := d_conv32' (by omega) (by omega)

def CRMul (P : Program) : Prop := ∀ a b, WL a → WL b → a.length ≤ 4398046511103 → b.length ≤ 4398046511103 → PureCalls P F.penumbraref01_Mul [.one (nl a), .one (nl b)] [.one (nn (val a * val b))]
theorem wr_mul (c1 : CRNorm P) {A B : List Nat} (wa : WL A) (wb : WL B) (hla : A.length ≤ 4398046511103) (hlb : B.length ≤ 4398046511103) : IRwp P [] [nl A, nl B] ir_penumbraref01_Mul (· = [.one (nn (val A * val B))]) := by
  unfold ir_penumbraref01_Mul
  simp (disch := omega) only [STP]
  refine loop_step (fun ds => ∃ (i : Int) (out : List Nat), ds = [nl A, nl B, .int .i64 i, nl out] ∧ 0 ≤ i ∧ i ≤ A.length ∧ WL out ∧ out.length = A.length + B.length + 1 ∧
    (∀ j, i.toNat + B.length ≤ j → out.getD j 0 = 0) ∧ val out = val (A.take i.toNat) * val B) (numf (fun i => (A.length - i).toNat) 2) ?_ ?_ ?_
  · refine ⟨0, List.replicate ((A.length : Int) + B.length + 1).toNat 0, rfl, by omega, by omega, WL.rep _, by simp; omega, fun j _ => ?_, ?_⟩
    · simp only [List.getD_eq_getElem?_getD, List.getElem?_replicate]; split <;> rfl
    · rw [val_rep]; simp [val]
  · rintro ds ⟨i, out, rfl, _⟩; rfl
  · rintro ds ⟨i, out, rfl, h0, h1, hw, hlo, hz, hv⟩
    simp (disch := omega) only [STP]
    refine ite_step rfl ?_ ?_
    · intro hi
      have hx := wa.getD i.toNat
      refine loop_step (fun ds => ∃ (k : Int) (c : Nat) (out' : List Nat), ds = [nl A, nl B, .int .i64 i, .int .u64 c, .int .i64 k, nl out'] ∧ 0 ≤ k ∧ k ≤ B.length ∧ c < 4294967296 ∧ WL out' ∧ out'.length = A.length + B.length + 1 ∧
        (∀ j, i.toNat + B.length ≤ j → out'.getD j 0 = 0) ∧ val out' + (4294967296 ^ i.toNat * 4294967296 ^ k.toNat) * c = val out + 4294967296 ^ i.toNat * A.getD i.toNat 0 * val (B.take k.toNat)) (numf (fun k => (B.length - k).toNat) 4) ?_ ?_ ?_
      · exact ⟨0, 0, out, rfl, by omega, by omega, by omega, hw, hlo, hz, by simp [val]⟩
      · rintro ds ⟨k, c, out', rfl, _⟩; rfl
      · rintro ds ⟨k, c, out', rfl, g0, g1, gc, gw, glo, gz, gv⟩
        simp (disch := omega) only [STP]
        refine ite_step rfl ?_ ?_
        · intro hk
          have hy := wb.getD k.toNat
          have ho := gw.getD (i + k).toNat
          have hm := mul_lt64 hx hy
          obtain ⟨xy, hxy⟩ : ∃ xy : Nat, xy = A.getD i.toNat 0 * B.getD k.toNat 0 := ⟨_, rfl⟩
          rw [← hxy] at hm
          have e1 : Prim.den (.bin .mul) [.int .u64 ((A.getD i.toNat 0 : Nat) : Int), .int .u64 ((B.getD k.toNat 0 : Nat) : Int)] = some (.int .u64 (xy : Int)) := by
            have : ((A.getD i.toNat 0 : Nat) : Int) * ((B.getD k.toNat 0 : Nat) : Int) = (xy : Int) := by rw [hxy]; simp
            rw [d_mulu (by omega) (by omega), this]
          have e4 : Prim.den (.bin .add) [.int .u64 ((xy : Int) + ((out'.getD (i + k).toNat 0 : Nat) : Int)), .int .u64 (c : Int)] = some (.int .u64 ((xy + out'.getD (i + k).toNat 0 + c : Nat) : Int)) := by
            rw [d_addu (by omega) (by omega)]; simp
          have e5 := d_quo32n (t := xy + out'.getD (i + k).toNat 0 + c) (by omega)
          simp (disch := omega) only [STP, e1, d_rem32, d_c32, e4, e5]
          refine jump_step rfl ⟨⟨_, _, _, rfl, by omega, by omega, by omega, gw.set (Nat.mod_lt _ (by decide)), by simp [glo], fun j hj => ?_, ?_⟩, ?_⟩
          · rw [getD_set_ne (by omega)]; exact gz j hj
          · have hs := val_set (l := out') (j := (i + k).toNat) (x := (xy + out'.getD (i + k).toNat 0 + c) % 4294967296) (by omega)
            rw [show (i + k).toNat = i.toNat + k.toNat by omega, Nat.pow_add] at hs
            rw [show (k + 1).toNat = k.toNat + 1 by omega, val_take_getD, Nat.pow_succ]
            rw [show (i + k).toNat = i.toNat + k.toNat by omega] at *
            rw [hxy] at hs ⊢
            have := mul_step hs gv
            rw [← Nat.mul_assoc]
            exact this
          · show (B.length - (k + 1) : Int).toNat < (B.length - k : Int).toNat
            omega
        · intro hk
          have e2 : Prim.den (.conv .u32) [.int .u64 (c : Int)] = some (.int .u32 (c : Int)) := d_conv32' (by omega) (by omega)
          simp (disch := omega) only [STP, e2]
          refine jump_step rfl ⟨⟨_, _, rfl, by omega, by omega, gw.set gc, by simp [glo], fun j hj => ?_, ?_⟩, ?_⟩
          · rw [getD_set_ne (by omega)]; exact gz j (by omega)
          · have hs := val_set (l := out') (j := (i + B.length).toNat) (x := c) (by omega)
            rw [gz _ (by omega), Nat.mul_zero, Nat.add_zero] at hs
            rw [hs, show (i + B.length).toNat = i.toNat + B.length by omega, Nat.pow_add]
            rw [show k.toNat = B.length by omega, List.take_length] at gv
            rw [gv, hv, show (i + 1).toNat = i.toNat + 1 by omega, val_take_getD]
            grind
          · show (A.length - (i + 1) : Int).toNat < (A.length - i : Int).toNat
            omega
    · intro hi
      refine call_step (c1 out hw (by omega)) rfl ?_
      refine ret_step ?_
      show [AV.one (nn (val out))] = _
      rw [hv, val_take_all (by omega)]

/-! ### Double, Half -/
def dbl_body : IR := match ir_penumbraref01_Double with
  | .prim _ _ (.ite _ (.loop _ b) _) => b
  | _ => .bad
theorem dbl_step {p vo va x c o : Nat} (h : vo + p * c = 2 * va + o) : vo + p * ((2 * x + c) % 4294967296) + p * 4294967296 * ((2 * x + c) / 4294967296) = 2 * (va + p * x) + o := by
  have h4 := Nat.mod_add_div (2 * x + c) 4294967296
  generalize (2 * x + c) % 4294967296 = r at *
  generalize (2 * x + c) / 4294967296 = q at *
  have h5 : p * (r + 4294967296 * q) = p * (2 * x + c) := by rw [h4]
  grind
theorem wr_dbl (c1 : CRNorm P) {a : List Nat} {o : Nat} (ha : WL a) (hla : a.length ≤ 4398046511103) (ho : o ≤ 1) {ρ : List DV} {inits : List Px.A} (hi : inits.map (Px.A.ev ρ) = [nl a, .int .u64 (o : Int), .int .i64 0, nl []]) :
    IRwp P [] ρ (.loop inits dbl_body) (· = [.one (nn (2 * val a + o))]) := by
  have hlen : inits.length = 4 := by have := congrArg List.length hi; simpa using this
  refine loop_step (fun ds => ∃ (i : Int) (c : Nat) (out : List Nat), ds = [nl a, .int .u64 (c : Int), .int .i64 i, nl out] ∧ 0 ≤ i ∧ i ≤ a.length ∧ c ≤ 1 ∧ WL out ∧ out.length = i.toNat ∧
    val out + 4294967296 ^ i.toNat * c = 2 * val (a.take i.toNat) + o) (numf (fun i => (a.length - i).toNat) 2) ?_ ?_ ?_
  · rw [hi]; exact ⟨0, o, [], rfl, by omega, by omega, ho, WL.nil, rfl, by simp [val]⟩
  · rintro ds ⟨i, c, out, rfl, _⟩; rw [hlen]; rfl
  · rintro ds ⟨i, c, out, rfl, h0, h1, hc, hw, hlo, hv⟩
    unfold dbl_body ir_penumbraref01_Double
    simp only
    simp (disch := omega) only [STP]
    refine ite_step rfl ?_ ?_
    · intro hi
      have hx := ha.getD i.toNat
      have e4 : Prim.den (.bin .add) [.int .u64 (2 * ((a.getD i.toNat 0 : Nat) : Int)), .int .u64 (c : Int)] = some (.int .u64 ((2 * a.getD i.toNat 0 + c : Nat) : Int)) := by
        rw [d_addu (by omega) (by omega)]; simp
      have e5 := d_quo32n (t := 2 * a.getD i.toNat 0 + c) (by omega)
      simp (disch := omega) only [STP, d_rem32, d_c32, e4, e5]
      refine jump_step rfl ⟨⟨_, _, _, rfl, by omega, by omega, by omega, hw.append (WL.single (Nat.mod_lt _ (by decide))), by simp [hlo]; omega, ?_⟩, ?_⟩
      · rw [show (i + 1).toNat = i.toNat + 1 by omega, val_take_getD, val_snoc, hlo, Nat.pow_succ]
        exact dbl_step hv
      · show (a.length - (i + 1) : Int).toNat < (a.length - i : Int).toNat
        omega
    · intro hi
      simp (disch := omega) only [STP]
      refine call_step (c1 (out ++ [c]) (hw.append (WL.single (by omega))) (by simp; omega)) rfl ?_
      refine ret_step ?_
      show [AV.one (nn (val (out ++ [c])))] = _
      rw [val_snoc, hlo, hv, val_take_all (by omega)]

def CRDouble (P : Program) : Prop := ∀ a, WL a → a.length ≤ 4398046511103 → PureCalls P F.penumbraref01_Double [.one (nl a), .one (.bool false)] [.one (nn (2 * val a))]
theorem wr_double (c1 : CRNorm P) {a : List Nat} (ha : WL a) (hla : a.length ≤ 4398046511103) : IRwp P [] [nl a, .bool false] ir_penumbraref01_Double (· = [.one (nn (2 * val a))]) := by
  unfold ir_penumbraref01_Double
  simp (disch := omega) only [STP]
  refine itb_step rfl ?_ ?_
  · intro h; cases h
  · intro _
    exact wr_dbl c1 (o := 0) ha hla (by omega) rfl

def CRHalf (P : Program) : Prop := ∀ a, WL a → a.length ≤ 4398046511103 → PureCalls P F.penumbraref01_Half [.one (nl a)] [.one (nn (val a / 2))]
theorem wr_half (c1 : CRNorm P) (c2 : CRLimb P) {a : List Nat} (ha : WL a) (hla : a.length ≤ 4398046511103) : IRwp P [] [nl a] ir_penumbraref01_Half (· = [.one (nn (val a / 2))]) := by
  unfold ir_penumbraref01_Half
  simp (disch := omega) only [STP]
  refine loop_step (fun ds => ∃ (i : Int) (out : List Nat), ds = [nl a, .int .i64 i, nl out] ∧ 0 ≤ i ∧ i ≤ a.length ∧ WL out ∧ out.length = i.toNat ∧ val out = (val a / 2) % 4294967296 ^ i.toNat) (numf (fun i => (a.length - i).toNat) 1) ?_ ?_ ?_
  · exact ⟨0, [], rfl, by omega, by omega, WL.nil, rfl, by simp [val, Nat.mod_one]⟩
  · rintro ds ⟨i, out, rfl, _⟩; rfl
  · rintro ds ⟨i, out, rfl, h0, h1, hw, hlo, hv⟩
    simp (disch := omega) only [STP]
    refine ite_step rfl ?_ ?_
    · intro hi
      have hx := ha.getD i.toNat
      have hh := ha.getD (i.toNat + 1)
      have g1 := val_getD_drop a i.toNat
      have g2 := val_getD_drop a (i.toNat + 1)
      rw [g2] at g1
      have key := shr_digit (V := val a) (p := 4294967296 ^ i.toNat) (n := 1) (m := 2) (by omega) rfl (Nat.pow_pos (by omega)) ((drop_val ha i.toNat).trans g1)
      have e6 : (i + 1).toNat = i.toNat + 1 := by omega
      have hl := c2 a (i + 1) ha (by omega)
      rw [e6] at hl
      simp (disch := omega) only [STP]
      refine call_step hl rfl ?_
      obtain ⟨t, ht⟩ : ∃ t : Nat, t = (a.getD (i.toNat + 1) 0 % 2 * 4294967296 + a.getD i.toNat 0) / 2 := ⟨_, rfl⟩
      have e7 : Prim.den (.bin .quo) [.int .u64 (((a.getD (i.toNat + 1) 0 : Nat) : Int) % 2 * 4294967296 + ((a.getD i.toNat 0 : Nat) : Int)), .int .u64 2] = some (.int .u64 (t : Int)) := by
        rw [d_quou (by omega) (by omega) (by omega)]; congr 2; omega
      have htB : t < 4294967296 := by omega
      simp (disch := omega) only [STP, d_remu, e7]
      refine jump_step rfl ⟨⟨_, _, rfl, by omega, by omega, hw.append (WL.single htB), by simp [hlo]; omega, ?_⟩, ?_⟩
      · rw [show (i + 1).toNat = i.toNat + 1 by omega, val_snoc, hlo, hv, Nat.mod_pow_succ, key, ht]
        congr 2
        omega
      · show (a.length - (i + 1) : Int).toNat < (a.length - i : Int).toNat
        omega
    · intro hi
      refine call_step (c1 out hw (by omega)) rfl ?_
      refine ret_step ?_
      show [AV.one (nn (val out))] = _
      rw [hv, Nat.mod_eq_of_lt]
      refine Nat.lt_of_le_of_lt (Nat.div_le_self _ _) ?_
      rw [show i.toNat = a.length by omega]
      exact val_lt ha

def CRAt (P : Program) : Prop := ∀ x p : Nat, x < 18446744073709551616 → p ≤ 4398046511103 → PureCalls P F.penumbraref01_at [.one (.int .u64 (x : Int)), .one (.int .i64 (p : Int))] [.one (nl (List.replicate p 0 ++ [x % 4294967296, x / 4294967296]))]
theorem wr_at {x p : Nat} (hx : x < 18446744073709551616) (hp : p ≤ 4398046511103) : IRwp P [] [.int .u64 (x : Int), .int .i64 (p : Int)] ir_penumbraref01_at (· = [.one (nl (List.replicate p 0 ++ [x % 4294967296, x / 4294967296]))]) := by
  unfold ir_penumbraref01_at
  have e3 : Prim.den (.conv .u32) [.int .u64 ((x / 4294967296 : Nat) : Int)] = some (.int .u32 ((x / 4294967296 : Nat) : Int)) := d_conv32' (by omega) (by omega)
  have e4 : Prim.den (.app 1 4) [nl (List.replicate p 0), nl [x % 4294967296, x / 4294967296]] = some (nl (List.replicate p 0 ++ [x % 4294967296, x / 4294967296])) := den_app (by simp; omega)
  have e5 := d_quo32n hx
  simp (disch := omega) only [STP, d_rem32, d_c32, e3, e4, e5]
  exact ret_step rfl
theorem val_at (x p : Nat) : val (List.replicate p 0 ++ [x % 4294967296, x / 4294967296]) = x * 4294967296 ^ p := by
  rw [val_append, val_rep, List.length_replicate]
  have : val [x % 4294967296, x / 4294967296] = x := by simp only [val]; omega
  rw [this, Nat.zero_add, Nat.mul_comm]

end Go.Px.Na
/- Wr3: the document's naturals: DivMod. -/
set_option maxRecDepth 10000
set_option linter.unusedSimpArgs false
set_option linter.unusedVariables false
namespace Go.Px.Na
open Go.RowKit
variable {P : Program}

def dval (d : DV) : Nat := match d with | .list _ cells => val (cells.map fun | .int _ n => n.toNat | _ => 0) | _ => 0
theorem dval_nl (l : List Nat) : dval (nl l) = val l := by
  simp only [dval, nl, ul, List.map_map]
  congr 1
  rw [show ((fun (x : DV) => match x with | .int _ n => n.toNat | _ => 0) ∘ fun (x : Nat) => DV.int .u32 (x : Int)) = id from by funext x; rfl]
  simp
def lval (i : Nat) (ds : List DV) : Nat := match ds[i]? with | some d => dval d | none => 0

theorem ev_in {ρ q : List DV} {k : Nat} (h : k < ρ.length) : A.ev (ρ ++ q) (.var k) = A.ev ρ (.var k) := by
  simp [A.ev, List.getD_eq_getElem?_getD, List.getElem?_append_left h]

theorem ev_at {ρ q : List DV} {k : Nat} (i : Nat) (h : ρ.length = k) : A.ev (ρ ++ q) (.var (k + i)) = q.getD i (.bool false) := by
  simp only [A.ev, List.getD_eq_getElem?_getD]
  rw [List.getElem?_append_right (by omega), show k + i - ρ.length = i by omega]
/-- What is taken away in one round. -/
def leafR (x y : Px.A) (k : Nat) : IR :=
  .call F.penumbraref01_at [.one x, .one y] [.one] <|
  .call F.penumbraref01_Add [.one (.var 3), .one (.var k)] [.one] <|
  .call F.penumbraref01_Mul [.one (.var k), .one (.var 0)] [.one] <|
  .call F.penumbraref01_Sub [.one (.var 1), .one (.var (k + 2))] [.one, .one] <|
  .jump 1 [.var 0, .var (k + 3), .var 2, .var (k + 1), .var 4, .var 5]

theorem w_leafR (c1 : CRAt P) (c2 : CRAdd P) (c3 : CRMul P) (c4 : CRSub P) {Q : List AV → Prop} {X Y : List DV → Prop} {BY L q : Nat} {d2 d4 d5 : DV} {r : List DV} {x y : Px.A} {k T p : Nat}
    (hk : r.length + 6 = k) (hx : x.ev (nn BY :: nn L :: d2 :: nn q :: d4 :: d5 :: r) = .int .u64 (T : Int)) (hy : y.ev (nn BY :: nn L :: d2 :: nn q :: d4 :: d5 :: r) = .int .i64 (p : Int))
    (hT : T < 18446744073709551616) (hp : p ≤ 4398000000000) (hb : (limbs BY).length ≤ 4398000000000) (hL : (limbs L).length ≤ 4398000000000) (hq : (limbs q).length ≤ 4398000000000) (hle : T * 4294967296 ^ p * BY ≤ L)
    (hY : Y [nn BY, nn (L - T * 4294967296 ^ p * BY), d2, nn (q + T * 4294967296 ^ p), d4, d5]) :
    IRwp P [X, Y] (nn BY :: nn L :: d2 :: nn q :: d4 :: d5 :: r) (leafR x y k) Q := by
  obtain ⟨ρ, hρ⟩ : ∃ ρ, ρ = nn BY :: nn L :: d2 :: nn q :: d4 :: d5 :: r := ⟨_, rfl⟩
  rw [← hρ] at hx hy ⊢
  have hlen : ρ.length = k := by rw [hρ, ← hk]; simp
  have e0 : A.ev ρ (.var 0) = nn BY := by rw [hρ]; rfl
  have e1 : A.ev ρ (.var 1) = nn L := by rw [hρ]; rfl
  have e2 : A.ev ρ (.var 2) = d2 := by rw [hρ]; rfl
  have e3 : A.ev ρ (.var 3) = nn q := by rw [hρ]; rfl
  have e4 : A.ev ρ (.var 4) = d4 := by rw [hρ]; rfl
  have e5 : A.ev ρ (.var 5) = d5 := by rw [hρ]; rfl
  have hk6 : 6 ≤ k := by omega
  unfold leafR
  have k1 := c1 T p hT (by omega)
  obtain ⟨s, hs⟩ : ∃ s, s = List.replicate p 0 ++ [T % 4294967296, T / 4294967296] := ⟨_, rfl⟩
  have ws : WL s := by rw [hs]; exact (WL.rep p).append (WL.cons (by omega) (WL.single (by omega)))
  have ls : s.length = p + 2 := by rw [hs]; simp
  have vs : val s = T * 4294967296 ^ p := by rw [hs]; exact val_at T p
  rw [← hs] at k1
  have g : ∀ (z : DV) (i : Nat) (r : List DV), i < ρ.length → A.ev ρ (.var i) = z → A.ev (ρ ++ r) (.var i) = z := fun z i r hi h => by rw [ev_in hi, h]
  have gk : ∀ (r : List DV), A.ev (ρ ++ r) (.var k) = r.getD 0 (.bool false) := fun r => ev_at 0 hlen
  refine call_step (res := [.one (nl s)]) (by simp only [List.map_cons, List.map_nil, Arg.ev, hx, hy]; exact k1) rfl ?_
  simp only [fa_one, fa_nil]
  have k2 := c2 (limbs q) s (WL_limbs q) ws (by omega) (by omega)
  rw [val_limbs, vs] at k2
  refine call_step (res := [.one (nn (q + T * 4294967296 ^ p))]) (by
    simp only [List.map_cons, List.map_nil, Arg.ev, gk, g _ 3 _ (by omega) e3]; exact k2) rfl ?_
  simp only [fa_one, fa_nil, List.append_assoc, List.cons_append, List.nil_append]
  have k3 := c3 s (limbs BY) ws (WL_limbs BY) (by omega) (by omega)
  rw [val_limbs, vs] at k3
  refine call_step (res := [.one (nn (T * 4294967296 ^ p * BY))]) (by
    simp only [List.map_cons, List.map_nil, Arg.ev, gk, g _ 0 _ (by omega) e0]; exact k3) rfl ?_
  simp only [fa_one, fa_nil, List.append_assoc, List.cons_append, List.nil_append]
  have lprod : (limbs (T * 4294967296 ^ p * BY)).length ≤ 4398000000000 := Nat.le_trans (limbs_len_mono hle) hL
  have k4 := c4 (limbs L) (limbs (T * 4294967296 ^ p * BY)) (WL_limbs _) (WL_limbs _) (by omega) (by omega)
  rw [val_limbs, val_limbs, if_neg (by omega)] at k4
  refine call_step (res := [.one (nn (L - T * 4294967296 ^ p * BY)), .one (.bool true)]) (by
    simp only [List.map_cons, List.map_nil, Arg.ev, ev_at 2 hlen, g _ 1 _ (by omega) e1]; exact k4) rfl ?_
  simp only [fa_one, fa_nil, List.append_assoc, List.cons_append, List.nil_append]
  refine jump_step rfl ?_
  simp only [List.map_cons, List.map_nil, ev_at 3 hlen, ev_at 1 hlen, g _ 0 _ (by omega) e0, g _ 2 _ (by omega) e2, g _ 4 _ (by omega) e4, g _ 5 _ (by omega) e5]
  exact hY

/-- The highest limbs of a number. -/
theorem top_le {L : Nat} (h : L ≠ 0) : (limbs L).getD ((limbs L).length - 1) 0 * 4294967296 ^ ((limbs L).length - 1) ≤ L := by
  have h1 := drop_val (WL_limbs L) ((limbs L).length - 1)
  rw [val_limbs, val_getD_drop] at h1
  have h2 := Nat.div_mul_le_self L (4294967296 ^ ((limbs L).length - 1))
  rw [h1] at h2
  refine Nat.le_trans (Nat.mul_le_mul_right _ ?_) h2
  omega
theorem top2_le {L : Nat} (h : 2 ≤ (limbs L).length) : ((limbs L).getD ((limbs L).length - 1) 0 * 4294967296 + (limbs L).getD ((limbs L).length - 2) 0) * 4294967296 ^ ((limbs L).length - 2) ≤ L := by
  have h1 := drop_val (WL_limbs L) ((limbs L).length - 2)
  rw [val_limbs, val_getD_drop, show (limbs L).length - 2 + 1 = (limbs L).length - 1 by omega, val_getD_drop] at h1
  have h2 := Nat.div_mul_le_self L (4294967296 ^ ((limbs L).length - 2))
  rw [h1] at h2
  refine Nat.le_trans (Nat.mul_le_mul_right _ ?_) h2
  omega
theorem lt_top {B : Nat} (h : B ≠ 0) : B < ((limbs B).getD ((limbs B).length - 1) 0 + 1) * 4294967296 ^ ((limbs B).length - 1) := by
  have h1 := drop_val (WL_limbs B) ((limbs B).length - 1)
  have h0 := limbs_len_pos h
  have h3 : val ((limbs B).drop ((limbs B).length - 1 + 1)) = 0 := by rw [List.drop_eq_nil_of_le (by omega)]; rfl
  rw [val_limbs, val_getD_drop, h3] at h1
  have := (Nat.div_lt_iff_lt_mul (k := 4294967296 ^ ((limbs B).length - 1)) (x := B) (y := (limbs B).getD ((limbs B).length - 1) 0 + 1) (Nat.pow_pos (by omega))).1 (by omega)
  exact this

def WH (a : List Nat) : Prop := WL a ∧ a.length ≤ 2600000100000
def CRDivMod (P : Program) : Prop := ∀ a b, WH a → WH b → PureCalls P F.penumbraref01_DivMod [.one (nl a), .one (nl b)] (divRes (val a) (val b))

theorem wr_divmod (c0 : CRZero P) (c1 : CRNorm P) (c2 : CRDouble P) (c3 : CRHalf P) (c4 : CRCmp P) (ca : CRAt P) (cad : CRAdd P) (cm : CRMul P) (cs : CRSub P) {a b : List Nat} (ha : WH a) (hb : WH b) :
    IRwp P [] [nl a, nl b] ir_penumbraref01_DivMod (· = divRes (val a) (val b)) := by
  obtain ⟨ha, hla⟩ := ha
  obtain ⟨hb, hlb⟩ := hb
  unfold ir_penumbraref01_DivMod
  refine call_step (c0 b hb (by omega)) rfl ?_
  refine ite_step rfl ?_ ?_
  · intro h
    unfold divRes; rw [if_pos h]
    exact ret_step rfl
  · intro hb0
    have hr : divRes (val a) (val b) = [.one (nn (val a / val b)), .one (nn (val a % val b)), .one (.bool true)] := by unfold divRes; rw [if_neg hb0]
    rw [hr]
    refine call_step (c1 b hb (by omega)) rfl ?_
    refine call_step (c1 a ha (by omega)) rfl ?_
    have l1 := limbs_len_le ha
    have l2 := limbs_len_le hb
    generalize val a = M at *
    generalize val b = N at *
    obtain ⟨n, hn⟩ : ∃ n, n = (limbs N).length := ⟨_, rfl⟩
    have hn0 : 0 < n := by rw [hn]; exact limbs_len_pos hb0
    have hNge := limbs_ge_pow hb0
    rw [← hn] at hNge l2
    -- how often it is doubled
    have ht32 : ∀ t, N * 2 ^ t < 4294967296 ^ n → t < 32 := by
      intro t ht
      rcases Nat.lt_or_ge t 32 with h | h
      · exact h
      · exfalso
        have h1 := Nat.pow_le_pow_right (n := 2) (by omega) h
        have h2 := Nat.mul_le_mul hNge h1
        rw [show (2 : Nat) ^ 32 = 4294967296 from rfl, ← Nat.pow_succ, show (n - 1).succ = n by omega] at h2
        omega
    refine loop_step (fun ds => ∃ t : Nat, ds = [nn (N * 2 ^ t), nn (M * 2 ^ t), .int .i64 (t : Int)] ∧ N * 2 ^ t < 4294967296 ^ n) (numf (fun t => (32 - t).toNat) 2) ?_ ?_ ?_
    · refine ⟨0, by simp [A.ev, flatAll, AV.flat], ?_⟩
      rw [hn]; simpa using limbs_lt_pow N
    · rintro ds ⟨t, rfl, _⟩; rfl
    · rintro ds ⟨t, rfl, hlt⟩
      have ht := ht32 t hlt
      have h2t : 0 < 2 ^ t := Nat.two_pow_pos t
      have hBge : 4294967296 ^ (n - 1) ≤ N * 2 ^ t := Nat.le_trans hNge (Nat.le_mul_of_pos_right _ h2t)
      have hlenB : (limbs (N * 2 ^ t)).length = n := by
        have h1 := limbs_len hlt
        rcases Nat.lt_or_ge (limbs (N * 2 ^ t)).length n with h | h
        · exfalso
          have h2 := limbs_lt_pow (N * 2 ^ t)
          have h3 := Nat.pow_le_pow_right (n := 4294967296) (by omega) (show (limbs (N * 2 ^ t)).length ≤ n - 1 by omega)
          omega
        · omega
      have h2B : 2 ^ t ≤ 4294967296 := Nat.le_of_lt (Nat.pow_lt_pow_right (a := 2) (m := t) (n := 32) (by omega) ht)
      have hlenA : (limbs (M * 2 ^ t)).length ≤ 2600000100001 := by
        have : (limbs (M * 2 ^ t)).length ≤ (limbs M).length + 1 := limbs_len (Nat.lt_of_lt_of_le (Nat.mul_lt_mul_of_pos_right (limbs_lt_pow M) h2t) (by rw [Nat.pow_succ]; exact Nat.mul_le_mul_left _ h2B))
        omega
      have hB0 : N * 2 ^ t ≠ 0 := by have := Nat.pow_pos (n := n - 1) (show 0 < 4294967296 by omega); omega
      have e1 : (((limbs (N * 2 ^ t)).length : Int) - 1).toNat = n - 1 := by omega
      have htop := (WL_limbs (N * 2 ^ t)).getD (n - 1)
      have hlttop := lt_top hB0
      rw [hlenB] at hlttop
      simp only [nn]
      simp (disch := omega) only [STP, e1]
      refine ite_step rfl ?_ ?_
      · intro hsmall
        have k1 := c2 (limbs (N * 2 ^ t)) (WL_limbs _) (by omega)
        have k2 := c2 (limbs (M * 2 ^ t)) (WL_limbs _) (by omega)
        rw [val_limbs] at k1 k2
        refine call_step k1 rfl ?_
        refine call_step k2 rfl ?_
        simp (disch := omega) only [STP]
        refine jump_step rfl ⟨⟨t + 1, ?_, ?_⟩, ?_⟩
        · simp only [List.map_cons, List.map_nil, A.ev, List.getD_cons_zero, List.getD_cons_succ, Nat.pow_succ]
          rw [show 2 * (N * 2 ^ t) = N * (2 ^ t * 2) by grind, show 2 * (M * 2 ^ t) = M * (2 ^ t * 2) by grind]
          rfl
        · have : N * 2 ^ (t + 1) = 2 * (N * 2 ^ t) := by rw [Nat.pow_succ]; grind
          rw [this]
          have h5 : 2 * (((limbs (N * 2 ^ t)).getD (n - 1) 0 + 1) * 4294967296 ^ (n - 1)) ≤ 4294967296 * 4294967296 ^ (n - 1) := by
            rw [← Nat.mul_assoc]; exact Nat.mul_le_mul_right _ (by omega)
          rw [Nat.mul_comm 4294967296, ← Nat.pow_succ, show (n - 1).succ = n by omega] at h5
          omega
        · show (32 - ((t : Int) + 1)).toNat < (32 - (t : Int)).toNat
          omega
      · intro hbig
        simp (disch := omega) only [STP, e1]
        obtain ⟨B, hBe⟩ : ∃ B, B = N * 2 ^ t := ⟨_, rfl⟩
        obtain ⟨A0, hAe⟩ : ∃ A0, A0 = M * 2 ^ t := ⟨_, rfl⟩
        rw [← hBe] at hlt hBge hlenB hB0 htop hlttop hbig ⊢
        rw [← hAe] at hlenA ⊢
        simp only [hlenB]
        obtain ⟨tp, htp⟩ : ∃ tp, tp = (limbs B).getD (n - 1) 0 := ⟨_, rfl⟩
        rw [← htp] at htop hlttop hbig ⊢
        have etp : (tp : Int) + 1 = ((tp + 1 : Nat) : Int) := by omega
        simp only [etp]
        have hBpos : 0 < B := by omega
        refine loop_step (fun ds => ∃ q L : Nat, ds = [nn B, nn L, .int .i64 (t : Int), nn q, .int .i64 (n : Int), .int .u64 ((tp + 1 : Nat) : Int)] ∧ A0 = q * B + L) (lval 1) ?_ ?_ ?_
        · exact ⟨0, A0, by simp [A.ev, nn, limbs_zero], by simp⟩
        · rintro ds ⟨q, L, rfl, _⟩; rfl
        · rintro ds ⟨q, L, rfl, hqL⟩
          have hLle : L ≤ A0 := by omega
          have hlL := limbs_len_mono hLle
          have hqle : q ≤ A0 := by
            have : q * 1 ≤ q * B := Nat.mul_le_mul_left _ hBpos
            omega
          have hlq := limbs_len_mono hqle
          have kc := c4 (limbs L) (limbs B) (WL_limbs _) (WL_limbs _) (by omega) (by omega)
          rw [val_limbs, val_limbs] at kc
          refine call_step kc rfl ?_
          simp (disch := omega) only [STP]
          refine ite_step rfl ?_ ?_
          · intro hge
            have hBL : B ≤ L := by unfold cmpI at hge; split at hge <;> omega
            have hL0 : L ≠ 0 := by omega
            have hmn := limbs_len_mono hBL
            rw [hlenB] at hmn
            have hLge := limbs_ge_pow hL0
            have htL := top_le hL0
            obtain ⟨m, hm⟩ : ∃ m, m = (limbs L).length := ⟨_, rfl⟩
            rw [← hm] at hmn hLge htL hlL
            have hL1 := (WL_limbs L).getD (m - 1)
            have hL2 := (WL_limbs L).getD (m - 2)
            -- a round
            have fin : ∀ T p : Nat, T * 4294967296 ^ p * B ≤ L → 0 < T → (∃ q' L', [nn B, nn (L - T * 4294967296 ^ p * B), DV.int .i64 (t : Int), nn (q + T * 4294967296 ^ p), .int .i64 (n : Int), .int .u64 ((tp + 1 : Nat) : Int)] = [nn B, nn L', .int .i64 (t : Int), nn q', .int .i64 (n : Int), .int .u64 ((tp + 1 : Nat) : Int)] ∧ A0 = q' * B + L') ∧
                lval 1 [nn B, nn (L - T * 4294967296 ^ p * B), DV.int .i64 (t : Int), nn (q + T * 4294967296 ^ p), .int .i64 (n : Int), .int .u64 ((tp + 1 : Nat) : Int)] < lval 1 [nn B, nn L, .int .i64 (t : Int), nn q, .int .i64 (n : Int), .int .u64 ((tp + 1 : Nat) : Int)] := by
              intro T p hle hT
              refine ⟨⟨_, _, rfl, ?_⟩, ?_⟩
              · rw [hqL, Nat.add_mul]; omega
              · show dval (nn _) < dval (nn L)
                unfold nn
                rw [dval_nl, dval_nl, val_limbs, val_limbs]
                have : 0 < T * 4294967296 ^ p * B := Nat.mul_pos (Nat.mul_pos hT (Nat.pow_pos (by omega))) hBpos
                omega
            have e2 : (((limbs L).length : Int) - 1).toNat = m - 1 := by omega
            have e3 : (((limbs L).length : Int) - 2).toNat = m - 2 := by omega
            obtain ⟨T1, hT1⟩ : ∃ T1, T1 = (limbs L).getD (m - 1) 0 / (tp + 1) := ⟨_, rfl⟩
            have hT1lt : T1 < 4294967296 := by rw [hT1]; exact Nat.lt_of_le_of_lt (Nat.div_le_self _ _) hL1
            have eq1 : Prim.den (.bin .quo) [.int .u64 (((limbs L).getD (m - 1) 0 : Nat) : Int), .int .u64 ((tp + 1 : Nat) : Int)] = some (.int .u64 (T1 : Int)) := by
              rw [d_quou (by omega) (by omega) (by omega), hT1]; simp
            -- the first guess
            have hle1 : T1 * 4294967296 ^ (m - n) * B ≤ L := by
              have h6 : T1 * (tp + 1) ≤ (limbs L).getD (m - 1) 0 := by rw [hT1]; exact Nat.div_mul_le_self _ _
              have h7 : T1 * 4294967296 ^ (m - n) * B ≤ T1 * 4294967296 ^ (m - n) * ((tp + 1) * 4294967296 ^ (n - 1)) := Nat.mul_le_mul_left _ (Nat.le_of_lt hlttop)
              have h8 : T1 * 4294967296 ^ (m - n) * ((tp + 1) * 4294967296 ^ (n - 1)) = T1 * (tp + 1) * 4294967296 ^ (m - 1) := by
                rw [show m - 1 = (m - n) + (n - 1) by omega, Nat.pow_add]; grind
              have h9 := Nat.mul_le_mul_right (4294967296 ^ (m - 1)) h6
              omega
            obtain ⟨T2, hT2⟩ : ∃ T2, T2 = ((limbs L).getD (m - 1) 0 * 4294967296 + (limbs L).getD (m - 2) 0) / (tp + 1) := ⟨_, rfl⟩
            have hT2lt : T2 < 18446744073709551616 := by rw [hT2]; exact Nat.lt_of_le_of_lt (Nat.div_le_self _ _) (by omega)
            have eq2 : Prim.den (.bin .quo) [.int .u64 (((limbs L).getD (m - 1) 0 : Nat) * 4294967296 + ((limbs L).getD (m - 2) 0 : Nat)), .int .u64 ((tp + 1 : Nat) : Int)] = some (.int .u64 (T2 : Int)) := by
              rw [d_quou (by omega) (by omega) (by omega), hT2]; simp
            have hle2 : n < m → T2 * 4294967296 ^ (m - n - 1) * B ≤ L := by
              intro hnm
              have hth := top2_le (L := L) (by omega)
              rw [← hm] at hth
              have h6 : T2 * (tp + 1) ≤ (limbs L).getD (m - 1) 0 * 4294967296 + (limbs L).getD (m - 2) 0 := by rw [hT2]; exact Nat.div_mul_le_self _ _
              have h7 : T2 * 4294967296 ^ (m - n - 1) * B ≤ T2 * 4294967296 ^ (m - n - 1) * ((tp + 1) * 4294967296 ^ (n - 1)) := Nat.mul_le_mul_left _ (Nat.le_of_lt hlttop)
              have h8 : T2 * 4294967296 ^ (m - n - 1) * ((tp + 1) * 4294967296 ^ (n - 1)) = T2 * (tp + 1) * 4294967296 ^ (m - 2) := by
                rw [show m - 2 = (m - n - 1) + (n - 1) by omega, Nat.pow_add]; grind
              have h9 := Nat.mul_le_mul_right (4294967296 ^ (m - 2)) h6
              omega
            have hle3 : n < m → 1 * 4294967296 ^ (m - n - 1) * B ≤ L := by
              intro hnm
              have h6 : 4294967296 ^ (m - n - 1) * B ≤ 4294967296 ^ (m - n - 1) * 4294967296 ^ n := Nat.mul_le_mul_left _ (Nat.le_of_lt hlt)
              rw [← Nat.pow_add, show m - n - 1 + n = m - 1 by omega] at h6
              rw [Nat.one_mul]; omega
            have emn : ((m : Int) - (n : Int)) = ((m - n : Nat) : Int) := by omega
            have eml : ((limbs L).length : Int) = (m : Int) := by omega
            simp only [nn]
            simp (disch := omega) only [STP, e2, eq1]
            refine ite_step rfl ?_ ?_
            · intro hz1
              simp (disch := omega) only [STP]
              refine ite_step rfl ?_ ?_
              · intro hnm
                simp (disch := omega) only [STP, e2, e3, eq2]
                refine ite_step rfl ?_ ?_
                · intro hz2
                  exact w_leafR ca cad cm cs (x := .int .u64 1) (y := .var 28) (k := 30) (T := 1) (p := m - n - 1) rfl rfl (by show DV.int .i64 _ = _; congr 1; omega) (by omega) (by omega) (by omega) (by omega) (by omega) (hle3 (by omega)) (fin _ _ (hle3 (by omega)) (by omega))
                · intro hz2
                  exact w_leafR ca cad cm cs (x := .var 27) (y := .var 28) (k := 30) (T := T2) (p := m - n - 1) rfl rfl (by show DV.int .i64 _ = _; congr 1; omega) hT2lt (by omega) (by omega) (by omega) (by omega) (hle2 (by omega)) (fin _ _ (hle2 (by omega)) (by omega))
              · intro hnm
                simp (disch := omega) only [STP]
                refine ite_step rfl ?_ ?_
                · intro hz2
                  have h1 : 1 * 4294967296 ^ (m - n) * B ≤ L := by rw [show m - n = 0 by omega]; simpa using hBL
                  exact w_leafR ca cad cm cs (x := .int .u64 1) (y := .var 9) (k := 18) (T := 1) (p := m - n) rfl rfl (by show DV.int .i64 _ = _; congr 1; omega) (by omega) (by omega) (by omega) (by omega) (by omega) h1 (fin _ _ h1 (by omega))
                · intro hz2; exfalso; omega
            · intro hz1
              simp (disch := omega) only [STP]
              refine ite_step rfl ?_ ?_
              · intro hz2; exfalso; omega
              · intro hz2
                exact w_leafR ca cad cm cs (x := .var 14) (y := .var 9) (k := 17) (T := T1) (p := m - n) rfl rfl (by show DV.int .i64 _ = _; congr 1; omega) (by omega) (by omega) (by omega) (by omega) (by omega) hle1 (fin _ _ hle1 (by omega))
          · intro hge
            have hBL : L < B := by unfold cmpI at hge; split at hge <;> first | assumption | (split at hge <;> omega)
            refine loop_step (fun ds => ∃ i : Nat, ds = [nn (L / 2 ^ i), .int .i64 (t : Int), nn q, .int .i64 (i : Int)] ∧ i ≤ t) (numf (fun i => (t - i).toNat) 3) ?_ ?_ ?_
            · exact ⟨0, by simp [A.ev], by omega⟩
            · rintro ds ⟨i, rfl, _⟩; rfl
            · rintro ds ⟨i, rfl, hi⟩
              simp (disch := omega) only [STP]
              refine ite_step rfl ?_ ?_
              · intro hit
                have hlen2 : (limbs (L / 2 ^ i)).length ≤ (limbs L).length := limbs_len_mono (Nat.div_le_self _ _)
                have kh := c3 (limbs (L / 2 ^ i)) (WL_limbs _) (by omega)
                rw [val_limbs] at kh
                refine call_step kh rfl ?_
                simp (disch := omega) only [STP]
                refine jump_step rfl ⟨⟨i + 1, ?_, by omega⟩, ?_⟩
                · simp only [List.map_cons, List.map_nil, A.ev, List.getD_cons_zero, List.getD_cons_succ, Nat.pow_succ]
                  rw [Nat.div_div_eq_div_mul]; rfl
                · show ((t : Int) - ((i : Int) + 1)).toNat < ((t : Int) - (i : Int)).toNat
                  omega
              · intro hit
                have hie : i = t := by omega
                subst hie
                refine ret_step ?_
                show [AV.one (nn q), AV.one (nn (L / 2 ^ i)), AV.one (.bool true)] = _
                have hq : q = M / N := by
                  have h1 : A0 / B = M / N := by rw [hAe, hBe, Nat.mul_div_mul_right _ _ h2t]
                  rw [← h1, hqL, Nat.mul_comm q, Nat.mul_add_div hBpos, Nat.div_eq_of_lt hBL, Nat.add_zero]
                have hr2 : L = (M % N) * 2 ^ i := by
                  have h1 : A0 % B = (M % N) * 2 ^ i := by rw [hAe, hBe, Nat.mul_mod_mul_right]
                  rw [← h1, hqL, Nat.mul_comm q, Nat.mul_add_mod, Nat.mod_eq_of_lt hBL]
                rw [hq, hr2, Nat.mul_div_cancel _ h2t]; rfl

end Go.Px.Na

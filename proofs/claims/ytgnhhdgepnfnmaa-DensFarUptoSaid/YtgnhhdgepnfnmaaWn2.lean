/- Wn2: naturals: Cmp, Add, Sub. -/
import Derived.Test.YtgnhhdgepnfnmaaWn1
set_option linter.unusedSimpArgs false
set_option linter.unusedVariables false
namespace Go.Px.Na
open Go.RowKit
variable {P : Program}

def cmpI (m n : Nat) : Int := if m < n then -1 else if n < m then 1 else 0
/-- A number of a tree's variables, turned. -/
def numf (f : Int → Nat) (i : Nat) (ds : List DV) : Nat := match ds[i]? with | some (.int _ n) => f n | _ => 0

theorem len_lt {m n : Nat} (h : (limbs m).length < (limbs n).length) : m < n := by
  rcases Nat.lt_or_ge m n with h1 | h1
  · exact h1
  · have := limbs_len_mono h1; omega
theorem val_eq_of_drop {a b : List Nat} {i : Nat} (ha : WL a) (hl : a.length = b.length) (hi : i ≤ a.length) (h : val (a.drop i) < val (b.drop i)) : val a < val b := by
  rw [val_take_drop a i, val_take_drop b i]
  have h1 := val_lt (ha.take i)
  simp only [List.length_take, Nat.min_eq_left hi, Nat.min_eq_left (hl ▸ hi)] at h1 ⊢
  have h2 : 4294967296 ^ i * (val (a.drop i) + 1) ≤ 4294967296 ^ i * val (b.drop i) := Nat.mul_le_mul_left _ h
  rw [Nat.mul_add] at h2
  omega

def CCmp (P : Program) : Prop := ∀ a b, WF a → WF b → PureCalls P F.nat_Cmp [.one (nl a), .one (nl b)] [.one (.int .i64 (cmpI (val a) (val b)))]
theorem w_cmp (c1 : CTrim P) {a b : List Nat} (ha : WF a) (hb : WF b) : IRwp P [] [nl a, nl b] ir_nat_Cmp (· = [.one (.int .i64 (cmpI (val a) (val b)))]) := by
  obtain ⟨ha, hla⟩ := ha
  obtain ⟨hb, hlb⟩ := hb
  unfold ir_nat_Cmp
  refine call_step (c1 a ha (by omega)) rfl ?_
  refine call_step (c1 b hb (by omega)) rfl ?_
  have l1 := limbs_len_le ha
  have l2 := limbs_len_le hb
  simp only [nn]
  generalize val a = m at l1 ⊢
  generalize val b = n at l2 ⊢
  simp (disch := omega) only [STEP, Px.A.ev, List.map_cons, List.map_nil, List.getD_cons_zero, List.getD_cons_succ, List.cons_append, List.nil_append, List.append_nil, Option.isSome_some, Option.getD_some, true_and, Int.sub_zero, Int.toNat_zero, List.drop_zero, Int.toNat_natCast]
  refine ite_step rfl ?_ ?_
  · intro h
    simp (disch := omega) only [STEP, Px.A.ev, List.map_cons, List.map_nil, List.getD_cons_zero, List.getD_cons_succ, List.cons_append, List.nil_append, List.append_nil, Option.isSome_some, Option.getD_some, true_and, Int.sub_zero, Int.toNat_zero, List.drop_zero, Int.toNat_natCast]
    refine ite_step rfl ?_ ?_
    · intro h
      have : m < n := len_lt (by omega)
      exact ret_step (by simp [cmpI, this, Arg.ev, A.ev])
    · intro h
      have : n < m := len_lt (by omega)
      exact ret_step (by simp [cmpI, this, Nat.lt_asymm this, Arg.ev, A.ev])
  · intro h
    simp (disch := omega) only [STEP, Px.A.ev, List.map_cons, List.map_nil, List.getD_cons_zero, List.getD_cons_succ, List.cons_append, List.nil_append, List.append_nil, Option.isSome_some, Option.getD_some, true_and, Int.sub_zero, Int.toNat_zero, List.drop_zero, Int.toNat_natCast]
    refine loop_step (fun ds => ∃ i : Int, ds = [nl (limbs m), nl (limbs n), .int .i64 i] ∧ -1 ≤ i ∧ i < (limbs m).length ∧ val ((limbs m).drop (i + 1).toNat) = val ((limbs n).drop (i + 1).toNat)) (numf (fun i => (i + 1).toNat) 2) ?_ ?_ ?_
    · refine ⟨_, rfl, by omega, by omega, ?_⟩
      rw [List.drop_eq_nil_of_le (by omega), List.drop_eq_nil_of_le (by omega)]
    · rintro ds ⟨i, rfl, _⟩; rfl
    · rintro ds ⟨i, rfl, h0, h1, hv⟩
      simp (disch := omega) only [STEP, Px.A.ev, List.map_cons, List.map_nil, List.getD_cons_zero, List.getD_cons_succ, List.cons_append, List.nil_append, List.append_nil, Option.isSome_some, Option.getD_some, true_and, Int.sub_zero, Int.toNat_zero, List.drop_zero, Int.toNat_natCast]
      refine ite_step rfl ?_ ?_
      · intro hi
        have e : (i + 1).toNat = i.toNat + 1 := by omega
        rw [e] at hv
        have g1 := val_getD_drop (limbs m) i.toNat
        have g2 := val_getD_drop (limbs n) i.toNat
        simp (disch := omega) only [STEP, Px.A.ev, List.map_cons, List.map_nil, List.getD_cons_zero, List.getD_cons_succ, List.cons_append, List.nil_append, List.append_nil, Option.isSome_some, Option.getD_some, true_and, Int.sub_zero, Int.toNat_zero, List.drop_zero, Int.toNat_natCast]
        refine ite_step rfl ?_ ?_
        · intro hx
          have : m < n := by
            have := val_eq_of_drop (a := limbs m) (b := limbs n) (i := i.toNat) (WL_limbs m) (by omega) (by omega) (by omega)
            simpa [val_limbs] using this
          exact ret_step (by simp [cmpI, this, Arg.ev, A.ev])
        · intro hx
          simp (disch := omega) only [STEP, Px.A.ev, List.map_cons, List.map_nil, List.getD_cons_zero, List.getD_cons_succ, List.cons_append, List.nil_append, List.append_nil, Option.isSome_some, Option.getD_some, true_and, Int.sub_zero, Int.toNat_zero, List.drop_zero, Int.toNat_natCast]
          refine ite_step rfl ?_ ?_
          · intro hx
            have : n < m := by
              have := val_eq_of_drop (a := limbs n) (b := limbs m) (i := i.toNat) (WL_limbs n) (by omega) (by omega) (by omega)
              simpa [val_limbs] using this
            exact ret_step (by simp [cmpI, this, Nat.lt_asymm this, Arg.ev, A.ev])
          · intro hx
            simp (disch := omega) only [STEP, Px.A.ev, List.map_cons, List.map_nil, List.getD_cons_zero, List.getD_cons_succ, List.cons_append, List.nil_append, List.append_nil, Option.isSome_some, Option.getD_some, true_and, Int.sub_zero, Int.toNat_zero, List.drop_zero, Int.toNat_natCast]
            refine jump_step rfl ⟨⟨_, rfl, by omega, by omega, ?_⟩, ?_⟩
            · rw [show (i - 1 + 1).toNat = i.toNat by omega]; omega
            · show (i - 1 + 1).toNat < (i + 1).toNat; omega
      · intro hi
        have e : (i + 1).toNat = 0 := by omega
        rw [e] at hv
        simp only [List.drop_zero, val_limbs] at hv
        subst hv
        exact ret_step (by simp [cmpI, Arg.ev, A.ev])

def CAdd32 (P : Program) : Prop := ∀ x y c : Nat, x < 4294967296 → y < 4294967296 → c ≤ 1 → PureCalls P F.math_bits_Add32 [.one (.int .u32 (x : Int)), .one (.int .u32 (y : Int)), .one (.int .u32 (c : Int))]
  [.one (.int .u32 (((x + y + c) % 4294967296 : Nat) : Int)), .one (.int .u32 (((x + y + c) / 4294967296 : Nat) : Int))]
theorem w_add32 {x y c : Nat} (hx : x < 4294967296) (hy : y < 4294967296) (hc : c ≤ 1) : IRwp P [] [.int .u32 (x : Int), .int .u32 (y : Int), .int .u32 (c : Int)] ir_math_bits_Add32
    (· = [.one (.int .u32 (((x + y + c) % 4294967296 : Nat) : Int)), .one (.int .u32 (((x + y + c) / 4294967296 : Nat) : Int))]) := by
  unfold ir_math_bits_Add32
  have e1 : Prim.den (.conv .u32) [.int .u64 ((x : Int) + y + c)] = some (.int .u32 (((x + y + c) % 4294967296 : Nat) : Int)) := by rw [d_conv32]; rfl
  have e2 : Prim.den (.bin .shr) [.int .u64 ((x : Int) + y + c), .int .u64 32] = some (.int .u64 (((x + y + c) / 4294967296 : Nat) : Int)) := by rw [d_shr32 rfl]; rfl
  have e3 : Prim.den (.conv .u32) [.int .u64 (((x + y + c) / 4294967296 : Nat) : Int)] = some (.int .u32 (((x + y + c) / 4294967296 : Nat) : Int)) := d_conv32' (by omega) (by omega)
  simp (disch := omega) only [STEP, Px.A.ev, List.map_cons, List.map_nil, List.getD_cons_zero, List.getD_cons_succ, List.cons_append, List.nil_append, List.append_nil, Option.isSome_some, Option.getD_some, true_and, Int.sub_zero, Int.toNat_zero, List.drop_zero, Int.toNat_natCast, e1, e2, e3]
  exact ret_step rfl

theorem carry_step {p vo va vb x y c : Nat} (h : vo + p * c = va + vb) : (vo + p * ((x + y + c) % 4294967296)) + p * 4294967296 * ((x + y + c) / 4294967296) = (va + p * x) + (vb + p * y) := by
  have h2 := Nat.mod_add_div (x + y + c) 4294967296
  generalize (x + y + c) % 4294967296 = r at h2 ⊢
  generalize (x + y + c) / 4294967296 = q at h2 ⊢
  have : p * (r + 4294967296 * q) = p * (x + y + c) := by rw [h2]
  grind

def add_body : IR := match ir_nat_Add with
  | .call _ _ _ (.call _ _ _ (.prim _ _ (.prim _ _ (.prim _ _ (.ite _ (.prim _ _ (.prim _ _ (.prim _ _ (.prim _ _ (.loop _ b))))) _))))) => b
  | _ => .bad

def CAdd (P : Program) : Prop := ∀ a b, WF a → WF b → PureCalls P F.nat_Add [.one (nl a), .one (nl b)] [.one (nn (val a + val b))]
theorem w_add_loop (c1 : CTrim P) (c2 : CAdd32 P) {A B : List Nat} (ha : WL A) (hb : WL B) (hla : A.length ≤ 4398000000000) (hlb : B.length ≤ A.length) {ρ : List DV} {inits : List Px.A}
    (hi : inits.map (Px.A.ev ρ) = [nl B, .int .u32 0, nl A, .int .i64 A.length, .int .i64 0, nl []]) : IRwp P [] ρ (.loop inits add_body) (· = [.one (nn (val A + val B))]) := by
  have hlen : inits.length = 6 := by have := congrArg List.length hi; simpa using this
  refine loop_step (fun ds => ∃ (i : Int) (c : Nat) (out : List Nat), ds = [nl B, .int .u32 c, nl A, .int .i64 A.length, .int .i64 i, nl out] ∧ 0 ≤ i ∧ i ≤ A.length ∧ c ≤ 1 ∧ WL out ∧ out.length = i.toNat ∧
    val out + 4294967296 ^ i.toNat * c = val (A.take i.toNat) + val (B.take i.toNat)) (numf (fun i => (A.length - i).toNat) 4) ?_ ?_ ?_
  · rw [hi]; exact ⟨0, 0, [], rfl, by omega, by omega, by omega, WL.nil, rfl, by simp [val]⟩
  · rintro ds ⟨i, c, out, rfl, _⟩; rw [hlen]; rfl
  · rintro ds ⟨i, c, out, rfl, h0, h1, hc, hw, hlo, hv⟩
    unfold add_body ir_nat_Add
    simp only
    simp (disch := omega) only [STEP, Px.A.ev, List.map_cons, List.map_nil, List.getD_cons_zero, List.getD_cons_succ, List.cons_append, List.nil_append, List.append_nil, Option.isSome_some, Option.getD_some, true_and, Int.sub_zero, Int.toNat_zero, List.drop_zero, Int.toNat_natCast]
    refine ite_step rfl ?_ ?_
    · intro hi
      have step : ∀ y : Nat, y = B.getD i.toNat 0 → (∃ (i' : Int) (c' : Nat) (out' : List Nat), [nl B, DV.int .u32 (((A.getD i.toNat 0 + y + c) / 4294967296 : Nat) : Int), nl A, .int .i64 A.length, .int .i64 (i + 1), nl (out ++ [(A.getD i.toNat 0 + y + c) % 4294967296])] = [nl B, .int .u32 c', nl A, .int .i64 A.length, .int .i64 i', nl out'] ∧ 0 ≤ i' ∧ i' ≤ A.length ∧ c' ≤ 1 ∧ WL out' ∧ out'.length = i'.toNat ∧
          val out' + 4294967296 ^ i'.toNat * c' = val (A.take i'.toNat) + val (B.take i'.toNat)) ∧ (A.length - (i + 1)).toNat < (A.length - i).toNat := by
        intro y hy
        have g1 := ha.getD i.toNat
        have g2 := hb.getD i.toNat
        refine ⟨⟨_, _, _, rfl, by omega, by omega, by omega, hw.append (WL.single (by omega)), by simp [hlo]; omega, ?_⟩, by omega⟩
        rw [show (i + 1).toNat = i.toNat + 1 by omega, val_take_getD, val_take_getD, val_snoc, hlo, Nat.pow_succ, ← hy]
        exact carry_step hv
      simp (disch := omega) only [STEP, Px.A.ev, List.map_cons, List.map_nil, List.getD_cons_zero, List.getD_cons_succ, List.cons_append, List.nil_append, List.append_nil, Option.isSome_some, Option.getD_some, true_and, Int.sub_zero, Int.toNat_zero, List.drop_zero, Int.toNat_natCast]
      refine ite_step rfl ?_ ?_
      · intro hj
        simp (disch := omega) only [STEP, Px.A.ev, List.map_cons, List.map_nil, List.getD_cons_zero, List.getD_cons_succ, List.cons_append, List.nil_append, List.append_nil, Option.isSome_some, Option.getD_some, true_and, Int.sub_zero, Int.toNat_zero, List.drop_zero, Int.toNat_natCast]
        refine call_step (c2 _ _ _ (ha.getD _) (hb.getD _) hc) rfl ?_
        simp (disch := omega) only [STEP, Px.A.ev, List.map_cons, List.map_nil, List.getD_cons_zero, List.getD_cons_succ, List.cons_append, List.nil_append, List.append_nil, Option.isSome_some, Option.getD_some, true_and, Int.sub_zero, Int.toNat_zero, List.drop_zero, Int.toNat_natCast]
        exact jump_step rfl (step _ rfl)
      · intro hj
        refine call_step (c2 _ 0 _ (ha.getD _) (by omega) hc) rfl ?_
        simp (disch := omega) only [STEP, Px.A.ev, List.map_cons, List.map_nil, List.getD_cons_zero, List.getD_cons_succ, List.cons_append, List.nil_append, List.append_nil, Option.isSome_some, Option.getD_some, true_and, Int.sub_zero, Int.toNat_zero, List.drop_zero, Int.toNat_natCast]
        refine jump_step rfl (step 0 ?_)
        simp [List.getD_eq_getElem?_getD, List.getElem?_eq_none (show B.length ≤ i.toNat by omega)]
    · intro hi
      simp (disch := omega) only [STEP, Px.A.ev, List.map_cons, List.map_nil, List.getD_cons_zero, List.getD_cons_succ, List.cons_append, List.nil_append, List.append_nil, Option.isSome_some, Option.getD_some, true_and, Int.sub_zero, Int.toNat_zero, List.drop_zero, Int.toNat_natCast]
      refine call_step (c1 (out ++ [c]) (hw.append (WL.single (by omega))) (by simp; omega)) rfl ?_
      refine ret_step ?_
      show [AV.one (nn (val (out ++ [c])))] = _
      rw [val_snoc, hlo]
      rw [hv, val_take_all (by omega), val_take_all (by omega)]

theorem w_add (c1 : CTrim P) (c2 : CAdd32 P) {a b : List Nat} (ha : WF a) (hb : WF b) : IRwp P [] [nl a, nl b] ir_nat_Add (· = [.one (nn (val a + val b))]) := by
  obtain ⟨ha, hla⟩ := ha
  obtain ⟨hb, hlb⟩ := hb
  unfold ir_nat_Add
  refine call_step (c1 a ha (by omega)) rfl ?_
  refine call_step (c1 b hb (by omega)) rfl ?_
  have l1 := limbs_len_le ha
  have l2 := limbs_len_le hb
  simp only [nn]
  simp (disch := omega) only [STEP, Px.A.ev, List.map_cons, List.map_nil, List.getD_cons_zero, List.getD_cons_succ, List.cons_append, List.nil_append, List.append_nil, Option.isSome_some, Option.getD_some, true_and, Int.sub_zero, Int.toNat_zero, List.drop_zero, Int.toNat_natCast]
  refine ite_step rfl ?_ ?_
  · intro h
    simp (disch := omega) only [STEP, Px.A.ev, List.map_cons, List.map_nil, List.getD_cons_zero, List.getD_cons_succ, List.cons_append, List.nil_append, List.append_nil, Option.isSome_some, Option.getD_some, true_and, Int.sub_zero, Int.toNat_zero, List.drop_zero, Int.toNat_natCast]
    have := w_add_loop c1 c2 (WL_limbs (val b)) (WL_limbs (val a)) (by omega) (by omega) (P := P) (ρ := [nl a, nl b, nl (limbs (val a)), nl (limbs (val b)), .int .i64 (limbs (val a)).length, .int .i64 (limbs (val b)).length, .bool (decide (((limbs (val a)).length : Int) < (limbs (val b)).length)), .int .i64 (limbs (val b)).length, .int .i64 ((limbs (val b)).length + 1), nl [], .int .i64 (limbs (val b)).length]) (inits := [.var 2, .int .u32 0, .var 3, .var 10, .int .i64 0, .var 9]) rfl
    simp only [val_limbs] at this
    rw [Nat.add_comm (val a)]
    exact this
  · intro h
    simp (disch := omega) only [STEP, Px.A.ev, List.map_cons, List.map_nil, List.getD_cons_zero, List.getD_cons_succ, List.cons_append, List.nil_append, List.append_nil, Option.isSome_some, Option.getD_some, true_and, Int.sub_zero, Int.toNat_zero, List.drop_zero, Int.toNat_natCast]
    have := w_add_loop c1 c2 (WL_limbs (val a)) (WL_limbs (val b)) (by omega) (by omega) (P := P) (ρ := [nl a, nl b, nl (limbs (val a)), nl (limbs (val b)), .int .i64 (limbs (val a)).length, .int .i64 (limbs (val b)).length, .bool (decide (((limbs (val a)).length : Int) < (limbs (val b)).length)), .int .i64 (limbs (val a)).length, .int .i64 ((limbs (val a)).length + 1), nl [], .int .i64 (limbs (val a)).length]) (inits := [.var 3, .int .u32 0, .var 2, .var 10, .int .i64 0, .var 9]) rfl
    simp only [val_limbs] at this
    exact this

/-! ### Sub -/
theorem bv_int (X : BitVec 32) : BitVec.ofInt IntKind.u32.bits (X.toNat : Int) = X := by
  show BitVec.ofInt 32 (X.toNat : Int) = X
  simp
theorem bv_wrap (X : BitVec 32) : IntKind.u32.wrap (X.toNat : Int) = (X.toNat : Int) := wu32 (by omega) (by have := X.isLt; omega)
theorem d_com32 (X : BitVec 32) : Prim.den .com [.int .u32 (X.toNat : Int)] = some (.int .u32 ((~~~X).toNat : Int)) := by
  simp only [Prim.den]
  have : (BitVec.ofInt IntKind.u32.bits (if IntKind.u32.signed = true then -1 else IntKind.u32.max) ^^^ BitVec.ofInt IntKind.u32.bits (X.toNat : Int)) = ~~~X := by
    rw [bv_int]
    show BitVec.ofInt 32 4294967295 ^^^ X = ~~~X
    have : BitVec.ofInt 32 4294967295 = BitVec.allOnes 32 := by decide
    rw [this, BitVec.allOnes_xor]
  rw [this]; exact congrArg (fun x => some (DV.int .u32 x)) (bv_wrap _)
theorem d_and32 (X Y : BitVec 32) : Prim.den (.bin .and) [.int .u32 (X.toNat : Int), .int .u32 (Y.toNat : Int)] = some (.int .u32 ((X &&& Y).toNat : Int)) := by
  simp only [Prim.den, Prim.bin1, binInt]
  rw [if_neg (by simp), bv_int, bv_int]; exact congrArg (fun x => some (DV.int .u32 x)) (bv_wrap _)
theorem d_or32 (X Y : BitVec 32) : Prim.den (.bin .or) [.int .u32 (X.toNat : Int), .int .u32 (Y.toNat : Int)] = some (.int .u32 ((X ||| Y).toNat : Int)) := by
  simp only [Prim.den, Prim.bin1, binInt]
  rw [if_neg (by simp), bv_int, bv_int]; exact congrArg (fun x => some (DV.int .u32 x)) (bv_wrap _)
theorem d_xor32 (X Y : BitVec 32) : Prim.den (.bin .xor) [.int .u32 (X.toNat : Int), .int .u32 (Y.toNat : Int)] = some (.int .u32 ((X ^^^ Y).toNat : Int)) := by
  simp only [Prim.den, Prim.bin1, binInt]
  rw [if_neg (by simp), bv_int, bv_int]; exact congrArg (fun x => some (DV.int .u32 x)) (bv_wrap _)
theorem msb_div (X : BitVec 32) : X.toNat / 2147483648 = if X.msb then 1 else 0 := by
  have := X.isLt
  rw [BitVec.msb_eq_decide]
  simp only [Nat.reduceSub, Nat.reducePow, decide_eq_true_eq]
  split <;> omega
theorem borrow_bit {x y b d : Nat} (hx : x < 4294967296) (hy : y < 4294967296) (hb : b ≤ 1) (hd : d = (x + 8589934592 - y - b) % 4294967296) :
    ((~~~(BitVec.ofNat 32 x) &&& BitVec.ofNat 32 y) ||| (~~~(BitVec.ofNat 32 x ^^^ BitVec.ofNat 32 y) &&& BitVec.ofNat 32 d)).toNat / 2147483648 = if x < y + b then 1 else 0 := by
  rw [msb_div]
  have hd' : d < 4294967296 := by omega
  have m : ∀ z : Nat, z < 4294967296 → (BitVec.ofNat 32 z).msb = decide (2147483648 ≤ z) := fun z hz => by
    rw [BitVec.msb_eq_decide]; simp [Nat.mod_eq_of_lt hz]
  simp only [BitVec.msb_or, BitVec.msb_and, BitVec.msb_not, BitVec.msb_xor, m x hx, m y hy, m d hd']
  by_cases h1 : 2147483648 ≤ x <;> by_cases h2 : 2147483648 ≤ y <;> by_cases h3 : 2147483648 ≤ d <;> simp [h1, h2, h3] <;> omega

def CSub32 (P : Program) : Prop := ∀ x y b : Nat, x < 4294967296 → y < 4294967296 → b ≤ 1 → PureCalls P F.math_bits_Sub32 [.one (.int .u32 (x : Int)), .one (.int .u32 (y : Int)), .one (.int .u32 (b : Int))]
  [.one (.int .u32 (((x + 8589934592 - y - b) % 4294967296 : Nat) : Int)), .one (.int .u32 ((if x < y + b then 1 else 0 : Nat) : Int))]
theorem w_sub32 {x y b : Nat} (hx : x < 4294967296) (hy : y < 4294967296) (hb : b ≤ 1) : IRwp P [] [.int .u32 (x : Int), .int .u32 (y : Int), .int .u32 (b : Int)] ir_math_bits_Sub32
    (· = [.one (.int .u32 (((x + 8589934592 - y - b) % 4294967296 : Nat) : Int)), .one (.int .u32 ((if x < y + b then 1 else 0 : Nat) : Int))]) := by
  unfold ir_math_bits_Sub32
  have ex : (x : Int) = ((BitVec.ofNat 32 x).toNat : Int) := by simp [Nat.mod_eq_of_lt hx]
  have ey : (y : Int) = ((BitVec.ofNat 32 y).toNat : Int) := by simp [Nat.mod_eq_of_lt hy]
  obtain ⟨d, hd⟩ : ∃ d, d = (x + 8589934592 - y - b) % 4294967296 := ⟨_, rfl⟩
  have hd' : d < 4294967296 := by omega
  have ed : (d : Int) = ((BitVec.ofNat 32 d).toNat : Int) := by simp [Nat.mod_eq_of_lt hd']
  have e1 : Prim.den (.bin .sub) [.int .u32 (x : Int), .int .u32 (y : Int)] = some (.int .u32 (((x : Int) - y) % 4294967296)) := d_sub32
  have e2 : Prim.den (.bin .sub) [.int .u32 (((x : Int) - y) % 4294967296), .int .u32 (b : Int)] = some (.int .u32 (d : Int)) := by
    rw [d_sub32]; congr 2; omega
  have e3 : Prim.den .com [.int .u32 (x : Int)] = some (.int .u32 ((~~~(BitVec.ofNat 32 x)).toNat : Int)) := by rw [ex]; exact d_com32 _
  have e4 : Prim.den (.bin .and) [.int .u32 ((~~~(BitVec.ofNat 32 x)).toNat : Int), .int .u32 (y : Int)] = some (.int .u32 ((~~~(BitVec.ofNat 32 x) &&& BitVec.ofNat 32 y).toNat : Int)) := by rw [ey]; exact d_and32 _ _
  have e5 : Prim.den (.bin .xor) [.int .u32 (x : Int), .int .u32 (y : Int)] = some (.int .u32 ((BitVec.ofNat 32 x ^^^ BitVec.ofNat 32 y).toNat : Int)) := by rw [ex, ey]; exact d_xor32 _ _
  have e6 : Prim.den (.bin .and) [.int .u32 ((~~~(BitVec.ofNat 32 x ^^^ BitVec.ofNat 32 y)).toNat : Int), .int .u32 (d : Int)] = some (.int .u32 ((~~~(BitVec.ofNat 32 x ^^^ BitVec.ofNat 32 y) &&& BitVec.ofNat 32 d).toNat : Int)) := by rw [ed]; exact d_and32 _ _
  have e7 : ∀ Z : BitVec 32, Prim.den (.bin .shr) [.int .u32 (Z.toNat : Int), .int .u64 31] = some (.int .u32 ((Z.toNat / 2147483648 : Nat) : Int)) := fun Z => by
    rw [d_shrk (c := 2147483648) (by omega) (by decide) (by omega) (by omega)]; rfl
  simp only [IRwp_prim, List.map_cons, List.map_nil, A.ev, List.getD_cons_zero, List.getD_cons_succ, List.cons_append, List.nil_append, e1, e2, e3, e4, e5, e6, e7, d_com32, d_or32, Option.isSome_some, Option.getD_some, true_and]
  refine ret_step ?_
  rw [borrow_bit hx hy hb hd, ← hd]
  rfl

theorem borrow_step {p vo va vb x y b : Nat} (hx : x < 4294967296) (hy : y < 4294967296) (hb : b ≤ 1) (h : va + p * b = vo + vb) : (va + p * x) + p * 4294967296 * (if x < y + b then 1 else 0) = (vo + p * ((x + 8589934592 - y - b) % 4294967296)) + (vb + p * y) := by
  have h2 : x + 4294967296 * (if x < y + b then 1 else 0) = (x + 8589934592 - y - b) % 4294967296 + y + b := by split <;> omega
  generalize (x + 8589934592 - y - b) % 4294967296 = r at h2 ⊢
  generalize (if x < y + b then 1 else 0) = q at h2 ⊢
  have : p * (x + 4294967296 * q) = p * (r + y + b) := by rw [h2]
  grind

end Go.Px.Na
/- Wn2b: naturals: Sub. -/
set_option linter.unusedSimpArgs false
set_option linter.unusedVariables false
namespace Go.Px.Na
open Go.RowKit
variable {P : Program}

def CSub (P : Program) : Prop := ∀ a b, WF a → WF b → PureCalls P F.nat_Sub [.one (nl a), .one (nl b)] (if val a < val b then [.one (nl []), .one (.bool false)] else [.one (nn (val a - val b)), .one (.bool true)])
theorem w_sub (c1 : CTrim P) (c2 : CSub32 P) (c3 : CCmp P) {a b : List Nat} (ha : WF a) (hb : WF b) : IRwp P [] [nl a, nl b] ir_nat_Sub (· = if val a < val b then [.one (nl []), .one (.bool false)] else [.one (nn (val a - val b)), .one (.bool true)]) := by
  unfold ir_nat_Sub
  refine call_step (c3 a b ha hb) rfl ?_
  obtain ⟨ha, hla⟩ := ha
  obtain ⟨hb, hlb⟩ := hb
  simp (disch := omega) only [STEP, Px.A.ev, List.map_cons, List.map_nil, List.getD_cons_zero, List.getD_cons_succ, List.cons_append, List.nil_append, List.append_nil, Option.isSome_some, Option.getD_some, true_and, Int.sub_zero, Int.toNat_zero, List.drop_zero, Int.toNat_natCast]
  refine ite_step rfl ?_ ?_
  · intro h
    have : val a < val b := by unfold cmpI at h; split at h <;> first | assumption | (split at h <;> omega)
    rw [if_pos this]
    exact ret_step rfl
  · intro h
    have hge : val b ≤ val a := by unfold cmpI at h; split at h <;> omega
    rw [if_neg (by omega)]
    refine call_step (c1 a ha (by omega)) rfl ?_
    refine call_step (c1 b hb (by omega)) rfl ?_
    have l1 := limbs_len_le ha
    have l2 := limbs_len_le hb
    have l3 := limbs_len_mono hge
    have wa := WL_limbs (val a)
    have wb := WL_limbs (val b)
    have va := val_limbs (val a)
    have vb := val_limbs (val b)
    simp only [nn]
    generalize limbs (val a) = A at *
    generalize limbs (val b) = B at *
    simp (disch := omega) only [STEP, Px.A.ev, List.map_cons, List.map_nil, List.getD_cons_zero, List.getD_cons_succ, List.cons_append, List.nil_append, List.append_nil, Option.isSome_some, Option.getD_some, true_and, Int.sub_zero, Int.toNat_zero, List.drop_zero, Int.toNat_natCast]
    refine loop_step (fun ds => ∃ (i : Int) (c : Nat) (out : List Nat), ds = [nl B, .int .u32 c, nl A, .int .i64 A.length, .int .i64 i, nl out] ∧ 0 ≤ i ∧ i ≤ A.length ∧ c ≤ 1 ∧ WL out ∧ out.length = i.toNat ∧
      val (A.take i.toNat) + 4294967296 ^ i.toNat * c = val out + val (B.take i.toNat)) (numf (fun i => (A.length - i).toNat) 4) ?_ ?_ ?_
    · exact ⟨0, 0, [], rfl, by omega, by omega, by omega, WL.nil, rfl, by simp [val]⟩
    · rintro ds ⟨i, c, out, rfl, _⟩; rfl
    · rintro ds ⟨i, c, out, rfl, h0, h1, hc, hw, hlo, hv⟩
      simp (disch := omega) only [STEP, Px.A.ev, List.map_cons, List.map_nil, List.getD_cons_zero, List.getD_cons_succ, List.cons_append, List.nil_append, List.append_nil, Option.isSome_some, Option.getD_some, true_and, Int.sub_zero, Int.toNat_zero, List.drop_zero, Int.toNat_natCast]
      refine ite_step rfl ?_ ?_
      · intro hi
        have step : ∀ y : Nat, y = B.getD i.toNat 0 → (∃ (i' : Int) (c' : Nat) (out' : List Nat), [nl B, DV.int .u32 ((if A.getD i.toNat 0 < y + c then 1 else 0 : Nat) : Int), nl A, .int .i64 A.length, .int .i64 (i + 1), nl (out ++ [(A.getD i.toNat 0 + 8589934592 - y - c) % 4294967296])] = [nl B, .int .u32 c', nl A, .int .i64 A.length, .int .i64 i', nl out'] ∧ 0 ≤ i' ∧ i' ≤ A.length ∧ c' ≤ 1 ∧ WL out' ∧ out'.length = i'.toNat ∧
            val (A.take i'.toNat) + 4294967296 ^ i'.toNat * c' = val out' + val (B.take i'.toNat)) ∧ (A.length - (i + 1)).toNat < (A.length - i).toNat := by
          intro y hy
          have g1 := wa.getD i.toNat
          have g2 := wb.getD i.toNat
          refine ⟨⟨_, _, _, rfl, by omega, by omega, by split <;> omega, hw.append (WL.single (by omega)), by simp [hlo]; omega, ?_⟩, by omega⟩
          rw [show (i + 1).toNat = i.toNat + 1 by omega, val_take_getD, val_take_getD, val_snoc, hlo, Nat.pow_succ, ← hy]
          exact borrow_step g1 (by omega) hc hv
        simp (disch := omega) only [STEP, Px.A.ev, List.map_cons, List.map_nil, List.getD_cons_zero, List.getD_cons_succ, List.cons_append, List.nil_append, List.append_nil, Option.isSome_some, Option.getD_some, true_and, Int.sub_zero, Int.toNat_zero, List.drop_zero, Int.toNat_natCast]
        refine ite_step rfl ?_ ?_
        · intro hj
          simp (disch := omega) only [STEP, Px.A.ev, List.map_cons, List.map_nil, List.getD_cons_zero, List.getD_cons_succ, List.cons_append, List.nil_append, List.append_nil, Option.isSome_some, Option.getD_some, true_and, Int.sub_zero, Int.toNat_zero, List.drop_zero, Int.toNat_natCast]
          refine call_step (c2 _ _ _ (wa.getD _) (wb.getD _) hc) rfl ?_
          simp (disch := omega) only [STEP, Px.A.ev, List.map_cons, List.map_nil, List.getD_cons_zero, List.getD_cons_succ, List.cons_append, List.nil_append, List.append_nil, Option.isSome_some, Option.getD_some, true_and, Int.sub_zero, Int.toNat_zero, List.drop_zero, Int.toNat_natCast]
          exact jump_step rfl (step _ rfl)
        · intro hj
          refine call_step (c2 _ 0 _ (wa.getD _) (by omega) hc) rfl ?_
          simp (disch := omega) only [STEP, Px.A.ev, List.map_cons, List.map_nil, List.getD_cons_zero, List.getD_cons_succ, List.cons_append, List.nil_append, List.append_nil, Option.isSome_some, Option.getD_some, true_and, Int.sub_zero, Int.toNat_zero, List.drop_zero, Int.toNat_natCast]
          refine jump_step rfl (step 0 ?_)
          simp [List.getD_eq_getElem?_getD, List.getElem?_eq_none (show B.length ≤ i.toNat by omega)]
      · intro hi
        refine call_step (c1 out hw (by omega)) rfl ?_
        refine ret_step ?_
        show [AV.one (nn (val out)), AV.one (.bool true)] = _
        rw [val_take_all (by omega), val_take_all (by omega), va, vb] at hv
        have h4 := val_lt hw
        rw [hlo] at h4
        have : c = 0 ∨ c = 1 := by omega
        rcases this with rfl | rfl
        · rw [show val out = val a - val b by omega]; rfl
        · exfalso; omega

end Go.Px.Na

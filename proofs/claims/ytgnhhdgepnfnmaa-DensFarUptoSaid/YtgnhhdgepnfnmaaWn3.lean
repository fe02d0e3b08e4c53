/- Wn3: naturals: Mul, small, shr. -/
import Derived.Test.YtgnhhdgepnfnmaaWn2
set_option linter.unusedSimpArgs false
set_option linter.unusedVariables false
namespace Go.Px.Na
open Go.RowKit
variable {P : Program}

theorem val_set {l : List Nat} {j x : Nat} (h : j < l.length) : val (l.set j x) + 4294967296 ^ j * l.getD j 0 = val l + 4294967296 ^ j * x := by
  induction l generalizing j with
  | nil => simp at h
  | cons y r ih =>
    cases j with
    | zero => simp [val]; omega
    | succ j =>
      have := ih (j := j) (by simpa using h)
      simp only [List.set_cons_succ, val, List.getD_cons_succ, Nat.pow_succ]
      grind
theorem getD_set_ne {l : List Nat} {j k x : Nat} (h : j ≠ k) : (l.set j x).getD k 0 = l.getD k 0 := by
  simp [List.getD_eq_getElem?_getD, List.getElem?_set_ne h]
theorem getD_set_eq {l : List Nat} {j x : Nat} (h : j < l.length) : (l.set j x).getD j 0 = x := by
  simp [List.getD_eq_getElem?_getD, h]
theorem mul_lt64 {x y : Nat} (hx : x < 4294967296) (hy : y < 4294967296) : x * y ≤ 18446744065119617025 := by
  have := Nat.mul_le_mul (Nat.le_sub_one_of_lt hx) (Nat.le_sub_one_of_lt hy)
  omega

theorem mul_step {p q vo vo' V x y o c b : Nat} (h1 : vo' + (p * q) * o = vo + (p * q) * ((x * y + o + c) % 4294967296)) (h2 : vo + (p * q) * c = V + p * x * b) :
    vo' + (p * q * 4294967296) * ((x * y + o + c) / 4294967296) = V + p * x * (b + q * y) := by
  have h3 := Nat.mod_add_div (x * y + o + c) 4294967296
  generalize (x * y + o + c) % 4294967296 = r at h1 h3
  generalize (x * y + o + c) / 4294967296 = t at h3 ⊢
  have h4 : p * q * (r + 4294967296 * t) = p * q * (x * y + o + c) := by rw [h3]
  grind

def CMul (P : Program) : Prop := ∀ a b, WF a → WF b → PureCalls P F.nat_Mul [.one (nl a), .one (nl b)] [.one (nn (val a * val b))]
theorem w_mul (c1 : CTrim P) {a b : List Nat} (ha : WF a) (hb : WF b) : IRwp P [] [nl a, nl b] ir_nat_Mul (· = [.one (nn (val a * val b))]) := by
  obtain ⟨ha, hla⟩ := ha
  obtain ⟨hb, hlb⟩ := hb
  unfold ir_nat_Mul
  refine call_step (c1 a ha (by omega)) rfl ?_
  refine call_step (c1 b hb (by omega)) rfl ?_
  have l1 := limbs_len_le ha
  have l2 := limbs_len_le hb
  have wa := WL_limbs (val a)
  have wb := WL_limbs (val b)
  have va := val_limbs (val a)
  have vb := val_limbs (val b)
  rw [← va, ← vb]
  simp only [nn, val_limbs]
  generalize limbs (val a) = A at *
  generalize limbs (val b) = B at *
  simp (disch := omega) only [STEP, Px.A.ev, List.map_cons, List.map_nil, List.getD_cons_zero, List.getD_cons_succ, List.cons_append, List.nil_append, List.append_nil, Option.isSome_some, Option.getD_some, true_and, Int.sub_zero, Int.toNat_zero, List.drop_zero, Int.toNat_natCast]
  refine loop_step (fun ds => ∃ (i : Int) (out : List Nat), ds = [nl B, nl A, .int .i64 A.length, .int .i64 i, nl out] ∧ 0 ≤ i ∧ i ≤ A.length ∧ WL out ∧ out.length = A.length + B.length ∧
    (∀ j, i.toNat + B.length ≤ j → out.getD j 0 = 0) ∧ val out = val (A.take i.toNat) * val B) (numf (fun i => (A.length - i).toNat) 3) ?_ ?_ ?_
  · refine ⟨0, List.replicate ((A.length : Int) + B.length).toNat 0, rfl, by omega, by omega, WL.rep _, by simp; omega, fun j _ => ?_, ?_⟩
    · simp only [List.getD_eq_getElem?_getD, List.getElem?_replicate]; split <;> rfl
    · rw [val_rep]; simp [val]
  · rintro ds ⟨i, out, rfl, _⟩; rfl
  · rintro ds ⟨i, out, rfl, h0, h1, hw, hlo, hz, hv⟩
    simp (disch := omega) only [STEP, Px.A.ev, List.map_cons, List.map_nil, List.getD_cons_zero, List.getD_cons_succ, List.cons_append, List.nil_append, List.append_nil, Option.isSome_some, Option.getD_some, true_and, Int.sub_zero, Int.toNat_zero, List.drop_zero, Int.toNat_natCast]
    refine ite_step rfl ?_ ?_
    · intro hi
      simp (disch := omega) only [STEP, Px.A.ev, List.map_cons, List.map_nil, List.getD_cons_zero, List.getD_cons_succ, List.cons_append, List.nil_append, List.append_nil, Option.isSome_some, Option.getD_some, true_and, Int.sub_zero, Int.toNat_zero, List.drop_zero, Int.toNat_natCast]
      have hx := wa.getD i.toNat
      generalize hxe : A.getD i.toNat 0 = x at hx ⊢
      refine loop_step (fun ds => ∃ (k : Int) (c : Nat) (out' : List Nat), ds = [nl B, .int .i64 i, .int .u32 x, .int .u64 c, nl A, .int .i64 A.length, .int .i64 B.length, .int .i64 k, nl out'] ∧ 0 ≤ k ∧ k ≤ B.length ∧ c < 4294967296 ∧ WL out' ∧ out'.length = A.length + B.length ∧
        (∀ j, i.toNat + B.length ≤ j → out'.getD j 0 = 0) ∧ val out' + (4294967296 ^ i.toNat * 4294967296 ^ k.toNat) * c = val out + 4294967296 ^ i.toNat * x * val (B.take k.toNat)) (numf (fun k => (B.length - k).toNat) 7) ?_ ?_ ?_
      · exact ⟨0, 0, out, rfl, by omega, by omega, by omega, hw, hlo, hz, by simp [val]⟩
      · rintro ds ⟨k, c, out', rfl, _⟩; rfl
      · rintro ds ⟨k, c, out', rfl, g0, g1, gc, gw, glo, gz, gv⟩
        simp (disch := omega) only [STEP, Px.A.ev, List.map_cons, List.map_nil, List.getD_cons_zero, List.getD_cons_succ, List.cons_append, List.nil_append, List.append_nil, Option.isSome_some, Option.getD_some, true_and, Int.sub_zero, Int.toNat_zero, List.drop_zero, Int.toNat_natCast]
        refine ite_step rfl ?_ ?_
        · intro hk
          have hy := wb.getD k.toNat
          have ho := gw.getD (i + k).toNat
          have hm := mul_lt64 hx hy
          obtain ⟨xy, hxy⟩ : ∃ xy : Nat, xy = x * B.getD k.toNat 0 := ⟨_, rfl⟩
          rw [← hxy] at hm
          have e1 : Prim.den (.bin .mul) [.int .u64 (x : Int), .int .u64 ((B.getD k.toNat 0 : Nat) : Int)] = some (.int .u64 (xy : Int)) := by
            have : (x : Int) * ((B.getD k.toNat 0 : Nat) : Int) = (xy : Int) := by rw [hxy]; simp
            rw [d_mulu (by omega) (by omega), this]
          have e2 : ∀ t : Nat, Prim.den (.conv .u32) [.int .u64 (t : Int)] = some (.int .u32 ((t % 4294967296 : Nat) : Int)) := fun t => by rw [d_conv32]; rfl
          have e3 : ∀ t : Nat, Prim.den (.bin .shr) [.int .u64 (t : Int), .int .u64 32] = some (.int .u64 ((t / 4294967296 : Nat) : Int)) := fun t => by rw [d_shr32 rfl]; rfl
          have e4 : Prim.den (.bin .add) [.int .u64 ((xy : Int) + ((out'.getD (i + k).toNat 0 : Nat) : Int)), .int .u64 (c : Int)] = some (.int .u64 ((xy + out'.getD (i + k).toNat 0 + c : Nat) : Int)) := by
            rw [d_addu (by omega) (by omega)]; simp
          simp (disch := omega) only [STEP, Px.A.ev, List.map_cons, List.map_nil, List.getD_cons_zero, List.getD_cons_succ, List.cons_append, List.nil_append, List.append_nil, Option.isSome_some, Option.getD_some, true_and, Int.sub_zero, Int.toNat_zero, List.drop_zero, Int.toNat_natCast, e1, e2, e3, e4]
          refine jump_step rfl ⟨⟨_, _, _, rfl, by omega, by omega, by omega, gw.set (Nat.mod_lt _ (by decide)), by simp [glo], fun j hj => ?_, ?_⟩, ?_⟩
          · rw [getD_set_ne (by omega)]; exact gz j hj
          · have hs := val_set (l := out') (j := (i + k).toNat) (x := (xy + out'.getD (i + k).toNat 0 + c) % 4294967296) (by omega)
            rw [show (i + k).toNat = i.toNat + k.toNat by omega, Nat.pow_add] at hs
            rw [show (k + 1).toNat = k.toNat + 1 by omega, val_take_getD, Nat.pow_succ]
            rw [show (i + k).toNat = i.toNat + k.toNat by omega] at *
            rw [hxy] at hs ⊢
            have := mul_step hs gv
            rw [← Nat.mul_assoc]
            exact this
          · show (B.length - (k + 1) : Int).toNat < (B.length - k : Int).toNat
            omega
        · intro hk
          have e2 : Prim.den (.conv .u32) [.int .u64 (c : Int)] = some (.int .u32 (c : Int)) := d_conv32' (by omega) (by omega)
          simp (disch := omega) only [STEP, Px.A.ev, List.map_cons, List.map_nil, List.getD_cons_zero, List.getD_cons_succ, List.cons_append, List.nil_append, List.append_nil, Option.isSome_some, Option.getD_some, true_and, Int.sub_zero, Int.toNat_zero, List.drop_zero, Int.toNat_natCast, e2]
          refine jump_step rfl ⟨⟨_, _, rfl, by omega, by omega, gw.set gc, by simp [glo], fun j hj => ?_, ?_⟩, ?_⟩
          · rw [getD_set_ne (by omega)]; exact gz j (by omega)
          · have hs := val_set (l := out') (j := (i + B.length).toNat) (x := c) (by omega)
            rw [gz _ (by omega), Nat.mul_zero, Nat.add_zero] at hs
            rw [hs, show (i + B.length).toNat = i.toNat + B.length by omega, Nat.pow_add]
            rw [show k.toNat = B.length by omega, List.take_length] at gv
            rw [gv, hv, show (i + 1).toNat = i.toNat + 1 by omega, val_take_getD, hxe]
            grind
          · show (A.length - (i + 1) : Int).toNat < (A.length - i : Int).toNat
            omega
    · intro hi
      refine call_step (c1 out hw (by omega)) rfl ?_
      refine ret_step ?_
      show [AV.one (nn (val out))] = _
      rw [hv, val_take_all (by omega), va, vb]
      rfl

/-! ### Div32, small -/
theorem or_add {h l k : Nat} (hl : l < 2 ^ k) : (h * 2 ^ k) ||| l = h * 2 ^ k + l := by
  rw [Nat.mul_comm, Nat.two_pow_add_eq_or_of_lt hl]
theorem den_or64 (a b : Nat) (ha : a < 18446744073709551616) (hb : b < 18446744073709551616) : Prim.den (.bin .or) [.int .u64 (a : Int), .int .u64 (b : Int)] = some (.int .u64 ((a ||| b : Nat) : Int)) := by
  simp only [Prim.den, Prim.bin1, binInt]
  rw [if_neg (by simp)]
  have e : (BitVec.ofInt IntKind.u64.bits (a : Int) ||| BitVec.ofInt IntKind.u64.bits (b : Int)).toNat = a ||| b := by
    show (BitVec.ofInt 64 (a : Int) ||| BitVec.ofInt 64 (b : Int)).toNat = a ||| b
    simp [Nat.mod_eq_of_lt ha, Nat.mod_eq_of_lt hb]
  have hlt : a ||| b < 2 ^ 64 := Nat.or_lt_two_pow (by simpa using ha) (by simpa using hb)
  rw [e, wu64 (by omega) (by omega)]
theorem d_or64 {h l : Int} (h0 : 0 ≤ h) (h1 : h < 4294967296) (h2 : 0 ≤ l) (h3 : l < 4294967296) : Prim.den (.bin .or) [.int .u64 (h * 4294967296), .int .u64 l] = some (.int .u64 (h * 4294967296 + l)) := by
  obtain ⟨m, rfl⟩ := Int.eq_ofNat_of_zero_le h0
  obtain ⟨n, rfl⟩ := Int.eq_ofNat_of_zero_le h2
  have := den_or64 (m * 4294967296) n (by omega) (by omega)
  rw [or_add (k := 32) (by omega)] at this
  simpa using this
theorem d_or0 {l : Int} (h2 : 0 ≤ l) (h3 : l < 4294967296) : Prim.den (.bin .or) [.int .u64 0, .int .u64 l] = some (.int .u64 l) := by
  have := d_or64 (h := 0) (l := l) (by omega) (by omega) h2 h3
  simpa using this

def CDiv32 (P : Program) : Prop := ∀ h l y : Nat, h < y → l < 4294967296 → y < 4294967296 → PureCalls P F.math_bits_Div32 [.one (.int .u32 (h : Int)), .one (.int .u32 (l : Int)), .one (.int .u32 (y : Int))]
  [.one (.int .u32 (((h * 4294967296 + l) / y : Nat) : Int)), .one (.int .u32 (((h * 4294967296 + l) % y : Nat) : Int))]
theorem div_lt32 {h l y : Nat} (hh : h < y) (hl : l < 4294967296) : (h * 4294967296 + l) / y < 4294967296 := by
  rw [Nat.div_lt_iff_lt_mul (by omega)]
  have : (h + 1) * 4294967296 ≤ y * 4294967296 := Nat.mul_le_mul_right _ hh
  rw [Nat.mul_comm 4294967296]
  omega
theorem w_div32 {h l y : Nat} (hh : h < y) (hl : l < 4294967296) (hy : y < 4294967296) : IRwp P [] [.int .u32 (h : Int), .int .u32 (l : Int), .int .u32 (y : Int)] ir_math_bits_Div32
    (· = [.one (.int .u32 (((h * 4294967296 + l) / y : Nat) : Int)), .one (.int .u32 (((h * 4294967296 + l) % y : Nat) : Int))]) := by
  unfold ir_math_bits_Div32
  have hm : (h * 4294967296 + l) % y < y := Nat.mod_lt _ (by omega)
  have hd := div_lt32 hh hl
  have e1 : Prim.den (.bin .quo) [.int .u64 ((h : Int) * 4294967296 + l), .int .u64 (y : Int)] = some (.int .u64 (((h * 4294967296 + l) / y : Nat) : Int)) := by
    rw [d_quou (by omega) (by omega) (by omega)]; simp
  have e2 : Prim.den (.bin .rem) [.int .u64 ((h : Int) * 4294967296 + l), .int .u64 (y : Int)] = some (.int .u64 (((h * 4294967296 + l) % y : Nat) : Int)) := by
    rw [d_remu (by omega) (by omega)]; simp
  generalize (h * 4294967296 + l) / y = q at *
  generalize (h * 4294967296 + l) % y = r at *
  simp (disch := omega) only [STEP, Px.A.ev, List.map_cons, List.map_nil, List.getD_cons_zero, List.getD_cons_succ, List.cons_append, List.nil_append, List.append_nil, Option.isSome_some, Option.getD_some, true_and, Int.sub_zero, Int.toNat_zero, List.drop_zero, Int.toNat_natCast]
  refine ite_step rfl ?_ ?_
  · intro h1
    simp (disch := omega) only [STEP, Px.A.ev, List.map_cons, List.map_nil, List.getD_cons_zero, List.getD_cons_succ, List.cons_append, List.nil_append, List.append_nil, Option.isSome_some, Option.getD_some, true_and, Int.sub_zero, Int.toNat_zero, List.drop_zero, Int.toNat_natCast]
    refine ite_step rfl ?_ ?_
    · intro h2; omega
    · intro h2
      simp (disch := omega) only [STEP, Px.A.ev, List.map_cons, List.map_nil, List.getD_cons_zero, List.getD_cons_succ, List.cons_append, List.nil_append, List.append_nil, Option.isSome_some, Option.getD_some, true_and, Int.sub_zero, Int.toNat_zero, List.drop_zero, Int.toNat_natCast, d_or64, e1, e2]
      exact ret_step rfl
  · intro h1; exfalso; apply h1; intro h2; omega

theorem drop_set {l : List Nat} {i j x : Nat} (h : i < j) : (l.set i x).drop j = l.drop j := by
  rw [List.drop_set, if_pos h]

def CSmall (P : Program) : Prop := ∀ a (b : Nat), WF a → 0 < b → b < 4294967296 → PureCalls P F.nat_small [.one (nl a), .one (.int .u32 (b : Int))] [.one (nn (val a / b)), .one (nn (val a % b))]
theorem w_small (c1 : CTrim P) (c2 : CDiv32 P) {a : List Nat} {b : Nat} (ha : WF a) (hb0 : 0 < b) (hb : b < 4294967296) : IRwp P [] [nl a, .int .u32 (b : Int)] ir_nat_small (· = [.one (nn (val a / b)), .one (nn (val a % b))]) := by
  obtain ⟨ha, hla⟩ := ha
  unfold ir_nat_small
  simp (disch := omega) only [STEP, Px.A.ev, List.map_cons, List.map_nil, List.getD_cons_zero, List.getD_cons_succ, List.cons_append, List.nil_append, List.append_nil, Option.isSome_some, Option.getD_some, true_and, Int.sub_zero, Int.toNat_zero, List.drop_zero, Int.toNat_natCast]
  refine loop_step (fun ds => ∃ (i : Int) (r : Nat) (q : List Nat), ds = [nl a, .int .u32 (b : Int), .int .u32 (r : Int), .int .i64 i, nl q] ∧ -1 ≤ i ∧ i < a.length ∧ r < b ∧ WL q ∧ q.length = a.length ∧
    val (a.drop (i + 1).toNat) = b * val (q.drop (i + 1).toNat) + r) (numf (fun i => (i + 1).toNat) 3) ?_ ?_ ?_
  · refine ⟨_, 0, List.replicate a.length 0, rfl, by omega, by omega, by omega, WL.rep _, by simp, ?_⟩
    rw [List.drop_eq_nil_of_le (by omega), List.drop_eq_nil_of_le (by simp)]
    simp [val]
  · rintro ds ⟨i, r, q, rfl, _⟩; rfl
  · rintro ds ⟨i, r, q, rfl, h0, h1, hr, hw, hlq, hv⟩
    simp (disch := omega) only [STEP, Px.A.ev, List.map_cons, List.map_nil, List.getD_cons_zero, List.getD_cons_succ, List.cons_append, List.nil_append, List.append_nil, Option.isSome_some, Option.getD_some, true_and, Int.sub_zero, Int.toNat_zero, List.drop_zero, Int.toNat_natCast]
    refine ite_step rfl ?_ ?_
    · intro hi
      simp (disch := omega) only [STEP, Px.A.ev, List.map_cons, List.map_nil, List.getD_cons_zero, List.getD_cons_succ, List.cons_append, List.nil_append, List.append_nil, Option.isSome_some, Option.getD_some, true_and, Int.sub_zero, Int.toNat_zero, List.drop_zero, Int.toNat_natCast]
      have hx := ha.getD i.toNat
      refine call_step (c2 r _ b hr hx hb) rfl ?_
      have hm : (r * 4294967296 + a.getD i.toNat 0) % b < b := Nat.mod_lt _ (by omega)
      have hd := div_lt32 hr hx
      have g1 := val_getD_drop a i.toNat
      generalize a.getD i.toNat 0 = x at *
      generalize hq : (r * 4294967296 + x) / b = t at *
      generalize hs : (r * 4294967296 + x) % b = s at *
      have hts := Nat.mod_add_div (r * 4294967296 + x) b
      rw [hq, hs] at hts
      simp (disch := omega) only [STEP, Px.A.ev, List.map_cons, List.map_nil, List.getD_cons_zero, List.getD_cons_succ, List.cons_append, List.nil_append, List.append_nil, Option.isSome_some, Option.getD_some, true_and, Int.sub_zero, Int.toNat_zero, List.drop_zero, Int.toNat_natCast]
      refine jump_step rfl ⟨⟨_, _, _, rfl, by omega, by omega, hm, hw.set hd, by simp [hlq], ?_⟩, ?_⟩
      · rw [show (i - 1 + 1).toNat = i.toNat by omega, g1, val_getD_drop (q.set i.toNat t), getD_set_eq (by omega), drop_set (by omega)]
        rw [show (i + 1).toNat = i.toNat + 1 by omega] at hv
        rw [hv]
        grind
      · show (i - 1 + 1).toNat < (i + 1).toNat
        omega
    · intro hi
      refine call_step (c1 q hw (by omega)) rfl ?_
      simp (disch := omega) only [STEP, Px.A.ev, List.map_cons, List.map_nil, List.getD_cons_zero, List.getD_cons_succ, List.cons_append, List.nil_append, List.append_nil, Option.isSome_some, Option.getD_some, true_and, Int.sub_zero, Int.toNat_zero, List.drop_zero, Int.toNat_natCast]
      refine call_step (c1 [r] (WL.single (by omega)) (by simp)) rfl ?_
      refine ret_step ?_
      rw [show (i + 1).toNat = 0 by omega, List.drop_zero, List.drop_zero] at hv
      show [AV.one (nn (val q)), AV.one (nn (val [r]))] = _
      rw [val_single, hv, Nat.mul_add_div hb0, Nat.div_eq_of_lt hr, Nat.mul_add_mod, Nat.mod_eq_of_lt hr]
      rfl

/-! ### shr -/
theorem d_shrn {k' : IntKind} {a n : Int} (h0 : 0 ≤ a) (hn0 : 0 ≤ n) (hn : n < 64) : Prim.den (.bin .shr) [.int .u64 a, .int k' n] = some (.int .u64 (a / ((2 ^ n.toNat : Nat) : Int))) := by
  refine d_shrk hn0 ?_ h0 (Int.natCast_nonneg _)
  rw [show IntKind.u64.bits = 64 from rfl, Nat.min_eq_left (by omega)]
  simp

/-- A digit of a number that is shifted. -/
theorem shr_digit {V x h R p m : Nat} {n : Nat} (hn : n ≤ 32) (hm : m = 2 ^ n) (hp : 0 < p) (hV : V / p = x + 4294967296 * (h + 4294967296 * R)) : V / m / p % 4294967296 = (h * 4294967296 + x) / m % 4294967296 := by
  obtain ⟨d, hd⟩ : ∃ d, 4294967296 = m * d := ⟨2 ^ (32 - n), by rw [hm, ← Nat.pow_add, show n + (32 - n) = 32 by omega]⟩
  have hm0 : 0 < m := by rw [hm]; exact Nat.two_pow_pos n
  rw [Nat.div_div_eq_div_mul, Nat.mul_comm m p, ← Nat.div_div_eq_div_mul, hV]
  have : x + 4294967296 * (h + 4294967296 * R) = (h * 4294967296 + x) + m * (4294967296 * (d * R)) := by
    have : 4294967296 * 4294967296 * R = 4294967296 * (m * d) * R := by rw [← hd]
    grind
  rw [this, Nat.add_mul_div_left _ _ hm0, Nat.add_mul_mod_self_left]

def CShr (P : Program) : Prop := ∀ a (n : Nat), WF a → n < 32 → PureCalls P F.nat_shr [.one (nl a), .one (.int .i64 (n : Int))] [.one (nn (val a / 2 ^ n))]
theorem drop_val {a : List Nat} (ha : WL a) (i : Nat) : val a / 4294967296 ^ i = val (a.drop i) := by
  by_cases h : i ≤ a.length
  · have h1 := val_take_drop a i
    have h2 := val_lt (ha.take i)
    have h3 : (a.take i).length = i := by simp [h]
    rw [h3] at h1 h2
    rw [h1, Nat.add_mul_div_left _ _ (Nat.pow_pos (by omega)), Nat.div_eq_of_lt h2, Nat.zero_add]
  · rw [List.drop_eq_nil_of_le (by omega), Nat.div_eq_of_lt]
    · rfl
    · exact Nat.lt_of_lt_of_le (val_lt ha) (Nat.pow_le_pow_right (by omega) (by omega))
theorem w_shr (c1 : CTrim P) {a : List Nat} {n : Nat} (ha : WF a) (hn : n < 32) : IRwp P [] [nl a, .int .i64 (n : Int)] ir_nat_shr (· = [.one (nn (val a / 2 ^ n))]) := by
  obtain ⟨ha, hla⟩ := ha
  unfold ir_nat_shr
  have hpow : 0 < 2 ^ n := Nat.two_pow_pos n
  simp (disch := omega) only [STEP, Px.A.ev, List.map_cons, List.map_nil, List.getD_cons_zero, List.getD_cons_succ, List.cons_append, List.nil_append, List.append_nil, Option.isSome_some, Option.getD_some, true_and, Int.sub_zero, Int.toNat_zero, List.drop_zero, Int.toNat_natCast]
  refine loop_step (fun ds => ∃ (i : Int) (out : List Nat), ds = [nl a, .int .i64 (n : Int), .int .i64 a.length, .int .i64 i, nl out] ∧ 0 ≤ i ∧ i ≤ a.length ∧ WL out ∧ out.length = a.length ∧
    val (out.take i.toNat) = (val a / 2 ^ n) % 4294967296 ^ i.toNat) (numf (fun i => (a.length - i).toNat) 3) ?_ ?_ ?_
  · exact ⟨0, List.replicate a.length 0, rfl, by omega, by omega, WL.rep _, by simp, by simp [val, Nat.mod_one]⟩
  · rintro ds ⟨i, out, rfl, _⟩; rfl
  · rintro ds ⟨i, out, rfl, h0, h1, hw, hlo, hv⟩
    simp (disch := omega) only [STEP, Px.A.ev, List.map_cons, List.map_nil, List.getD_cons_zero, List.getD_cons_succ, List.cons_append, List.nil_append, List.append_nil, Option.isSome_some, Option.getD_some, true_and, Int.sub_zero, Int.toNat_zero, List.drop_zero, Int.toNat_natCast]
    refine ite_step rfl ?_ ?_
    · intro hi
      have hx := ha.getD i.toNat
      have hh := ha.getD (i.toNat + 1)
      have g1 := val_getD_drop a i.toNat
      have g2 := val_getD_drop a (i.toNat + 1)
      rw [g2] at g1
      have key := shr_digit (V := val a) (p := 4294967296 ^ i.toNat) (n := n) (by omega) rfl (Nat.pow_pos (by omega)) ((drop_val ha i.toNat).trans g1)
      have e5 : ∀ z : Nat, Prim.den (.conv .u32) [.int .u64 ((z : Int) / ((2 ^ n : Nat) : Int))] = some (.int .u32 ((z / 2 ^ n % 4294967296 : Nat) : Int)) := fun z => by rw [d_conv32]; simp
      have fin : ∀ z : Nat, z = a.getD (i.toNat + 1) 0 * 4294967296 + a.getD i.toNat 0 → (∃ (i' : Int) (out' : List Nat), [nl a, DV.int .i64 (n : Int), .int .i64 a.length, .int .i64 (i + 1), nl (out.set i.toNat (z / 2 ^ n % 4294967296))] = [nl a, .int .i64 (n : Int), .int .i64 a.length, .int .i64 i', nl out'] ∧ 0 ≤ i' ∧ i' ≤ a.length ∧ WL out' ∧ out'.length = a.length ∧
          val (out'.take i'.toNat) = (val a / 2 ^ n) % 4294967296 ^ i'.toNat) ∧ (a.length - (i + 1)).toNat < (a.length - i).toNat := by
        intro z hz
        refine ⟨⟨_, _, rfl, by omega, by omega, hw.set (Nat.mod_lt _ (by decide)), by simp [hlo], ?_⟩, by omega⟩
        rw [show (i + 1).toNat = i.toNat + 1 by omega, val_take_getD, getD_set_eq (by omega), List.take_set_of_le (Nat.le_refl _), hv, Nat.mod_pow_succ, key, hz]
      simp (disch := omega) only [STEP, Px.A.ev, List.map_cons, List.map_nil, List.getD_cons_zero, List.getD_cons_succ, List.cons_append, List.nil_append, List.append_nil, Option.isSome_some, Option.getD_some, true_and, Int.sub_zero, Int.toNat_zero, List.drop_zero, Int.toNat_natCast]
      refine ite_step rfl ?_ ?_
      · intro hj
        have e6 : (i + 1).toNat = i.toNat + 1 := by omega
        have e7 : ((a.getD (i.toNat + 1) 0 : Nat) : Int) * 4294967296 + ((a.getD i.toNat 0 : Nat) : Int) = ((a.getD (i.toNat + 1) 0 * 4294967296 + a.getD i.toNat 0 : Nat) : Int) := by simp
        simp (disch := omega) only [STEP, Px.A.ev, List.map_cons, List.map_nil, List.getD_cons_zero, List.getD_cons_succ, List.cons_append, List.nil_append, List.append_nil, Option.isSome_some, Option.getD_some, true_and, Int.sub_zero, Int.toNat_zero, List.drop_zero, Int.toNat_natCast, d_or64, e6, e7, d_shrn, e5]
        exact jump_step rfl (fin _ rfl)
      · intro hj
        simp (disch := omega) only [STEP, Px.A.ev, List.map_cons, List.map_nil, List.getD_cons_zero, List.getD_cons_succ, List.cons_append, List.nil_append, List.append_nil, Option.isSome_some, Option.getD_some, true_and, Int.sub_zero, Int.toNat_zero, List.drop_zero, Int.toNat_natCast, d_or0, d_shrn, e5]
        refine jump_step rfl (fin _ ?_)
        have : a.getD (i.toNat + 1) 0 = 0 := by simp [List.getD_eq_getElem?_getD, List.getElem?_eq_none (show a.length ≤ i.toNat + 1 by omega)]
        rw [this]; omega
    · intro hi
      refine call_step (c1 out hw (by omega)) rfl ?_
      refine ret_step ?_
      show [AV.one (nn (val out))] = _
      rw [val_take_all (by omega)] at hv
      rw [hv, Nat.mod_eq_of_lt]
      refine Nat.lt_of_le_of_lt (Nat.div_le_self _ _) ?_
      rw [show i.toNat = a.length by omega]
      exact val_lt ha

end Go.Px.Na

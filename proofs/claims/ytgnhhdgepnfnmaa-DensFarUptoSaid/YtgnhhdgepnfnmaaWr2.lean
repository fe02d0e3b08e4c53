/- Wr2: the document's naturals: Mul, Double, Half, at. -/
import Derived.Test.YtgnhhdgepnfnmaaWr1
set_option maxRecDepth 10000
set_option linter.unusedSimpArgs false
set_option linter.unusedVariables false
namespace Go.Px.Na
open Go.RowKit
variable {P : Program}

theorem d_rem32 (t : Nat) : Prim.den (.bin .rem) [.int .u64 (t : Int), .int .u64 4294967296] = some (.int .u64 ((t % 4294967296 : Nat) : Int)) := by rw [d_remu (by omega) (by omega)]; rfl
theorem d_quo32n {t : Nat} (h : t < 18446744073709551616) : Prim.den (.bin .quo) [.int .u64 (t : Int), .int .u64 4294967296] = some (.int .u64 ((t / 4294967296 : Nat) : Int)) := by rw [d_quou (by omega) (by omega) (by omega)]; rfl
theorem d_c32 (t : Nat) : Prim.den (.conv .u32) [.int .u64 ((t % 4294967296 : Nat) : Int)] = some (.int .u32 ((t % 4294967296 : Nat) : Int)) := d_conv32' (by omega) (by omega)

def CRMul (P : Program) : Prop := ∀ a b, WL a → WL b → a.length ≤ 4398046511103 → b.length ≤ 4398046511103 → PureCalls P F.penumbraref01_Mul [.one (nl a), .one (nl b)] [.one (nn (val a * val b))]
theorem wr_mul (c1 : CRNorm P) {A B : List Nat} (wa : WL A) (wb : WL B) (hla : A.length ≤ 4398046511103) (hlb : B.length ≤ 4398046511103) : IRwp P [] [nl A, nl B] ir_penumbraref01_Mul (· = [.one (nn (val A * val B))]) := by
  unfold ir_penumbraref01_Mul
  simp (disch := omega) only [STEP, Px.A.ev, List.map_cons, List.map_nil, List.getD_cons_zero, List.getD_cons_succ, List.cons_append, List.nil_append, List.append_nil, Option.isSome_some, Option.getD_some, true_and, Int.sub_zero, Int.toNat_zero, List.drop_zero, Int.toNat_natCast]
  refine loop_step (fun ds => ∃ (i : Int) (out : List Nat), ds = [nl A, nl B, .int .i64 i, nl out] ∧ 0 ≤ i ∧ i ≤ A.length ∧ WL out ∧ out.length = A.length + B.length + 1 ∧
    (∀ j, i.toNat + B.length ≤ j → out.getD j 0 = 0) ∧ val out = val (A.take i.toNat) * val B) (numf (fun i => (A.length - i).toNat) 2) ?_ ?_ ?_
  · refine ⟨0, List.replicate ((A.length : Int) + B.length + 1).toNat 0, rfl, by omega, by omega, WL.rep _, by simp; omega, fun j _ => ?_, ?_⟩
    · simp only [List.getD_eq_getElem?_getD, List.getElem?_replicate]; split <;> rfl
    · rw [val_rep]; simp [val]
  · rintro ds ⟨i, out, rfl, _⟩; rfl
  · rintro ds ⟨i, out, rfl, h0, h1, hw, hlo, hz, hv⟩
    simp (disch := omega) only [STEP, Px.A.ev, List.map_cons, List.map_nil, List.getD_cons_zero, List.getD_cons_succ, List.cons_append, List.nil_append, List.append_nil, Option.isSome_some, Option.getD_some, true_and, Int.sub_zero, Int.toNat_zero, List.drop_zero, Int.toNat_natCast]
    refine ite_step rfl ?_ ?_
    · intro hi
      have hx := wa.getD i.toNat
      refine loop_step (fun ds => ∃ (k : Int) (c : Nat) (out' : List Nat), ds = [nl A, nl B, .int .i64 i, .int .u64 c, .int .i64 k, nl out'] ∧ 0 ≤ k ∧ k ≤ B.length ∧ c < 4294967296 ∧ WL out' ∧ out'.length = A.length + B.length + 1 ∧
        (∀ j, i.toNat + B.length ≤ j → out'.getD j 0 = 0) ∧ val out' + (4294967296 ^ i.toNat * 4294967296 ^ k.toNat) * c = val out + 4294967296 ^ i.toNat * A.getD i.toNat 0 * val (B.take k.toNat)) (numf (fun k => (B.length - k).toNat) 4) ?_ ?_ ?_
      · exact ⟨0, 0, out, rfl, by omega, by omega, by omega, hw, hlo, hz, by simp [val]⟩
      · rintro ds ⟨k, c, out', rfl, _⟩; rfl
      · rintro ds ⟨k, c, out', rfl, g0, g1, gc, gw, glo, gz, gv⟩
        simp (disch := omega) only [STEP, Px.A.ev, List.map_cons, List.map_nil, List.getD_cons_zero, List.getD_cons_succ, List.cons_append, List.nil_append, List.append_nil, Option.isSome_some, Option.getD_some, true_and, Int.sub_zero, Int.toNat_zero, List.drop_zero, Int.toNat_natCast]
        refine ite_step rfl ?_ ?_
        · intro hk
          have hy := wb.getD k.toNat
          have ho := gw.getD (i + k).toNat
          have hm := mul_lt64 hx hy
          obtain ⟨xy, hxy⟩ : ∃ xy : Nat, xy = A.getD i.toNat 0 * B.getD k.toNat 0 := ⟨_, rfl⟩
          rw [← hxy] at hm
          have e1 : Prim.den (.bin .mul) [.int .u64 ((A.getD i.toNat 0 : Nat) : Int), .int .u64 ((B.getD k.toNat 0 : Nat) : Int)] = some (.int .u64 (xy : Int)) := by
            have : ((A.getD i.toNat 0 : Nat) : Int) * ((B.getD k.toNat 0 : Nat) : Int) = (xy : Int) := by rw [hxy]; simp
            rw [d_mulu (by omega) (by omega), this]
          have e4 : Prim.den (.bin .add) [.int .u64 ((xy : Int) + ((out'.getD (i + k).toNat 0 : Nat) : Int)), .int .u64 (c : Int)] = some (.int .u64 ((xy + out'.getD (i + k).toNat 0 + c : Nat) : Int)) := by
            rw [d_addu (by omega) (by omega)]; simp
          have e5 := d_quo32n (t := xy + out'.getD (i + k).toNat 0 + c) (by omega)
          simp (disch := omega) only [STEP, Px.A.ev, List.map_cons, List.map_nil, List.getD_cons_zero, List.getD_cons_succ, List.cons_append, List.nil_append, List.append_nil, Option.isSome_some, Option.getD_some, true_and, Int.sub_zero, Int.toNat_zero, List.drop_zero, Int.toNat_natCast, e1, d_rem32, d_c32, e4, e5]
          refine jump_step rfl ⟨⟨_, _, _, rfl, by omega, by omega, by omega, gw.set (Nat.mod_lt _ (by decide)), by simp [glo], fun j hj => ?_, ?_⟩, ?_⟩
          · rw [getD_set_ne (by omega)]; exact gz j hj
          · have hs := val_set (l := out') (j := (i + k).toNat) (x := (xy + out'.getD (i + k).toNat 0 + c) % 4294967296) (by omega)
            rw [show (i + k).toNat = i.toNat + k.toNat by omega, Nat.pow_add] at hs
            rw [show (k + 1).toNat = k.toNat + 1 by omega, val_take_getD, Nat.pow_succ]
            rw [show (i + k).toNat = i.toNat + k.toNat by omega] at *
            rw [hxy] at hs ⊢
            have := mul_step hs gv
            rw [← Nat.mul_assoc]
            exact this
          · show (B.length - (k + 1) : Int).toNat < (B.length - k : Int).toNat
            omega
        · intro hk
          have e2 : Prim.den (.conv .u32) [.int .u64 (c : Int)] = some (.int .u32 (c : Int)) := d_conv32' (by omega) (by omega)
          simp (disch := omega) only [STEP, Px.A.ev, List.map_cons, List.map_nil, List.getD_cons_zero, List.getD_cons_succ, List.cons_append, List.nil_append, List.append_nil, Option.isSome_some, Option.getD_some, true_and, Int.sub_zero, Int.toNat_zero, List.drop_zero, Int.toNat_natCast, e2]
          refine jump_step rfl ⟨⟨_, _, rfl, by omega, by omega, gw.set gc, by simp [glo], fun j hj => ?_, ?_⟩, ?_⟩
          · rw [getD_set_ne (by omega)]; exact gz j (by omega)
          · have hs := val_set (l := out') (j := (i + B.length).toNat) (x := c) (by omega)
            rw [gz _ (by omega), Nat.mul_zero, Nat.add_zero] at hs
            rw [hs, show (i + B.length).toNat = i.toNat + B.length by omega, Nat.pow_add]
            rw [show k.toNat = B.length by omega, List.take_length] at gv
            rw [gv, hv, show (i + 1).toNat = i.toNat + 1 by omega, val_take_getD]
            grind
          · show (A.length - (i + 1) : Int).toNat < (A.length - i : Int).toNat
            omega
    · intro hi
      refine call_step (c1 out hw (by omega)) rfl ?_
      refine ret_step ?_
      show [AV.one (nn (val out))] = _
      rw [hv, val_take_all (by omega)]

/-! ### Double, Half -/
def dbl_body : IR := match ir_penumbraref01_Double with
  | .prim _ _ (.ite _ (.loop _ b) _) => b
  | _ => .bad
theorem dbl_step {p vo va x c o : Nat} (h : vo + p * c = 2 * va + o) : vo + p * ((2 * x + c) % 4294967296) + p * 4294967296 * ((2 * x + c) / 4294967296) = 2 * (va + p * x) + o := by
  have h4 := Nat.mod_add_div (2 * x + c) 4294967296
  generalize (2 * x + c) % 4294967296 = r at *
  generalize (2 * x + c) / 4294967296 = q at *
  have h5 : p * (r + 4294967296 * q) = p * (2 * x + c) := by rw [h4]
  grind
theorem wr_dbl (c1 : CRNorm P) {a : List Nat} {o : Nat} (ha : WL a) (hla : a.length ≤ 4398046511103) (ho : o ≤ 1) {ρ : List DV} {inits : List Px.A} (hi : inits.map (Px.A.ev ρ) = [nl a, .int .u64 (o : Int), .int .i64 0, nl []]) :
    IRwp P [] ρ (.loop inits dbl_body) (· = [.one (nn (2 * val a + o))]) := by
  have hlen : inits.length = 4 := by have := congrArg List.length hi; simpa using this
  refine loop_step (fun ds => ∃ (i : Int) (c : Nat) (out : List Nat), ds = [nl a, .int .u64 (c : Int), .int .i64 i, nl out] ∧ 0 ≤ i ∧ i ≤ a.length ∧ c ≤ 1 ∧ WL out ∧ out.length = i.toNat ∧
    val out + 4294967296 ^ i.toNat * c = 2 * val (a.take i.toNat) + o) (numf (fun i => (a.length - i).toNat) 2) ?_ ?_ ?_
  · rw [hi]; exact ⟨0, o, [], rfl, by omega, by omega, ho, WL.nil, rfl, by simp [val]⟩
  · rintro ds ⟨i, c, out, rfl, _⟩; rw [hlen]; rfl
  · rintro ds ⟨i, c, out, rfl, h0, h1, hc, hw, hlo, hv⟩
    unfold dbl_body ir_penumbraref01_Double
    simp only
    simp (disch := omega) only [STEP, Px.A.ev, List.map_cons, List.map_nil, List.getD_cons_zero, List.getD_cons_succ, List.cons_append, List.nil_append, List.append_nil, Option.isSome_some, Option.getD_some, true_and, Int.sub_zero, Int.toNat_zero, List.drop_zero, Int.toNat_natCast]
    refine ite_step rfl ?_ ?_
    · intro hi
      have hx := ha.getD i.toNat
      have e4 : Prim.den (.bin .add) [.int .u64 (2 * ((a.getD i.toNat 0 : Nat) : Int)), .int .u64 (c : Int)] = some (.int .u64 ((2 * a.getD i.toNat 0 + c : Nat) : Int)) := by
        rw [d_addu (by omega) (by omega)]; simp
      have e5 := d_quo32n (t := 2 * a.getD i.toNat 0 + c) (by omega)
      simp (disch := omega) only [STEP, Px.A.ev, List.map_cons, List.map_nil, List.getD_cons_zero, List.getD_cons_succ, List.cons_append, List.nil_append, List.append_nil, Option.isSome_some, Option.getD_some, true_and, Int.sub_zero, Int.toNat_zero, List.drop_zero, Int.toNat_natCast, d_rem32, d_c32, e4, e5]
      refine jump_step rfl ⟨⟨_, _, _, rfl, by omega, by omega, by omega, hw.append (WL.single (Nat.mod_lt _ (by decide))), by simp [hlo]; omega, ?_⟩, ?_⟩
      · rw [show (i + 1).toNat = i.toNat + 1 by omega, val_take_getD, val_snoc, hlo, Nat.pow_succ]
        exact dbl_step hv
      · show (a.length - (i + 1) : Int).toNat < (a.length - i : Int).toNat
        omega
    · intro hi
      simp (disch := omega) only [STEP, Px.A.ev, List.map_cons, List.map_nil, List.getD_cons_zero, List.getD_cons_succ, List.cons_append, List.nil_append, List.append_nil, Option.isSome_some, Option.getD_some, true_and, Int.sub_zero, Int.toNat_zero, List.drop_zero, Int.toNat_natCast]
      refine call_step (c1 (out ++ [c]) (hw.append (WL.single (by omega))) (by simp; omega)) rfl ?_
      refine ret_step ?_
      show [AV.one (nn (val (out ++ [c])))] = _
      rw [val_snoc, hlo, hv, val_take_all (by omega)]

def CRDouble (P : Program) : Prop := ∀ a, WL a → a.length ≤ 4398046511103 → PureCalls P F.penumbraref01_Double [.one (nl a), .one (.bool false)] [.one (nn (2 * val a))]
theorem wr_double (c1 : CRNorm P) {a : List Nat} (ha : WL a) (hla : a.length ≤ 4398046511103) : IRwp P [] [nl a, .bool false] ir_penumbraref01_Double (· = [.one (nn (2 * val a))]) := by
  unfold ir_penumbraref01_Double
  simp (disch := omega) only [STEP, Px.A.ev, List.map_cons, List.map_nil, List.getD_cons_zero, List.getD_cons_succ, List.cons_append, List.nil_append, List.append_nil, Option.isSome_some, Option.getD_some, true_and, Int.sub_zero, Int.toNat_zero, List.drop_zero, Int.toNat_natCast]
  refine itb_step rfl ?_ ?_
  · intro h; cases h
  · intro _
    exact wr_dbl c1 (o := 0) ha hla (by omega) rfl

def CRHalf (P : Program) : Prop := ∀ a, WL a → a.length ≤ 4398046511103 → PureCalls P F.penumbraref01_Half [.one (nl a)] [.one (nn (val a / 2))]
theorem wr_half (c1 : CRNorm P) (c2 : CRLimb P) {a : List Nat} (ha : WL a) (hla : a.length ≤ 4398046511103) : IRwp P [] [nl a] ir_penumbraref01_Half (· = [.one (nn (val a / 2))]) := by
  unfold ir_penumbraref01_Half
  simp (disch := omega) only [STEP, Px.A.ev, List.map_cons, List.map_nil, List.getD_cons_zero, List.getD_cons_succ, List.cons_append, List.nil_append, List.append_nil, Option.isSome_some, Option.getD_some, true_and, Int.sub_zero, Int.toNat_zero, List.drop_zero, Int.toNat_natCast]
  refine loop_step (fun ds => ∃ (i : Int) (out : List Nat), ds = [nl a, .int .i64 i, nl out] ∧ 0 ≤ i ∧ i ≤ a.length ∧ WL out ∧ out.length = i.toNat ∧ val out = (val a / 2) % 4294967296 ^ i.toNat) (numf (fun i => (a.length - i).toNat) 1) ?_ ?_ ?_
  · exact ⟨0, [], rfl, by omega, by omega, WL.nil, rfl, by simp [val, Nat.mod_one]⟩
  · rintro ds ⟨i, out, rfl, _⟩; rfl
  · rintro ds ⟨i, out, rfl, h0, h1, hw, hlo, hv⟩
    simp (disch := omega) only [STEP, Px.A.ev, List.map_cons, List.map_nil, List.getD_cons_zero, List.getD_cons_succ, List.cons_append, List.nil_append, List.append_nil, Option.isSome_some, Option.getD_some, true_and, Int.sub_zero, Int.toNat_zero, List.drop_zero, Int.toNat_natCast]
    refine ite_step rfl ?_ ?_
    · intro hi
      have hx := ha.getD i.toNat
      have hh := ha.getD (i.toNat + 1)
      have g1 := val_getD_drop a i.toNat
      have g2 := val_getD_drop a (i.toNat + 1)
      rw [g2] at g1
      have key := shr_digit (V := val a) (p := 4294967296 ^ i.toNat) (n := 1) (m := 2) (by omega) rfl (Nat.pow_pos (by omega)) ((drop_val ha i.toNat).trans g1)
      have e6 : (i + 1).toNat = i.toNat + 1 := by omega
      have hl := c2 a (i + 1) ha (by omega)
      rw [e6] at hl
      simp (disch := omega) only [STEP, Px.A.ev, List.map_cons, List.map_nil, List.getD_cons_zero, List.getD_cons_succ, List.cons_append, List.nil_append, List.append_nil, Option.isSome_some, Option.getD_some, true_and, Int.sub_zero, Int.toNat_zero, List.drop_zero, Int.toNat_natCast]
      refine call_step hl rfl ?_
      obtain ⟨t, ht⟩ : ∃ t : Nat, t = (a.getD (i.toNat + 1) 0 % 2 * 4294967296 + a.getD i.toNat 0) / 2 := ⟨_, rfl⟩
      have e7 : Prim.den (.bin .quo) [.int .u64 (((a.getD (i.toNat + 1) 0 : Nat) : Int) % 2 * 4294967296 + ((a.getD i.toNat 0 : Nat) : Int)), .int .u64 2] = some (.int .u64 (t : Int)) := by
        rw [d_quou (by omega) (by omega) (by omega)]; congr 2; omega
      have htB : t < 4294967296 := by omega
      simp (disch := omega) only [STEP, Px.A.ev, List.map_cons, List.map_nil, List.getD_cons_zero, List.getD_cons_succ, List.cons_append, List.nil_append, List.append_nil, Option.isSome_some, Option.getD_some, true_and, Int.sub_zero, Int.toNat_zero, List.drop_zero, Int.toNat_natCast, d_remu, e7]
      refine jump_step rfl ⟨⟨_, _, rfl, by omega, by omega, hw.append (WL.single htB), by simp [hlo]; omega, ?_⟩, ?_⟩
      · rw [show (i + 1).toNat = i.toNat + 1 by omega, val_snoc, hlo, hv, Nat.mod_pow_succ, key, ht]
        congr 2
        omega
      · show (a.length - (i + 1) : Int).toNat < (a.length - i : Int).toNat
        omega
    · intro hi
      refine call_step (c1 out hw (by omega)) rfl ?_
      refine ret_step ?_
      show [AV.one (nn (val out))] = _
      rw [hv, Nat.mod_eq_of_lt]
      refine Nat.lt_of_le_of_lt (Nat.div_le_self _ _) ?_
      rw [show i.toNat = a.length by omega]
      exact val_lt ha

def CRAt (P : Program) : Prop := ∀ x p : Nat, x < 18446744073709551616 → p ≤ 4398046511103 → PureCalls P F.penumbraref01_at [.one (.int .u64 (x : Int)), .one (.int .i64 (p : Int))] [.one (nl (List.replicate p 0 ++ [x % 4294967296, x / 4294967296]))]
theorem wr_at {x p : Nat} (hx : x < 18446744073709551616) (hp : p ≤ 4398046511103) : IRwp P [] [.int .u64 (x : Int), .int .i64 (p : Int)] ir_penumbraref01_at (· = [.one (nl (List.replicate p 0 ++ [x % 4294967296, x / 4294967296]))]) := by
  unfold ir_penumbraref01_at
  have e3 : Prim.den (.conv .u32) [.int .u64 ((x / 4294967296 : Nat) : Int)] = some (.int .u32 ((x / 4294967296 : Nat) : Int)) := d_conv32' (by omega) (by omega)
  have e4 : Prim.den (.app 1 4) [nl (List.replicate p 0), nl [x % 4294967296, x / 4294967296]] = some (nl (List.replicate p 0 ++ [x % 4294967296, x / 4294967296])) := den_app (by simp; omega)
  have e5 := d_quo32n hx
  simp (disch := omega) only [STEP, Px.A.ev, List.map_cons, List.map_nil, List.getD_cons_zero, List.getD_cons_succ, List.cons_append, List.nil_append, List.append_nil, Option.isSome_some, Option.getD_some, true_and, Int.sub_zero, Int.toNat_zero, List.drop_zero, Int.toNat_natCast, d_rem32, d_c32, e3, e4, e5]
  exact ret_step rfl
theorem val_at (x p : Nat) : val (List.replicate p 0 ++ [x % 4294967296, x / 4294967296]) = x * 4294967296 ^ p := by
  rw [val_append, val_rep, List.length_replicate]
  have : val [x % 4294967296, x / 4294967296] = x := by simp only [val]; omega
  rw [this, Nat.zero_add, Nat.mul_comm]

end Go.Px.Na

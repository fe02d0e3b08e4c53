/- Na3: stepping through trees. -/
import Derived.Test.YtgnhhdgepnfnmaaNa2
set_option linter.unusedSimpArgs false
set_option linter.unusedVariables false
namespace Go.Px.Na
variable {P : Program} {As : List (List DV → Prop)} {ρ : List DV} {Q : List AV → Prop}

theorem IRwp_prim {p : Prim} {args : List A} {k : IR} : IRwp P As ρ (.prim p args k) Q = ((p.den (args.map (A.ev ρ))).isSome = true ∧ IRwp P As (ρ ++ [(p.den (args.map (A.ev ρ))).getD (.bool false)]) k Q) := by
  rw [IRwp]
  apply propext
  constructor
  · rintro ⟨d, hd, h⟩; rw [hd]; exact ⟨rfl, h⟩
  · rintro ⟨hd, h⟩
    obtain ⟨d, hd'⟩ := Option.isSome_iff_exists.1 hd
    rw [hd'] at h; exact ⟨d, hd', h⟩
theorem call_step {g : FuncId} {args : List Arg} {shp : List Shp} {k : IR} {res : List AV} (h : PureCalls P g (args.map (Arg.ev ρ)) res) (hf : fitAll shp res = true) (hk : IRwp P As (ρ ++ flatAll res) k Q) : IRwp P As ρ (.call g args shp k) Q := by
  rw [IRwp]; exact ⟨res, h, hf, hk⟩
theorem ite_step {a : A} {x y : IR} {b : Prop} [Decidable b] (h : a.ev ρ = .bool (decide b)) (hx : b → IRwp P As ρ x Q) (hy : ¬b → IRwp P As ρ y Q) : IRwp P As ρ (.ite a x y) Q := by
  rw [IRwp]; exact ⟨decide b, h, fun hb => hx (by simpa using hb), fun hb => hy (by simpa using hb)⟩
theorem itb_step {a : A} {x y : IR} {b : Bool} (h : a.ev ρ = .bool b) (hx : b = true → IRwp P As ρ x Q) (hy : b = false → IRwp P As ρ y Q) : IRwp P As ρ (.ite a x y) Q := by
  rw [IRwp]; exact ⟨b, h, hx, hy⟩
theorem nilq_step {a : A} {k : IR} {n : Nat} {cells : List DV} (h : a.ev ρ = .list n cells) (hk : ∀ b, (b = true → cells = []) → IRwp P As (ρ ++ [.bool b]) k Q) : IRwp P As ρ (.nilq a k) Q := by
  rw [IRwp]; exact ⟨⟨n, cells, h⟩, fun b hb => hk b fun hb' => by obtain ⟨m, hm⟩ := hb hb'; rw [h] at hm; cases hm; rfl⟩
theorem ret_step {vals : List Arg} (h : Q (vals.map (Arg.ev ρ))) : IRwp P As ρ (.ret vals) Q := by rw [IRwp]; exact h
theorem jump_step {d : Nat} {vals : List A} {X : List DV → Prop} (h : As[d]? = some X) (hx : X (vals.map (A.ev ρ))) : IRwp P As ρ (.jump d vals) Q := by rw [IRwp]; exact ⟨X, h, hx⟩
theorem loop_step {inits : List A} {body : IR} (I : List DV → Prop) (μ : List DV → Nat) (h0 : I (inits.map (A.ev ρ))) (hl : ∀ ds, I ds → ds.length = inits.length)
    (hb : ∀ ds, I ds → IRwp P (As ++ [fun ds' => I ds' ∧ μ ds' < μ ds]) ds body Q) : IRwp P As ρ (.loop inits body) Q := by rw [IRwp]; exact ⟨I, μ, h0, hl, hb⟩
theorem join_step {inner after : IR} (J : List DV → Prop) (h1 : IRwp P (As ++ [J]) ρ inner Q) (h2 : ∀ ds, J ds → IRwp P As ds after Q) : IRwp P As ρ (.join inner after) Q := by rw [IRwp]; exact ⟨J, h1, h2⟩

/-- The loop's number, by a measure of what its variables hold. -/
def num (i : Nat) (ds : List DV) : Nat := match ds[i]? with | some (.int _ n) => n.toNat | _ => 0
theorem num_int {ds : List DV} {i : Nat} {k : IntKind} {n : Int} (h : ds[i]? = some (.int k n)) : num i ds = n.toNat := by unfold num; rw [h]

theorem fa_nil : flatAll [] = [] := rfl
theorem fa_one {d : DV} {r : List AV} : flatAll (.one d :: r) = d :: flatAll r := by simp [flatAll, AV.flat]
theorem fa_agg {ds : List DV} {r : List AV} : flatAll (.agg ds :: r) = ds ++ flatAll r := by simp [flatAll, AV.flat]
theorem fa_own {s E n : Nat} {cells : List DV} {r : List AV} : flatAll (.own s E n cells :: r) = .list n cells :: flatAll r := by simp [flatAll, AV.flat]

theorem d_add64 {a b : Int} (h0 : -9223372036854775808 ≤ a + b) (h1 : a + b < 9223372036854775808) : Prim.den (.bin .add) [.int .i64 a, .int .i64 b] = some (.int .i64 (a + b)) := by simp [Prim.den, Prim.bin1, binInt, wi64 h0 h1]
theorem d_sub64 {a b : Int} (h0 : -9223372036854775808 ≤ a - b) (h1 : a - b < 9223372036854775808) : Prim.den (.bin .sub) [.int .i64 a, .int .i64 b] = some (.int .i64 (a - b)) := by simp [Prim.den, Prim.bin1, binInt, wi64 h0 h1]
theorem d_mul64 {a b : Int} (h0 : -9223372036854775808 ≤ a * b) (h1 : a * b < 9223372036854775808) : Prim.den (.bin .mul) [.int .i64 a, .int .i64 b] = some (.int .i64 (a * b)) := by simp [Prim.den, Prim.bin1, binInt, wi64 h0 h1]
theorem d_quo64 {a b : Int} (ha0 : 0 ≤ a) (ha : a < 9223372036854775808) (hb : 0 < b) : Prim.den (.bin .quo) [.int .i64 a, .int .i64 b] = some (.int .i64 (a / b)) := by
  have h1 : a / b ≤ a := Int.ediv_le_self b ha0
  have h2 : 0 ≤ a / b := Int.ediv_nonneg ha0 (by omega)
  simp only [Prim.den, Prim.bin1, binInt]
  rw [if_neg (by simp), if_neg (by omega), Int.tdiv_eq_ediv_of_nonneg ha0, wi64 (by omega) (by omega)]
theorem d_rem64 {a b : Int} (ha0 : 0 ≤ a) (hb : 0 < b) : Prim.den (.bin .rem) [.int .i64 a, .int .i64 b] = some (.int .i64 (a % b)) := by
  simp only [Prim.den, Prim.bin1, binInt]
  rw [if_neg (by simp), if_neg (by omega), Int.tmod_eq_emod_of_nonneg ha0]
theorem d_addu {a b : Int} (h0 : 0 ≤ a + b) (h1 : a + b < 18446744073709551616) : Prim.den (.bin .add) [.int .u64 a, .int .u64 b] = some (.int .u64 (a + b)) := by simp [Prim.den, Prim.bin1, binInt, wu64 h0 h1]
theorem d_subu {a b : Int} (h0 : 0 ≤ a - b) (h1 : a - b < 18446744073709551616) : Prim.den (.bin .sub) [.int .u64 a, .int .u64 b] = some (.int .u64 (a - b)) := by simp [Prim.den, Prim.bin1, binInt, wu64 h0 h1]
theorem d_mulu {a b : Int} (h0 : 0 ≤ a * b) (h1 : a * b < 18446744073709551616) : Prim.den (.bin .mul) [.int .u64 a, .int .u64 b] = some (.int .u64 (a * b)) := by simp [Prim.den, Prim.bin1, binInt, wu64 h0 h1]
theorem d_quou {a b : Int} (ha0 : 0 ≤ a) (ha : a < 18446744073709551616) (hb : 0 < b) : Prim.den (.bin .quo) [.int .u64 a, .int .u64 b] = some (.int .u64 (a / b)) := by
  have h1 : a / b ≤ a := Int.ediv_le_self b ha0
  have h2 : 0 ≤ a / b := Int.ediv_nonneg ha0 (by omega)
  simp only [Prim.den, Prim.bin1, binInt]
  rw [if_neg (by simp), if_neg (by omega), Int.tdiv_eq_ediv_of_nonneg ha0, wu64 (by omega) (by omega)]
theorem d_remu {a b : Int} (ha0 : 0 ≤ a) (hb : 0 < b) : Prim.den (.bin .rem) [.int .u64 a, .int .u64 b] = some (.int .u64 (a % b)) := by
  simp only [Prim.den, Prim.bin1, binInt]
  rw [if_neg (by simp), if_neg (by omega), Int.tmod_eq_emod_of_nonneg ha0]
theorem d_quo32 {a b : Int} (ha0 : 0 ≤ a) (ha : a < 4294967296) (hb : 0 < b) : Prim.den (.bin .quo) [.int .u32 a, .int .u32 b] = some (.int .u32 (a / b)) := by
  have h1 : a / b ≤ a := Int.ediv_le_self b ha0
  have h2 : 0 ≤ a / b := Int.ediv_nonneg ha0 (by omega)
  simp only [Prim.den, Prim.bin1, binInt]
  rw [if_neg (by simp), if_neg (by omega), Int.tdiv_eq_ediv_of_nonneg ha0, wu32 (by omega) (by omega)]
theorem d_add32 {a b : Int} : Prim.den (.bin .add) [.int .u32 a, .int .u32 b] = some (.int .u32 ((a + b) % 4294967296)) := by simp [Prim.den, Prim.bin1, binInt, wu32']
theorem d_sub32 {a b : Int} : Prim.den (.bin .sub) [.int .u32 a, .int .u32 b] = some (.int .u32 ((a - b) % 4294967296)) := by simp [Prim.den, Prim.bin1, binInt, wu32']
theorem d_lss {k : IntKind} {a b : Int} : Prim.den (.bin .lss) [.int k a, .int k b] = some (.bool (decide (a < b))) := by simp [Prim.den, Prim.bin1, binInt]
theorem d_leq {k : IntKind} {a b : Int} : Prim.den (.bin .leq) [.int k a, .int k b] = some (.bool (decide (a ≤ b))) := by simp [Prim.den, Prim.bin1, binInt]
theorem d_gtr {k : IntKind} {a b : Int} : Prim.den (.bin .gtr) [.int k a, .int k b] = some (.bool (decide (b < a))) := by simp [Prim.den, Prim.bin1, binInt]
theorem d_geq {k : IntKind} {a b : Int} : Prim.den (.bin .geq) [.int k a, .int k b] = some (.bool (decide (b ≤ a))) := by simp [Prim.den, Prim.bin1, binInt]
theorem d_eql {k : IntKind} {a b : Int} : Prim.den (.bin .eql) [.int k a, .int k b] = some (.bool (decide (a = b))) := by simp [Prim.den, Prim.bin1, binInt, Bool.beq_eq_decide_eq]
theorem d_neq {k : IntKind} {a b : Int} : Prim.den (.bin .neq) [.int k a, .int k b] = some (.bool (decide (a ≠ b))) := by
  simp only [Prim.den, Prim.bin1, binInt]; rw [if_neg (by simp)]; simp [bne, Bool.beq_eq_decide_eq]
theorem d_shr32 {k k' : IntKind} {a : Int} (hk : k.bits = 64) : Prim.den (.bin .shr) [.int k a, .int k' 32] = some (.int k (a / 4294967296)) := by
  simp only [Prim.den, Prim.bin1, binInt]
  rw [if_neg (by omega), hk, show (2 : Int) ^ (min (32 : Int).toNat 64) = 4294967296 by decide, Int.fdiv_eq_ediv_of_nonneg _ (by omega)]
theorem d_shl32 {k' : IntKind} {a : Int} (h0 : 0 ≤ a) (h1 : a < 4294967296) : Prim.den (.bin .shl) [.int .u64 a, .int k' 32] = some (.int .u64 (a * 4294967296)) := by
  simp only [Prim.den, Prim.bin1, binInt]
  rw [if_neg (by omega), show (2 : Int) ^ (min (32 : Int).toNat IntKind.u64.bits) = 4294967296 by decide, wu64 (by omega) (by omega)]
theorem d_conv32 {k : IntKind} {a : Int} : Prim.den (.conv .u32) [.int k a] = some (.int .u32 (a % 4294967296)) := by simp [Prim.den, wu32']
theorem d_conv32' {k : IntKind} {a : Int} (h0 : 0 ≤ a) (h1 : a < 4294967296) : Prim.den (.conv .u32) [.int k a] = some (.int .u32 a) := by simp [Prim.den, wu32 h0 h1]
theorem d_conv64 {k : IntKind} {a : Int} (h0 : 0 ≤ a) (h1 : a < 18446744073709551616) : Prim.den (.conv .u64) [.int k a] = some (.int .u64 a) := by simp [Prim.den, wu64 h0 h1]
theorem d_convi {k : IntKind} {a : Int} (h0 : -9223372036854775808 ≤ a) (h1 : a < 9223372036854775808) : Prim.den (.conv .i64) [.int k a] = some (.int .i64 a) := by simp [Prim.den, wi64 h0 h1]
theorem d_not {b : Bool} : Prim.den .not [.bool b] = some (.bool !b) := rfl
theorem d_beqf {a b : Bool} : Prim.den (.beq false) [.bool a, .bool b] = some (.bool (a == b)) := rfl
theorem d_beqt {a b : Bool} : Prim.den (.beq true) [.bool a, .bool b] = some (.bool !(a == b)) := rfl
theorem d_max {a b : Int} : Prim.den .max2 [.int .i64 a, .int .i64 b] = some (.int .i64 (if b > a then b else a)) := rfl
theorem ev_nil {ρ : List DV} : A.ev ρ .nil = nl [] := rfl

/-- What steps through primitives. -/
theorem STEP : type_of% (And.intro @IRwp_prim (And.intro @fa_nil (And.intro @fa_one (And.intro @fa_agg (And.intro @fa_own (And.intro @den_len (And.intro @den_inb (And.intro @den_get (And.intro @den_slc (And.intro @den_cut (And.intro @den_lt0 (And.intro @den_sum (And.intro @den_app1 (And.intro @den_app0 (And.intro @den_app (And.intro @den_setl (And.intro @den_make (And.intro @den_mk0 (And.intro @den_mk1 (And.intro @den_mk2 (And.intro @d_add64 (And.intro @d_sub64 (And.intro @d_mul64 (And.intro @d_quo64 (And.intro @d_rem64 (And.intro @d_addu (And.intro @d_subu (And.intro @d_mulu (And.intro @d_quo32 (And.intro @d_lss (And.intro @d_leq (And.intro @d_gtr (And.intro @d_geq (And.intro @d_eql (And.intro @d_neq (And.intro @d_shl32 (And.intro @d_conv32' (And.intro @d_conv64 (And.intro @d_convi (And.intro @d_not (And.intro @d_beqf (And.intro @d_beqt (And.intro @d_max (And.intro @ev_nil (@val_limbs))))))))))))))))))))))))))))))))))))))))))))) := And.intro @IRwp_prim (And.intro @fa_nil (And.intro @fa_one (And.intro @fa_agg (And.intro @fa_own (And.intro @den_len (And.intro @den_inb (And.intro @den_get (And.intro @den_slc (And.intro @den_cut (And.intro @den_lt0 (And.intro @den_sum (And.intro @den_app1 (And.intro @den_app0 (And.intro @den_app (And.intro @den_setl (And.intro @den_make (And.intro @den_mk0 (And.intro @den_mk1 (And.intro @den_mk2 (And.intro @d_add64 (And.intro @d_sub64 (And.intro @d_mul64 (And.intro @d_quo64 (And.intro @d_rem64 (And.intro @d_addu (And.intro @d_subu (And.intro @d_mulu (And.intro @d_quo32 (And.intro @d_lss (And.intro @d_leq (And.intro @d_gtr (And.intro @d_geq (And.intro @d_eql (And.intro @d_neq (And.intro @d_shl32 (And.intro @d_conv32' (And.intro @d_conv64 (And.intro @d_convi (And.intro @d_not (And.intro @d_beqf (And.intro @d_beqt (And.intro @d_max (And.intro @ev_nil (@val_limbs))))))))))))))))))))))))))))))))))))))))))))
/-- What flattens results. -/
theorem GG : type_of% (And.intro @fa_agg (And.intro @fa_one (@fa_nil))) := And.intro @fa_agg (And.intro @fa_one (@fa_nil))
end Go.Px.Na

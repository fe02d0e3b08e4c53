/- Vs0: sums of threes of numbers. -/
import Derived.Test.YtnohcccgfefnkaaGreatLv
import Derived.Test.YtnohcccgfefnkaaGreatTr1
set_option maxRecDepth 10000
set_option maxHeartbeats 4000000
set_option linter.unusedSimpArgs false
set_option linter.unusedVariables false
namespace Go.Px.Na
open Go.RowKit
open Go.Proofs.Tryz (prog)

theorem k_vOf (x y z : Int) (h0 : -9223372036854775808 ≤ x) (h1 : x < 9223372036854775808) (h2 : -9223372036854775808 ≤ y) (h3 : y < 9223372036854775808) (h4 : -9223372036854775808 ≤ z) (h5 : z < 9223372036854775808) : PureCalls prog F.vec_Of [.one (.int .i64 x), .one (.int .i64 y), .one (.int .i64 z)] [.agg (r3 (ofQ x 1) (ofQ y 1) (ofQ z 1))] := by
  refine symFunc_sound hmix tree_vec_Of (by kernel_rfl) rfl ?_
  unfold ir_vec_Of
  simp only [FF, VV, List.cons_append, List.nil_append, List.append_nil]
  refine call_step (c_ofQ x 1 h0 h1 (by decide) (by decide)) rfl ?_
  simp only [FF, VV, List.cons_append, List.nil_append, List.append_nil]
  refine call_step (c_ofQ y 1 h2 h3 (by decide) (by decide)) rfl ?_
  simp only [FF, VV, List.cons_append, List.nil_append, List.append_nil]
  refine call_step (c_ofQ z 1 h4 h5 (by decide) (by decide)) rfl ?_
  simp only [FF, VV, List.cons_append, List.nil_append, List.append_nil]
  exact ret_step rfl

theorem kr_vOf (x y z : Int) (h0 : -9223372036854775808 ≤ x) (h1 : x < 9223372036854775808) (h2 : -9223372036854775808 ≤ y) (h3 : y < 9223372036854775808) (h4 : -9223372036854775808 ≤ z) (h5 : z < 9223372036854775808) : PureCalls prog F.penumbraref05_Of [.one (.int .i64 x), .one (.int .i64 y), .one (.int .i64 z)] [.agg (r3 (ofQ x 1) (ofQ y 1) (ofQ z 1))] := by
  refine symFunc_sound hmix tree_penumbraref05_Of (by kernel_rfl) rfl ?_
  unfold ir_penumbraref05_Of
  simp only [FF, VV, List.cons_append, List.nil_append, List.append_nil]
  refine call_step (cr_ofQ x 1 h0 h1 (by decide) (by decide)) rfl ?_
  simp only [FF, VV, List.cons_append, List.nil_append, List.append_nil]
  refine call_step (cr_ofQ y 1 h2 h3 (by decide) (by decide)) rfl ?_
  simp only [FF, VV, List.cons_append, List.nil_append, List.append_nil]
  refine call_step (cr_ofQ z 1 h4 h5 (by decide) (by decide)) rfl ?_
  simp only [FF, VV, List.cons_append, List.nil_append, List.append_nil]
  exact ret_step rfl

theorem rl3_get : ∀ {l : List (RR × RR × RR)} {i : Nat} {x : RR × RR × RR} (k : Nat), l[i]? = some x → k < 9 → (l.flatMap fun x => v3 x.1 x.2.1 x.2.2)[i * 9 + k]? = (v3 x.1 x.2.1 x.2.2)[k]?
  | [], i, r, k, h, _ => by simp at h
  | s :: q, 0, r, k, h, hk => by
    simp at h; subst h
    simp only [List.flatMap_cons, Nat.zero_mul, Nat.zero_add]
    rw [List.getElem?_append_left (by simpa [v3] using hk)]
  | s :: q, i + 1, r, k, h, hk => by
    simp only [List.flatMap_cons]
    rw [List.getElem?_append_right (by simp [v3]; omega)]
    have := rl3_get (l := q) (i := i) k (by simpa using h) hk
    rw [← this]; congr 1; simp [v3]; omega
theorem rl3_len (l : List (RR × RR × RR)) : (l.flatMap fun x => v3 x.1 x.2.1 x.2.2).length = l.length * 9 := by
  induction l with
  | nil => rfl
  | cons r q ih => simp only [List.flatMap_cons, List.length_append, ih, List.length_cons]; simp [v3]; omega
theorem d_len9 (l : List (RR × RR × RR)) : Prim.den .len [rl3 l] = some (.int .i64 (l.length : Int)) := rfl
theorem d_inb9 {l : List (RR × RR × RR)} {k : IntKind} {i : Int} (h0 : 0 ≤ i) (h1 : i < l.length) : Prim.den (.inb 9) [rl3 l, .int k i] = some (.bool true) := by
  simp only [rl3, Prim.den, rl3_len]
  rw [if_pos ⟨h0, h1, by omega⟩]
theorem d_get9 {l : List (RR × RR × RR)} {k : IntKind} {i : Int} {a b c : RR} (h0 : 0 ≤ i) (h : l[i.toNat]? = some (a, b, c)) (o : Nat) (ho : o < 9) : Prim.den (.get 9 o) [rl3 l, .int k i] = (v3 a b c)[o]? := by
  have hlt := (List.getElem?_eq_some_iff.1 h).1
  simp only [rl3, Prim.den]
  rw [if_pos ⟨h0, by omega⟩, rl3_get o h ho]

def vs0 (l : List (RR × RR × RR)) : Rat := l.foldl (fun a x => a + x.1.v) 0
def vs1 (l : List (RR × RR × RR)) : Rat := l.foldl (fun a x => a + x.2.1.v) 0
def vs2 (l : List (RR × RR × RR)) : Rat := l.foldl (fun a x => a + x.2.2.v) 0
theorem vs_succ {l : List (RR × RR × RR)} {i : Nat} {a b c : RR} (h : l[i]? = some (a, b, c)) : vs0 (l.take (i + 1)) = vs0 (l.take i) + a.v ∧ vs1 (l.take (i + 1)) = vs1 (l.take i) + b.v ∧ vs2 (l.take (i + 1)) = vs2 (l.take i) + c.v := by
  unfold vs0 vs1 vs2
  rw [List.take_add_one, h]; simp

theorem c_vsum {l : List (RR × RR × RR)} (hl : l.length ≤ 1000000) (hr : ∀ x ∈ l, x.1.ok LL ∧ x.2.1.ok LL ∧ x.2.2.ok LL) (hs : ∀ k, Sm LL (vs0 (l.take k)) ∧ Sm LL (vs1 (l.take k)) ∧ Sm LL (vs2 (l.take k))) :
    PureCalls prog F.vec_Sum [.one (rl3 l)] [.agg (r3 (vs0 l) (vs1 l) (vs2 l))] := by
  refine symFunc_sound hmix tree_vec_Sum (by kernel_rfl) rfl ?_
  unfold ir_vec_Sum
  have k0 := k_vOf 0 0 0 (by decide) (by decide) (by decide) (by decide) (by decide) (by decide)
  rw [show ofQ 0 1 = 0 by decide +kernel] at k0
  simp only [FF, VV, List.cons_append, List.nil_append, List.append_nil]
  refine call_step k0 rfl ?_
  simp only [FF, VV, List.cons_append, List.nil_append, List.append_nil]
  simp (disch := omega) only [STP, d_len9]
  refine loop_step (fun ds => ∃ (i : Int) (x y z : Rat), ds = [rl3 l, .int .i64 l.length, .int .i64 i, .bool (decide (x.num < 0)), nn x.num.natAbs, nn x.den, .bool (decide (y.num < 0)), nn y.num.natAbs, nn y.den, .bool (decide (z.num < 0)), nn z.num.natAbs, nn z.den] ∧
    0 ≤ i ∧ i ≤ l.length ∧ x = vs0 (l.take i.toNat) ∧ y = vs1 (l.take i.toNat) ∧ z = vs2 (l.take i.toNat)) (numf (fun i => (l.length - i).toNat) 2) ?_ ?_ ?_
  · exact ⟨0, 0, 0, 0, rfl, by omega, by omega, by simp [vs0], by simp [vs1], by simp [vs2]⟩
  · rintro ds ⟨i, x, y, z, rfl, _⟩; rfl
  · rintro ds ⟨i, x, y, z, rfl, h0, h1, hx, hy, hz⟩
    simp (disch := omega) only [STP]
    refine ite_step rfl ?_ ?_
    · intro hi
      obtain ⟨⟨a, b, c⟩, hre⟩ : ∃ r, l[i.toNat]? = some r := ⟨_, List.getElem?_eq_getElem (by omega)⟩
      obtain ⟨oa, ob, oc⟩ := hr _ (List.mem_of_getElem? hre)
      obtain ⟨sx, sy, sz⟩ := hs i.toNat
      rw [← hx] at sx
      rw [← hy] at sy
      rw [← hz] at sz
      obtain ⟨n0, n1, n2⟩ := vs_succ hre
      have g := fun o ho => d_get9 (k := .i64) h0 hre o ho
      refine primS (.bool true) (d_inb9 h0 hi) ?_
      refine primS (.bool a.neg) (g 0 (by omega)) ?_
      refine primS (nl a.num) (g 1 (by omega)) ?_
      refine primS (nl a.den) (g 2 (by omega)) ?_
      refine primS (.bool b.neg) (g 3 (by omega)) ?_
      refine primS (nl b.num) (g 4 (by omega)) ?_
      refine primS (nl b.den) (g 5 (by omega)) ?_
      refine primS (.bool c.neg) (g 6 (by omega)) ?_
      refine primS (nl c.num) (g 7 (by omega)) ?_
      refine primS (nl c.den) (g 8 (by omega)) ?_
      simp only [FF, VV, List.cons_append, List.nil_append, List.append_nil]
      have k1 := k_sumR2 (cr_ok sx) oa
      have k2 := k_sumR2 (cr_ok sy) ob
      have k3 := k_sumR2 (cr_ok sz) oc
      simp only [cr_v] at k1 k2 k3
      refine primS (rl [cr x, a]) rfl ?_
      refine call_step k1 rfl ?_
      simp only [FF, VV, List.cons_append, List.nil_append, List.append_nil]
      refine primS (rl [cr y, b]) rfl ?_
      refine call_step k2 rfl ?_
      simp only [FF, VV, List.cons_append, List.nil_append, List.append_nil]
      refine primS (rl [cr z, c]) rfl ?_
      refine call_step k3 rfl ?_
      simp only [FF, VV, List.cons_append, List.nil_append, List.append_nil]
      refine primS (.int .i64 (i + 1)) (d_add64 (by omega) (by omega)) ?_
      refine jump_step rfl ⟨⟨i + 1, x + a.v, y + b.v, z + c.v, rfl, by omega, by omega, ?_, ?_, ?_⟩, ?_⟩
      · rw [show (i + 1).toNat = i.toNat + 1 by omega, n0, hx]
      · rw [show (i + 1).toNat = i.toNat + 1 by omega, n1, hy]
      · rw [show (i + 1).toNat = i.toNat + 1 by omega, n2, hz]
      · show ((l.length : Int) - (i + 1)).toNat < ((l.length : Int) - i).toNat
        omega
    · intro hi
      rw [List.take_of_length_le (by omega)] at hx hy hz
      rw [← hx, ← hy, ← hz]
      exact ret_step rfl
theorem k_vsum2 {a0 a1 a2 b0 b1 b2 : RR} (ha0 : a0.ok 9000000000) (ha1 : a1.ok 9000000000) (ha2 : a2.ok 9000000000) (hb0 : b0.ok 9000000000) (hb1 : b1.ok 9000000000) (hb2 : b2.ok 9000000000) :
    PureCalls prog F.vec_Sum [.one (rl3 [(a0, a1, a2), (b0, b1, b2)])] [.agg (r3 (a0.v + b0.v) (a1.v + b1.v) (a2.v + b2.v))] := by
  have s0 : Sm 9000000000 a0.v := ha0.sm (by decide)
  have s1 : Sm 9000000000 a1.v := ha1.sm (by decide)
  have s2 : Sm 9000000000 a2.v := ha2.sm (by decide)
  have t0 : Sm 9000000000 b0.v := hb0.sm (by decide)
  have t1 : Sm 9000000000 b1.v := hb1.sm (by decide)
  have t2 : Sm 9000000000 b2.v := hb2.sm (by decide)
  have h := c_vsum (l := [(a0, a1, a2), (b0, b1, b2)]) (by simp) (fun x hx => by
    rcases List.mem_cons.1 hx with rfl | hx
    · exact ⟨ha0.mono (by decide), ha1.mono (by decide), ha2.mono (by decide)⟩
    · rcases List.mem_cons.1 hx with rfl | hx
      · exact ⟨hb0.mono (by decide), hb1.mono (by decide), hb2.mono (by decide)⟩
      · cases hx) (fun k => by
    match k with
    | 0 => exact ⟨Sm0.mono (by decide), Sm0.mono (by decide), Sm0.mono (by decide)⟩
    | 1 =>
      simp only [vs0, vs1, vs2, List.take, List.foldl, Rat.zero_add]
      exact ⟨s0.mono (by decide), s1.mono (by decide), s2.mono (by decide)⟩
    | k + 2 =>
      simp only [vs0, vs1, vs2, List.take_succ_cons, List.take_nil, List.foldl, Rat.zero_add]
      exact ⟨(s0.add t0).mono (by decide), (s1.add t1).mono (by decide), (s2.add t2).mono (by decide)⟩)
  simpa only [vs0, vs1, vs2, List.foldl, Rat.zero_add] using h
end Go.Px.Na

/- Lc: RatCanon: the answers are canonical, and stay when the arguments' naturals are written over. -/
import Derived.Test.YtiachglkkfiidaaLf3
set_option maxRecDepth 10000
set_option linter.unusedSimpArgs false
set_option linter.unusedVariables false
namespace Go.Px.Na
open Go.RowKit
open Go.Proofs.Try (prog)

theorem f_sum1 {r : RR} (hr : r.ok LL) : FreshCalls prog F.rat_Sum [.one (rl [r])] [.agg (rd r.v)] := by
  have h1 : Sm LL r.v := hr.sm (by decide)
  have h := f_sum [r] (by simp) (fun x hx => by
    rcases List.mem_cons.1 hx with rfl | hx
    · exact okK hr
    · cases hx) (fun k => by
    match k with
    | 0 => exact Sm0.mono (by decide)
    | k + 1 => simp only [sumL, List.take_succ_cons, List.take_nil, List.foldl, Rat.zero_add]; exact h1.mono (by decide))
  simpa only [sumL, List.foldl, Rat.zero_add] using h
theorem f_sum2 {r s : RR} (hr : r.ok LL) (hs : s.ok LL) : FreshCalls prog F.rat_Sum [.one (rl [r, s])] [.agg (rd (r.v + s.v))] := by
  have h1 : Sm LL r.v := hr.sm (by decide)
  have h2 : Sm LL s.v := hs.sm (by decide)
  have h := f_sum [r, s] (by simp) (fun x hx => by
    rcases List.mem_cons.1 hx with rfl | hx
    · exact okK hr
    · rcases List.mem_cons.1 hx with rfl | hx
      · exact okK hs
      · cases hx) (fun k => by
    match k with
    | 0 => exact Sm0.mono (by decide)
    | 1 => simp only [sumL, List.take, List.foldl, Rat.zero_add]; exact h1.mono (by decide)
    | k + 2 => simp only [sumL, List.take_succ_cons, List.take_nil, List.foldl, Rat.zero_add]; exact (h1.add h2).mono (by decide))
  simpa only [sumL, List.foldl, Rat.zero_add] using h
theorem f_prod1 {r : RR} (hr : r.ok LL) : FreshCalls prog F.rat_Product [.one (rl [r])] [.agg (rd r.v)] := by
  have h1 : Sm LL r.v := hr.sm (by decide)
  have h := f_product [r] (by simp) (fun x hx => by
    rcases List.mem_cons.1 hx with rfl | hx
    · exact okK hr
    · cases hx) (fun k => by
    match k with
    | 0 => exact Sm1.mono (by decide)
    | k + 1 => simp only [prodL, List.take_succ_cons, List.take_nil, List.foldl, Rat.one_mul]; exact h1.mono (by decide))
  simpa only [prodL, List.foldl, Rat.one_mul] using h
theorem f_prod2 {r s : RR} (hr : r.ok LL) (hs : s.ok LL) : FreshCalls prog F.rat_Product [.one (rl [r, s])] [.agg (rd (r.v * s.v))] := by
  have h1 : Sm LL r.v := hr.sm (by decide)
  have h2 : Sm LL s.v := hs.sm (by decide)
  have h := f_product [r, s] (by simp) (fun x hx => by
    rcases List.mem_cons.1 hx with rfl | hx
    · exact okK hr
    · rcases List.mem_cons.1 hx with rfl | hx
      · exact okK hs
      · cases hx) (fun k => by
    match k with
    | 0 => exact Sm1.mono (by decide)
    | 1 => simp only [prodL, List.take, List.foldl, Rat.one_mul]; exact h1.mono (by decide)
    | k + 2 => simp only [prodL, List.take_succ_cons, List.take_nil, List.foldl, Rat.one_mul]; exact (h1.mul h2).mono (by decide))
  simpa only [prodL, List.foldl, Rat.one_mul] using h

theorem d_app3 {l m : List RR} (h : (l.length + m.length) * 56 ≤ 70368744177664) : Prim.den (.app 3 56) [rl l, rl m] = some (rl (l ++ m)) := by
  simp only [rl, Prim.den]
  rw [if_pos ⟨rl_len l, rl_len m, by omega⟩]
  simp
theorem divQ_any {p q : Rat} : ∃ (r : Rat) (b : Bool), divQ p q = [.agg (rd r), .one (.bool b)] ∧ (r = 0 ∨ r = p / q) := by
  unfold divQ
  split
  · exact ⟨0, false, rfl, .inl rfl⟩
  · exact ⟨_, true, rfl, .inr rfl⟩

/-- The loops of the law, and what is behind them. -/
def canon_loops : IR := match ir_penumbralaw03_RatCanon with
  | .prim _ _ (.prim _ _ (.prim _ _ (.prim _ _ (.fcall _ _ _ _ (.fcall _ _ _ _ (.prim _ _ (.fcall _ _ _ _ (.prim _ _ (.fcall _ _ _ _ (.prim _ _ (.fcall _ _ _ _ (.prim _ _ (.fcall _ _ _ _ (.fcall _ _ _ _ (.fcall _ _ _ _ (.fcall _ _ _ _ (.fcall _ _ _ _ (.prim _ _ (.prim _ _ k))))))))))))))))))) => k
  | x => x

theorem w_canon_loops {x : RR} {L : List RR} {ρ : List DV} (hx : x.ok 1048576) (hL : L.length = 10) (hc : ∀ r ∈ L, ∃ q, r = cr q ∧ Sm LL q) (h45 : ρ[45]? = some (rl L)) (h46 : ρ[46]? = some (nl [])) (h0 : ρ[0]? = some (.bool x.neg)) (h7 : ρ[7]? = some (nl x.num)) (h9 : ρ[9]? = some (nl x.den)) :
    IRwp prog [] ρ canon_loops (· = [.one (.bool true)]) := by
  unfold canon_loops ir_penumbralaw03_RatCanon
  simp only
  have ev : ∀ {i : Nat} {d : DV}, ρ[i]? = some d → Px.A.ev ρ (.var i) = d := fun {i d} h => by simp [Px.A.ev, List.getD_eq_getElem?_getD, h]
  have len : ∀ {r : RR}, r ∈ L → r.num.length ≤ 17592186044416 ∧ r.den.length ≤ 17592186044416 := fun {r} hr => by
    obtain ⟨q, rfl, hq⟩ := hc r hr
    have := cr_ok hq
    exact ⟨Nat.le_trans this.2.2.1 (by decide), Nat.le_trans this.2.2.2 (by decide)⟩
  refine loop_step (fun ds => ∃ i : Int, ds = [.int .i64 i, .bool x.neg, rl L, rl (L.take i.toNat), nl x.num, nl x.den] ∧ 0 ≤ i ∧ i ≤ L.length) (numf (fun i => (10 - i).toNat) 0) ?_ ?_ ?_
  · refine ⟨0, ?_, by omega, by omega⟩
    simp only [List.map_cons, List.map_nil, ev h45, ev h46, ev h0, ev h7, ev h9]
    rfl
  · rintro ds ⟨i, rfl, _⟩; rfl
  · rintro ds ⟨i, rfl, hi0, hi1⟩
    simp (disch := omega) only [STEP, Px.A.ev, List.map_cons, List.map_nil, List.getD_cons_zero, List.getD_cons_succ, List.cons_append, List.nil_append, List.append_nil, Option.isSome_some, Option.getD_some, true_and, Int.sub_zero, Int.toNat_zero, List.drop_zero, Int.toNat_natCast, d_len3]
    refine ite_step rfl ?_ ?_
    · intro hi
      obtain ⟨r, hre⟩ : ∃ r, L[i.toNat]? = some r := ⟨_, List.getElem?_eq_getElem (by omega)⟩
      obtain ⟨g0, g1, g2⟩ := d_get3 (k := .i64) hi0 hre
      obtain ⟨n1, n2⟩ := len (List.mem_of_getElem? hre)
      have hmk : Prim.den (.mk 1) [.bool r.neg, nl r.num, nl r.den] = some (rl [r]) := rfl
      have happ : Prim.den (.app 3 56) [rl (L.take i.toNat), rl [r]] = some (rl (L.take (i + 1).toNat)) := by
        rw [d_app3 (by simp; omega), show (i + 1).toNat = i.toNat + 1 by omega, List.take_add_one, hre]; rfl
      simp (disch := omega) only [STEP, Px.A.ev, List.map_cons, List.map_nil, List.getD_cons_zero, List.getD_cons_succ, List.cons_append, List.nil_append, List.append_nil, Option.isSome_some, Option.getD_some, true_and, Int.sub_zero, Int.toNat_zero, List.drop_zero, Int.toNat_natCast, d_inb3, g0, g1, g2, hmk, happ]
      refine jump_step rfl ⟨⟨_, rfl, by omega, by omega⟩, ?_⟩
      show (10 - (i + 1)).toNat < (10 - i).toNat
      omega
    · intro hi
      rw [show L.take i.toNat = L from List.take_of_length_le (by omega)]
      refine loop_step (fun ds => ∃ (i : Int) (n : List Nat), ds = [.int .i64 i, .bool x.neg, rl L, rl L, nl n, nl x.den] ∧ 0 ≤ i ∧ i ≤ n.length ∧ n.length = x.num.length) (numf (fun i => (x.num.length - i).toNat) 0) ?_ ?_ ?_
      · exact ⟨0, x.num, rfl, by omega, by omega, rfl⟩
      · rintro ds ⟨i, n, rfl, _⟩; rfl
      · rintro ds ⟨i, n, rfl, hi0, hi1, hn⟩
        have hnl := hx.2.2.1
        simp (disch := omega) only [STEP, Px.A.ev, List.map_cons, List.map_nil, List.getD_cons_zero, List.getD_cons_succ, List.cons_append, List.nil_append, List.append_nil, Option.isSome_some, Option.getD_some, true_and, Int.sub_zero, Int.toNat_zero, List.drop_zero, Int.toNat_natCast]
        refine ite_step rfl ?_ ?_
        · intro hi
          have hset : Prim.den (.setl 1 0) [nl n, .int .i64 i, .int .u32 77] = some (nl (n.set i.toNat 77)) := den_setl hi0 (by omega)
          simp (disch := omega) only [STEP, Px.A.ev, List.map_cons, List.map_nil, List.getD_cons_zero, List.getD_cons_succ, List.cons_append, List.nil_append, List.append_nil, Option.isSome_some, Option.getD_some, true_and, Int.sub_zero, Int.toNat_zero, List.drop_zero, Int.toNat_natCast, hset]
          refine jump_step rfl ⟨⟨_, _, rfl, by omega, by simp; omega, by simp [hn]⟩, ?_⟩
          show (x.num.length - (i + 1) : Int).toNat < (x.num.length - i : Int).toNat
          omega
        · intro hi
          refine loop_step (fun ds => ∃ (i : Int) (m : List Nat), ds = [.int .i64 i, .bool x.neg, rl L, rl L, nl n, nl m] ∧ 0 ≤ i ∧ i ≤ m.length ∧ m.length = x.den.length) (numf (fun i => (x.den.length - i).toNat) 0) ?_ ?_ ?_
          · exact ⟨0, x.den, rfl, by omega, by omega, rfl⟩
          · rintro ds ⟨i, m, rfl, _⟩; rfl
          · rintro ds ⟨i, m, rfl, hi0, hi1, hm⟩
            have hml := hx.2.2.2
            simp (disch := omega) only [STEP, Px.A.ev, List.map_cons, List.map_nil, List.getD_cons_zero, List.getD_cons_succ, List.cons_append, List.nil_append, List.append_nil, Option.isSome_some, Option.getD_some, true_and, Int.sub_zero, Int.toNat_zero, List.drop_zero, Int.toNat_natCast]
            refine ite_step rfl ?_ ?_
            · intro hi
              have hset : Prim.den (.setl 1 0) [nl m, .int .i64 i, .int .u32 78] = some (nl (m.set i.toNat 78)) := den_setl hi0 (by omega)
              simp (disch := omega) only [STEP, Px.A.ev, List.map_cons, List.map_nil, List.getD_cons_zero, List.getD_cons_succ, List.cons_append, List.nil_append, List.append_nil, Option.isSome_some, Option.getD_some, true_and, Int.sub_zero, Int.toNat_zero, List.drop_zero, Int.toNat_natCast, hset]
              refine jump_step rfl ⟨⟨_, _, rfl, by omega, by simp; omega, by simp [hm]⟩, ?_⟩
              show (x.den.length - (i + 1) : Int).toNat < (x.den.length - i : Int).toNat
              omega
            · intro hi
              refine loop_step (fun ds => ∃ i : Int, ds = [.int .i64 i, rl L, rl L] ∧ 0 ≤ i ∧ i ≤ L.length) (numf (fun i => (10 - i).toNat) 0) ?_ ?_ ?_
              · exact ⟨0, rfl, by omega, by omega⟩
              · rintro ds ⟨i, rfl, _⟩; rfl
              · rintro ds ⟨i, rfl, hi0, hi1⟩
                simp (disch := omega) only [STEP, Px.A.ev, List.map_cons, List.map_nil, List.getD_cons_zero, List.getD_cons_succ, List.cons_append, List.nil_append, List.append_nil, Option.isSome_some, Option.getD_some, true_and, Int.sub_zero, Int.toNat_zero, List.drop_zero, Int.toNat_natCast, d_len3]
                refine ite_step rfl ?_ ?_
                · intro hi
                  obtain ⟨r, hre⟩ : ∃ r, L[i.toNat]? = some r := ⟨_, List.getElem?_eq_getElem (by omega)⟩
                  obtain ⟨q, rfl, hq⟩ := hc r (List.mem_of_getElem? hre)
                  obtain ⟨g0, g1, g2⟩ := d_get3 (k := .i64) hi0 hre
                  simp (disch := omega) only [STEP, Px.A.ev, List.map_cons, List.map_nil, List.getD_cons_zero, List.getD_cons_succ, List.cons_append, List.nil_append, List.append_nil, Option.isSome_some, Option.getD_some, true_and, Int.sub_zero, Int.toNat_zero, List.drop_zero, Int.toNat_natCast, d_inb3, g0, g1, g2]
                  refine call_step (k_is hq rfl) rfl ?_
                  simp (disch := omega) only [STEP, Px.A.ev, List.map_cons, List.map_nil, List.getD_cons_zero, List.getD_cons_succ, List.cons_append, List.nil_append, List.append_nil, Option.isSome_some, Option.getD_some, true_and, Int.sub_zero, Int.toNat_zero, List.drop_zero, Int.toNat_natCast]
                  refine itF rfl ?_
                  simp (disch := omega) only [STEP, Px.A.ev, List.map_cons, List.map_nil, List.getD_cons_zero, List.getD_cons_succ, List.cons_append, List.nil_append, List.append_nil, Option.isSome_some, Option.getD_some, true_and, Int.sub_zero, Int.toNat_zero, List.drop_zero, Int.toNat_natCast, d_inb3, g0, g1, g2]
                  have kc := c_check (cr q) (smK hq)
                  rw [cr_v, eqRR_cr, decide_eq_true rfl] at kc
                  refine call_step kc rfl ?_
                  simp (disch := omega) only [STEP, Px.A.ev, List.map_cons, List.map_nil, List.getD_cons_zero, List.getD_cons_succ, List.cons_append, List.nil_append, List.append_nil, Option.isSome_some, Option.getD_some, true_and, Int.sub_zero, Int.toNat_zero, List.drop_zero, Int.toNat_natCast]
                  refine itF rfl ?_
                  simp (disch := omega) only [STEP, Px.A.ev, List.map_cons, List.map_nil, List.getD_cons_zero, List.getD_cons_succ, List.cons_append, List.nil_append, List.append_nil, Option.isSome_some, Option.getD_some, true_and, Int.sub_zero, Int.toNat_zero, List.drop_zero, Int.toNat_natCast]
                  refine jump_step rfl ⟨⟨_, rfl, by omega, by omega⟩, ?_⟩
                  show (10 - (i + 1)).toNat < (10 - i).toNat
                  omega
                · intro hi
                  refine call_step c_fixed3 rfl ?_
                  exact ret_step rfl

theorem pure_RatCanon {a b : RR} (ha : a.ok 1048576) (hb : b.ok 1048576) : PureCalls prog F.penumbralaw03_RatCanon [.agg a.dv, .agg b.dv] [.one (.bool true)] := by
  refine symFunc_sound hmix tree_penumbralaw03_RatCanon (by kernel_rfl) rfl ?_
  have la := okL ha; have lb := okL hb
  have sa : Sm 1048576 a.v := ha.sm (by decide)
  have sb : Sm 1048576 b.v := hb.sm (by decide)
  have n1 : a.num.length ≤ 17592186044416 := Nat.le_trans ha.2.2.1 (by decide)
  have n2 : a.den.length ≤ 17592186044416 := Nat.le_trans ha.2.2.2 (by decide)
  obtain ⟨r, t, hdq, hr⟩ := @divQ_any a.v b.v
  have kq := f_div a b (okK la) (okK lb)
  rw [hdq] at kq
  have hrs : Sm LL r := by
    rcases hr with rfl | rfl
    · exact Sm0.mono (by decide)
    · exact (sa.div sb).mono (by decide)
  show IRwp prog [] (flatAll [.agg a.dv, .agg b.dv]) ir_penumbralaw03_RatCanon _
  unfold ir_penumbralaw03_RatCanon
  simp only [FF, List.cons_append, List.nil_append, List.append_nil]
  refine primS (nl []) rfl ?_
  refine primS (nl a.num) (den_app0 n1) ?_
  refine primS (nl []) rfl ?_
  refine primS (nl a.den) (den_app0 n2) ?_
  refine fcall_step kq rfl rfl ?_
  simp only [FF, List.cons_append, List.nil_append, List.append_nil]
  refine fcall_step (f_read a (okK la)) rfl rfl ?_
  simp only [FF, List.cons_append, List.nil_append, List.append_nil]
  refine primS (rl [a]) rfl ?_
  refine fcall_step (f_sum1 la) rfl rfl ?_
  simp only [FF, List.cons_append, List.nil_append, List.append_nil]
  refine primS (rl [a, b]) rfl ?_
  refine fcall_step (f_sum2 la lb) rfl rfl ?_
  simp only [FF, List.cons_append, List.nil_append, List.append_nil]
  refine primS (rl [a]) rfl ?_
  refine fcall_step (f_prod1 la) rfl rfl ?_
  simp only [FF, List.cons_append, List.nil_append, List.append_nil]
  refine primS (rl [a, b]) rfl ?_
  refine fcall_step (f_prod2 la lb) rfl rfl ?_
  simp only [FF, List.cons_append, List.nil_append, List.append_nil]
  refine fcall_step (f_sub3 a b (okK la) (okK lb)) rfl rfl ?_
  simp only [FF, List.cons_append, List.nil_append, List.append_nil]
  refine fcall_step (f_neg a (okK la)) rfl rfl ?_
  simp only [FF, List.cons_append, List.nil_append, List.append_nil]
  refine fcall_step (f_abs a (okK la)) rfl rfl ?_
  simp only [FF, List.cons_append, List.nil_append, List.append_nil]
  refine fcall_step (f_floor a (okK la)) rfl rfl ?_
  simp only [FF, List.cons_append, List.nil_append, List.append_nil]
  refine primS (rl [cr a.v, cr a.v, cr (a.v + b.v), cr a.v, cr (a.v * b.v), cr (a.v - b.v), cr (-a.v), cr a.v.abs, cr (a.v.floor : Rat), cr r]) rfl ?_
  refine primS (nl []) rfl ?_
  refine w_canon_loops ha rfl (fun y hy => ?_) rfl rfl rfl rfl rfl
  simp only [List.mem_cons, List.not_mem_nil, or_false] at hy
  rcases hy with rfl | rfl | rfl | rfl | rfl | rfl | rfl | rfl | rfl | rfl
  · exact ⟨_, rfl, sa.mono (by decide)⟩
  · exact ⟨_, rfl, sa.mono (by decide)⟩
  · exact ⟨_, rfl, (sa.add sb).mono (by decide)⟩
  · exact ⟨_, rfl, sa.mono (by decide)⟩
  · exact ⟨_, rfl, (sa.mul sb).mono (by decide)⟩
  · exact ⟨_, rfl, (sa.sub sb).mono (by decide)⟩
  · exact ⟨_, rfl, sa.neg.mono (by decide)⟩
  · exact ⟨_, rfl, sa.abs.mono (by decide)⟩
  · exact ⟨_, rfl, sa.floor.mono (by decide)⟩
  · exact ⟨_, rfl, hrs⟩

end Go.Px.Na

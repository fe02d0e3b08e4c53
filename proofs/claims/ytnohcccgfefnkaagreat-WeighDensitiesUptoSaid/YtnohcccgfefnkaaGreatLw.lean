/- Lw: small steps for laws. -/
import Derived.Test.YtnohcccgfefnkaaGreatCj
import Derived.Test.YtnohcccgfefnkaaGreatGl
set_option maxRecDepth 10000
set_option linter.unusedSimpArgs false
set_option linter.unusedVariables false
namespace Go.Px.Na
open Go.RowKit
open Go.Proofs.Tryz (prog)
variable {P : Program} {As : List (List DV → Prop)} {ρ : List DV} {Q : List AV → Prop}

theorem itT {a : Px.A} {x y : IR} (h : a.ev ρ = .bool true) (hx : IRwp P As ρ x Q) : IRwp P As ρ (.ite a x y) Q := by
  refine itb_step h (fun _ => hx) (fun h => by cases h)
theorem itF {a : Px.A} {x y : IR} (h : a.ev ρ = .bool false) (hx : IRwp P As ρ y Q) : IRwp P As ρ (.ite a x y) Q := by
  refine itb_step h (fun h => by cases h) (fun _ => hx)
theorem primS {p : Prim} {args : List Px.A} {k : IR} (d : DV) (h : p.den (args.map (Px.A.ev ρ)) = some d) (hk : IRwp P As (ρ ++ [d]) k Q) : IRwp P As ρ (.prim p args k) Q := by
  rw [IRwp]; exact ⟨d, h, hk⟩

/-- So many limbs a law's numbers have at most. -/
abbrev LL : Nat := 430000000000
theorem okK {r : RR} (h : r.ok LL) : r.ok KL := h.mono (by decide)
theorem smK {q : Rat} (h : Sm LL q) : (cr q).ok KL := okK (cr_ok h)

theorem Sm0 : Sm 1 0 := ⟨by rw [show (0 : Rat).num.natAbs = 0 from rfl, limbs_zero]; simp, by rw [show (0 : Rat).den = 1 from rfl, limbs_one]; simp⟩
theorem Sm1 : Sm 1 1 := ⟨by rw [show (1 : Rat).num.natAbs = 1 from rfl, limbs_one]; simp, by rw [show (1 : Rat).den = 1 from rfl, limbs_one]; simp⟩
theorem k_sum2 {r s : RR} (hr : r.ok LL) (hs : s.ok LL) : PureCalls prog F.rat_Sum [.one (rl [r, s])] [.agg (rd (r.v + s.v))] := by
  have h1 : Sm LL r.v := hr.sm (by decide)
  have h2 : Sm LL s.v := hs.sm (by decide)
  have h := c_sum [r, s] (by simp) (fun x hx => by
    rcases List.mem_cons.1 hx with rfl | hx
    · exact okK hr
    · rcases List.mem_cons.1 hx with rfl | hx
      · exact okK hs
      · cases hx) (fun k => by
    match k with
    | 0 => exact Sm0.mono (by decide)
    | 1 => simp only [sumL, List.take, List.foldl, Rat.zero_add]; exact h1.mono (by decide)
    | k + 2 => simp only [sumL, List.take_succ_cons, List.take_nil, List.foldl, Rat.zero_add]; exact (h1.add h2).mono (by decide))
  simpa only [sumL, List.foldl, Rat.zero_add] using h
theorem k_sum3 {r s t : RR} (hr : r.ok LL) (hs : s.ok LL) (ht : t.ok LL) : PureCalls prog F.rat_Sum [.one (rl [r, s, t])] [.agg (rd (r.v + s.v + t.v))] := by
  have h1 : Sm LL r.v := hr.sm (by decide)
  have h2 : Sm LL s.v := hs.sm (by decide)
  have h3 : Sm LL t.v := ht.sm (by decide)
  have h := c_sum [r, s, t] (by simp) (fun x hx => by
    rcases List.mem_cons.1 hx with rfl | hx
    · exact okK hr
    · rcases List.mem_cons.1 hx with rfl | hx
      · exact okK hs
      · rcases List.mem_cons.1 hx with rfl | hx
        · exact okK ht
        · cases hx) (fun k => by
    match k with
    | 0 => exact Sm0.mono (by decide)
    | 1 => simp only [sumL, List.take, List.foldl, Rat.zero_add]; exact h1.mono (by decide)
    | 2 => simp only [sumL, List.take, List.foldl, Rat.zero_add]; exact (h1.add h2).mono (by decide)
    | k + 3 => simp only [sumL, List.take_succ_cons, List.take_nil, List.foldl, Rat.zero_add]; exact ((h1.add h2).add h3).mono (by decide))
  simpa only [sumL, List.foldl, Rat.zero_add] using h
theorem k_prod2 {r s : RR} (hr : r.ok LL) (hs : s.ok LL) : PureCalls prog F.rat_Product [.one (rl [r, s])] [.agg (rd (r.v * s.v))] := by
  have h1 : Sm LL r.v := hr.sm (by decide)
  have h2 : Sm LL s.v := hs.sm (by decide)
  have h := c_product [r, s] (by simp) (fun x hx => by
    rcases List.mem_cons.1 hx with rfl | hx
    · exact okK hr
    · rcases List.mem_cons.1 hx with rfl | hx
      · exact okK hs
      · cases hx) (fun k => by
    match k with
    | 0 => exact Sm1.mono (by decide)
    | 1 => simp only [prodL, List.take, List.foldl, Rat.one_mul]; exact h1.mono (by decide)
    | k + 2 => simp only [prodL, List.take_succ_cons, List.take_nil, List.foldl, Rat.one_mul]; exact (h1.mul h2).mono (by decide))
  simpa only [prodL, List.foldl, Rat.one_mul] using h
theorem k_prod3 {r s t : RR} (hr : r.ok LL) (hs : s.ok LL) (ht : t.ok LL) : PureCalls prog F.rat_Product [.one (rl [r, s, t])] [.agg (rd (r.v * s.v * t.v))] := by
  have h1 : Sm LL r.v := hr.sm (by decide)
  have h2 : Sm LL s.v := hs.sm (by decide)
  have h3 : Sm LL t.v := ht.sm (by decide)
  have h := c_product [r, s, t] (by simp) (fun x hx => by
    rcases List.mem_cons.1 hx with rfl | hx
    · exact okK hr
    · rcases List.mem_cons.1 hx with rfl | hx
      · exact okK hs
      · rcases List.mem_cons.1 hx with rfl | hx
        · exact okK ht
        · cases hx) (fun k => by
    match k with
    | 0 => exact Sm1.mono (by decide)
    | 1 => simp only [prodL, List.take, List.foldl, Rat.one_mul]; exact h1.mono (by decide)
    | 2 => simp only [prodL, List.take, List.foldl, Rat.one_mul]; exact (h1.mul h2).mono (by decide)
    | k + 3 => simp only [prodL, List.take_succ_cons, List.take_nil, List.foldl, Rat.one_mul]; exact ((h1.mul h2).mul h3).mono (by decide))
  simpa only [prodL, List.foldl, Rat.one_mul] using h
/-- Two that are the same. -/
theorem k_is {p q : Rat} (hp : Sm LL p) (h : p = q) : PureCalls prog F.penumbraref03_Is [.agg (rd p), .agg (rd q)] [.one (.bool true)] := by
  subst h
  have k := cr_is (cr p) (cr p) (smK hp) (smK hp)
  rw [eqRR_cr, decide_eq_true rfl] at k
  exact k
end Go.Px.Na

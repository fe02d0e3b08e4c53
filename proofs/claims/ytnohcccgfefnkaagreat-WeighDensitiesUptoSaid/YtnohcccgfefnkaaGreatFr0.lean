/- Fr0: contracts over numbers; loops over states; elements of rows. -/
import Derived.Test.YtnohcccgfefnkaaGreatFa
set_option maxRecDepth 10000
set_option linter.unusedVariables false
set_option linter.unusedSimpArgs false
namespace Go.Px.Na
open Go.RowKit
open Go.Proofs.Tryz (prog)
section
variable {P : Program} {As : List (List DV → Prop)} {ρ : List DV} {Q : List AV → Prop}
open Classical in
/-- A loop whose variables tell a state. -/
theorem loop_st {σ : Type} (V : σ → List DV) (Inv : σ → Prop) (μ : σ → Nat) (s0 : σ) {inits : List Px.A} {body : IR} (h0 : Inv s0) (hi : inits.map (Px.A.ev ρ) = V s0) (hl : ∀ s, (V s).length = inits.length)
    (hb : ∀ s, Inv s → ∀ X : List DV → Prop, (∀ s', Inv s' → μ s' < μ s → X (V s')) → IRwp P (As ++ [X]) (V s) body Q) : IRwp P As ρ (.loop inits body) Q := by
  have key : ∀ ds, (∃ s, Inv s ∧ ds = V s) → ∃ s, Inv s ∧ ds = V s ∧ ∀ s', Inv s' → ds = V s' → μ s ≤ μ s' := fun ds ⟨s, h1, h2⟩ => by
    generalize hn : μ s = n
    induction n using Nat.strongRecOn generalizing s with
    | ind n ih =>
      by_cases h : ∃ s', Inv s' ∧ ds = V s' ∧ μ s' < n
      · obtain ⟨s', g1, g2, g3⟩ := h
        exact ih (μ s') g3 s' g1 g2 rfl
      · exact ⟨s, h1, h2, fun s' g1 g2 => Nat.le_of_not_lt fun z => h ⟨s', g1, g2, by omega⟩⟩
  refine loop_step (fun ds => ∃ s, Inv s ∧ ds = V s) (fun ds => if h : ∃ s, Inv s ∧ ds = V s then μ (Classical.choose (key ds h)) else 0) ⟨s0, h0, hi⟩ (fun ds ⟨s, _, h⟩ => h ▸ hl s) fun ds hI => ?_
  obtain ⟨g1, g2, g3⟩ := Classical.choose_spec (key ds hI)
  have hh := hb _ g1 (fun ds' => (∃ s, Inv s ∧ ds' = V s) ∧ (if h : ∃ s, Inv s ∧ ds' = V s then μ (Classical.choose (key ds' h)) else 0) < if h : ∃ s, Inv s ∧ ds = V s then μ (Classical.choose (key ds h)) else 0) fun s' h1 h2 => by
    refine ⟨⟨s', h1, rfl⟩, ?_⟩
    rw [dif_pos ⟨s', h1, rfl⟩, dif_pos hI]
    obtain ⟨k1, k2, k3⟩ := Classical.choose_spec (key (V s') ⟨s', h1, rfl⟩)
    exact Nat.lt_of_le_of_lt (k3 s' h1 rfl) h2
  rw [← g2] at hh
  exact hh
/-- So many cells of an element, one behind the other. -/
def getsI (x i : Px.A) (s : Nat) : (m off : Nat) → IR → IR
  | 0, _, k => k
  | m + 1, off, k => .prim (.get s off) [x, i] (getsI x i s m (off + 1) k)
theorem gets_ok {x i : Px.A} {s n : Nat} {cells : List DV} {ki : IntKind} {j : Int} {k : IR} (h0 : 0 ≤ j) (h1 : j < n) : ∀ (m off : Nat) (ρ r : List DV), (∀ l, Px.A.ev (ρ ++ l) x = .list n cells) → (∀ l, Px.A.ev (ρ ++ l) i = .int ki j) → r.length = m →
    (∀ t, t < m → cells[j.toNat * s + (off + t)]? = r[t]?) → IRwp P As (ρ ++ r) k Q → IRwp P As ρ (getsI x i s m off k) Q
  | 0, off, ρ, r, hx, hi, hr, hc, hk => by
    have : r = [] := List.eq_nil_of_length_eq_zero hr
    subst this; simpa [getsI] using hk
  | m + 1, off, ρ, [], hx, hi, hr, hc, hk => by simp at hr
  | m + 1, off, ρ, d :: r, hx, hi, hr, hc, hk => by
    have e1 : Px.A.ev ρ x = .list n cells := by simpa using hx []
    have e2 : Px.A.ev ρ i = .int ki j := by simpa using hi []
    have hd := hc 0 (by omega)
    simp only [Nat.add_zero, List.getElem?_cons_zero] at hd
    simp only [getsI]
    rw [IRwp]
    refine ⟨d, ?_, ?_⟩
    · simp only [List.map_cons, List.map_nil, e1, e2, Prim.den]
      rw [if_pos ⟨h0, h1⟩, hd]
    · refine gets_ok h0 h1 m (off + 1) (ρ ++ [d]) r (fun l => by rw [List.append_assoc]; exact hx _) (fun l => by rw [List.append_assoc]; exact hi _) (by simpa using hr) (fun t ht => ?_) (by simpa using hk)
      have := hc (t + 1) (by omega)
      rw [show off + 1 + t = off + (t + 1) by omega, this]; simp
/-- A row of elements of so many cells each. -/
theorem fm_get {α : Type} {f : α → List DV} {s : Nat} (hf : ∀ a, (f a).length = s) : ∀ {l : List α} {i : Nat} {a : α} (t : Nat), l[i]? = some a → t < s → (l.flatMap f)[i * s + t]? = (f a)[t]?
  | [], i, a, t, h, _ => by simp at h
  | b :: l, 0, a, t, h, ht => by
    simp at h; subst h
    rw [List.flatMap_cons, Nat.zero_mul, Nat.zero_add, List.getElem?_append_left (by rw [hf]; exact ht)]
  | b :: l, i + 1, a, t, h, ht => by
    rw [List.flatMap_cons, List.getElem?_append_right (by rw [hf, Nat.succ_mul]; omega), hf, show (i + 1) * s + t - s = i * s + t by rw [Nat.succ_mul]; omega]
    exact fm_get hf t (by simpa using h) ht
theorem fm_len {α : Type} {f : α → List DV} {s : Nat} (hf : ∀ a, (f a).length = s) : ∀ (l : List α), (l.flatMap f).length = l.length * s
  | [] => by simp
  | a :: l => by rw [List.flatMap_cons, List.length_append, hf, fm_len hf l, List.length_cons, Nat.succ_mul]; omega
theorem fm_inb {α : Type} {f : α → List DV} {s : Nat} (hf : ∀ a, (f a).length = s) {l : List α} {k : IntKind} {i : Int} (h0 : 0 ≤ i) (h1 : i < l.length) : Prim.den (.inb s) [.list l.length (l.flatMap f), .int k i] = some (.bool true) := by
  have h2 : (i.toNat + 1) * s ≤ (l.flatMap f).length := by rw [fm_len hf]; exact Nat.mul_le_mul_right _ (by omega)
  simp only [Prim.den]
  rw [if_pos ⟨h0, h1, h2⟩]
end
theorem ofQ_1 (n : Int) : ofQ n 1 = (n : Rat) := by
  unfold ofQ
  rw [Rat.div_def, show (((1 : Int) : Rat))⁻¹ = 1 by decide +kernel, Rat.mul_one]
section
variable {L M : Nat} {r s : RR} {x y : Rat}
theorem f_rat_Floor (h : Num L r x) (hl : L ≤ LL) : PureCalls prog F.rat_Floor [.agg (gW [r])] [.agg (gD [(x.floor : Rat)])] := by
  have k := c_floor r (okK (h.mono hl).1)
  rw [h.2.1] at k; exact k
theorem f_rat_Div (h : Num L r x) (g : Num M s y) (hl : L ≤ LL ∧ M ≤ LL) : PureCalls prog F.rat_Div [.agg (gW [r]), .agg (gW [s])] [.agg (gD [x / y]), .one (.bool (decide (¬y = 0)))] := by
  by_cases c : y = 0
  · have k := n_rat_Div_t rfl (h.mono hl.1) (g.mono hl.2) c
    rw [decide_eq_false (fun z => z c), c, Rat.div_def, Rat.inv_zero, Rat.mul_zero]; exact k
  · have k := n_rat_Div_f rfl (h.mono hl.1) (g.mono hl.2) rfl c
    rw [decide_eq_true c]; exact k
theorem f_rat_Same (h : Num L r x) (g : Num M s y) (hl : L ≤ LL ∧ M ≤ LL) : PureCalls prog F.rat_Same [.agg (gW [r]), .agg (gW [s])] [.one (.bool (decide (x = y)))] := by
  by_cases c : x = y
  · rw [decide_eq_true c]; exact n_rat_Same_t (h.mono hl.1) (g.mono hl.2) c
  · rw [decide_eq_false c]; exact n_rat_Same_f (h.mono hl.1) (g.mono hl.2) c
theorem f_rat_Sign (h : Num L r x) (hl : L ≤ LL) : PureCalls prog F.rat_Sign [.agg (gW [r])] [.one (.int .i64 x.num.sign)] := n_rat_Sign (h.mono hl)
theorem f_rat_Abs (h : Num L r x) (hl : L ≤ LL) : PureCalls prog F.rat_Abs [.agg (gW [r])] [.agg (gD [x.abs])] := n_rat_Abs_o (h.mono hl) rfl
theorem f_rat_Neg (h : Num L r x) (hl : L ≤ LL) : PureCalls prog F.rat_Neg [.agg (gW [r])] [.agg (gD [-x])] := n_rat_Neg (h.mono hl) rfl
theorem f_rat_Read (h : Num L r x) (hl : L ≤ LL) : PureCalls prog F.rat_Read [.agg (gW [r])] [.agg (gD [x])] := n_rat_Read (h.mono hl)
theorem f_rat_Sub (h : Num L r x) (g : Num M s y) (hl : L ≤ LL ∧ M ≤ LL) : PureCalls prog F.rat_Sub [.agg (gW [r]), .agg (gW [s])] [.agg (gD [x - y])] := n_rat_Sub (h.mono hl.1) (g.mono hl.2) rfl
theorem f_Is (h : Num L (cr x) x) (g : Num M (cr y) y) (hl : L ≤ LL ∧ M ≤ LL) : PureCalls prog F.penumbraref03_Is [.agg (gD [x]), .agg (gD [y])] [.one (.bool (decide (x = y)))] := by
  by_cases c : x = y
  · rw [decide_eq_true c]; exact n_penumbraref03_Is_t (h.mono hl.1) (g.mono hl.2) c
  · rw [decide_eq_false c]; exact n_penumbraref03_Is_f (h.mono hl.1) (g.mono hl.2) c
theorem f_Is_t (c : x = y) (h : Num L (cr x) x) (g : Num M (cr y) y) (hl : L ≤ LL ∧ M ≤ LL) : PureCalls prog F.penumbraref03_Is [.agg (gD [x]), .agg (gD [y])] [.one (.bool true)] := n_penumbraref03_Is_t (h.mono hl.1) (g.mono hl.2) c
theorem f_R3_Zero : PureCalls prog F.penumbraref03_Zero [] [.agg (gD [0])] := n_penumbraref03_Zero rfl
theorem f_R3_One : PureCalls prog F.penumbraref03_One [] [.agg (gD [1])] := n_penumbraref03_One rfl
theorem f_vec_Sum_2 {a b : RV} {u v : V3} (h : NV L a u) (g : NV M b v) (hl : L ≤ 9000000000 ∧ M ≤ 9000000000) : PureCalls prog F.vec_Sum [.one (rl3 [(a.x, a.y, a.z), (b.x, b.y, b.z)])] [.agg (gD [(u.add v).x, (u.add v).y, (u.add v).z])] :=
  n_vec_Sum_2 (h.x.mono hl.1) (h.y.mono hl.1) (h.z.mono hl.1) (g.x.mono hl.2) (g.y.mono hl.2) (g.z.mono hl.2) rfl rfl rfl
end
end Go.Px.Na

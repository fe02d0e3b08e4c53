/- Wn5: naturals: the long division. -/
import Derived.Test.YtgnhhdgepnfnmaaWn4
set_option maxRecDepth 10000
set_option linter.unusedSimpArgs false
set_option linter.unusedVariables false
namespace Go.Px.Na
open Go.RowKit
variable {P : Program}

theorem val_lt_of_zeros {u : List Nat} {K : Nat} (hw : WL u) (h : ∀ k, K ≤ k → u.getD k 0 = 0) : val u < 4294967296 ^ K := by
  have hz : ∀ (n i : Nat), K ≤ i → u.length ≤ i + n → val (u.drop i) = 0 := by
    intro n
    induction n with
    | zero => intro i _ hi; rw [List.drop_eq_nil_of_le (by omega)]; rfl
    | succ n ih => intro i hi hl; rw [val_getD_drop, h i hi, ih (i + 1) (by omega) (by omega)]
  have h1 := val_take_drop u K
  rw [hz u.length K (Nat.le_refl _) (by omega), Nat.mul_zero, Nat.add_zero] at h1
  rw [h1]
  refine Nat.lt_of_lt_of_le (val_lt (hw.take K)) (Nat.pow_le_pow_right (by omega) (by simp; omega))
theorem zeros_of_lt {u : List Nat} {K : Nat} (hw : WL u) (h : val u < 4294967296 ^ K) : ∀ k, K ≤ k → u.getD k 0 = 0 := by
  intro k hk
  have h1 := drop_val hw k
  rw [Nat.div_eq_of_lt (Nat.lt_of_lt_of_le h (Nat.pow_le_pow_right (by omega) hk))] at h1
  rw [val_getD_drop] at h1
  omega
/-- Two digits of a number. -/
theorem two_digits {u : List Nat} (hw : WL u) (i : Nat) : val u / 4294967296 ^ i = u.getD i 0 + 4294967296 * (val u / 4294967296 ^ (i + 1)) := by
  rw [drop_val hw, drop_val hw, val_getD_drop]

structure KF (D V Q top t2 v1 w2 u2 v2 : Nat) : Prop where
  hq : Q = D / V
  h0 : 0 < V
  htop : top < 4294967296 * (v1 + 1)
  e1 : t2 = top * 4294967296 + u2
  e2 : w2 = v1 * 4294967296 + v2
  hv2 : v2 < 4294967296
  down : ∀ g, t2 < g * w2 → Q < g
  up : ∀ g, g < 4294967296 → g * w2 ≤ t2 → g ≤ Q + 1
  qB : Q < 4294967296
  first : Q ≤ top / v1
  hv1 : 0 < v1

theorem kf_end {D V g Q top t2 v1 w2 u2 v2 r : Nat} (K : KF D V Q top t2 v1 w2 u2 v2) (h : g * v1 + r = top) (hg : g < 4294967296) (hr : g * v2 ≤ r * 4294967296 + u2) : g ≤ Q + 1 := by
  refine K.up g hg ?_
  rw [K.e1, K.e2, ← h, Nat.mul_add, ← Nat.mul_assoc, Nat.add_mul]
  omega
theorem kf_break {D V g Q top t2 v1 w2 u2 v2 r : Nat} (K : KF D V Q top t2 v1 w2 u2 v2) (h : g * v1 + r = top) (hr : 4294967296 ≤ r) : g < 4294967296 ∧ g ≤ Q + 1 := by
  have hg : g < 4294967296 := by
    rcases Nat.lt_or_ge g 4294967296 with h1 | h1
    · exact h1
    · exfalso
      have := Nat.mul_le_mul_right v1 h1
      have := K.htop
      rw [Nat.mul_add] at this
      omega
  refine ⟨hg, kf_end K h hg ?_⟩
  have := Nat.mul_lt_mul'' hg K.hv2
  have := Nat.mul_le_mul_right 4294967296 hr
  omega
theorem kf_down_aux {g t2 top w2 u2 v1 v2 r : Nat} (k1 : t2 = top * 4294967296 + u2) (k2 : w2 = v1 * 4294967296 + v2) (h : g * v1 + r = top) (hr : r * 4294967296 + u2 < g * v2) : t2 < g * w2 := by
  have e : (g * v1 + r) * 4294967296 = g * v1 * 4294967296 + r * 4294967296 := Nat.add_mul _ _ _
  have e' : g * (v1 * 4294967296 + v2) = g * v1 * 4294967296 + g * v2 := by rw [Nat.mul_add g, Nat.mul_assoc g]
  subst h
  subst k1 k2
  rw [e, e']
  exact Nat.lt_of_le_of_lt (Nat.le_of_eq (Nat.add_assoc _ _ _)) (Nat.add_lt_add_left hr _)
theorem kf_down {D V g Q top t2 v1 w2 u2 v2 r : Nat} (K : KF D V Q top t2 v1 w2 u2 v2) (h : g * v1 + r = top) (hr : r * 4294967296 + u2 < g * v2) : Q < g := K.down g (kf_down_aux K.e1 K.e2 h hr)

theorem kf_make {D V : Nat} {n : Nat} {v1 v2 : Nat} (hn : 2 ≤ n) (hD : D < 4294967296 * V) (hV : 4294967296 ^ (n - 1) ≤ V) (h1 : V / 4294967296 ^ (n - 1) = v1) (h2 : V / 4294967296 ^ (n - 2) = v1 * 4294967296 + v2) (hv2 : v2 < 4294967296)
    {u2 : Nat} (h3 : D / 4294967296 ^ (n - 2) = D / 4294967296 ^ (n - 1) * 4294967296 + u2) :
    KF D V (D / V) (D / 4294967296 ^ (n - 1)) (D / 4294967296 ^ (n - 2)) v1 (V / 4294967296 ^ (n - 2)) u2 v2 := by
  have p1 : 0 < 4294967296 ^ (n - 1) := Nat.pow_pos (by omega)
  have p2 : 0 < 4294967296 ^ (n - 2) := Nat.pow_pos (by omega)
  have V0 : 0 < V := by omega
  have hv1 : 0 < v1 := by rw [← h1]; exact Nat.div_pos hV p1
  have d1 := Nat.div_add_mod D (4294967296 ^ (n - 1))
  have d2 := Nat.div_add_mod D (4294967296 ^ (n - 2))
  have d3 := Nat.div_add_mod V (4294967296 ^ (n - 1))
  have d4 := Nat.div_add_mod V (4294967296 ^ (n - 2))
  have m1 := Nat.mod_lt D p1
  have m2 := Nat.mod_lt D p2
  have m3 := Nat.mod_lt V p1
  have m4 := Nat.mod_lt V p2
  have hpp : 4294967296 ^ (n - 1) = 4294967296 * 4294967296 ^ (n - 2) := by
    rw [show n - 1 = (n - 2) + 1 by omega, Nat.pow_succ, Nat.mul_comm]
  refine { hq := rfl, h0 := V0, htop := ?_, e1 := h3, e2 := h2, hv2 := hv2, down := fun g h => ?_, up := fun g hg h => ?_, qB := ?_, first := ?_, hv1 := hv1 }
  · rw [Nat.div_lt_iff_lt_mul p1]
    rw [h1] at d3
    have : 4294967296 * V < 4294967296 * ((v1 + 1) * 4294967296 ^ (n - 1)) := Nat.mul_lt_mul_of_pos_left (by rw [Nat.add_mul, Nat.one_mul, Nat.mul_comm v1]; omega) (by omega)
    rw [← Nat.mul_assoc] at this
    omega
  · exact lt_of_div_lt V0 (knuth_down (by rw [Nat.mul_comm]; exact d2.symm) m2 (by rw [Nat.mul_comm]; exact d4.symm) h)
  · exact le_succ_div V0 (knuth_up (by rw [Nat.mul_comm]; exact d2.symm) (by rw [Nat.mul_comm]; exact d4.symm) m4 hg (by rw [← hpp]; exact hV) h)
  · exact (Nat.div_lt_iff_lt_mul V0).2 hD
  · rw [h1] at d3
    exact knuth_first (by rw [Nat.mul_comm]; exact d1.symm) m1 (by rw [Nat.mul_comm]; exact d3.symm) hv1 p1

theorem less_step {vu' vu'' vu0 p pj pi g va y c b x d b' t : Nat} (hp : p = pj * pi) (h1 : vu'' + p * x = vu' + p * d) (h2 : vu' + pj * g * va = vu0 + p * (c + b)) (ht : t = g * y + c) (h3 : x + 4294967296 * b' = d + t % 4294967296 + b) :
    vu'' + pj * g * (va + pi * y) = vu0 + p * 4294967296 * (t / 4294967296 + b') := by
  have h4 := Nat.mod_add_div t 4294967296
  generalize t % 4294967296 = r at *
  generalize t / 4294967296 = q at *
  have h5 : p * (r + 4294967296 * q) = p * (g * y + c) := by rw [h4, ht]
  have h6 : p * (x + 4294967296 * b') = p * (d + r + b) := by rw [h3]
  subst hp
  grind
theorem less_last {vu' vu'' vu0 p pj g V c b x d b' : Nat} (h1 : vu'' + p * x = vu' + p * d) (h2 : vu' + pj * g * V = vu0 + p * (c + b)) (h3 : x + 4294967296 * b' = d + c + b) : vu'' + pj * g * V = vu0 + p * 4294967296 * b' := by
  have h6 : p * (x + 4294967296 * b') = p * (d + c + b) := by rw [h3]
  grind
theorem back_step {vu' vu'' vu0 p pj pi va y c x : Nat} (hp : p = pj * pi) (h1 : vu'' + p * x = vu' + p * ((x + y + c) % 4294967296)) (h2 : vu' + p * c = vu0 + pj * va) : vu'' + p * 4294967296 * ((x + y + c) / 4294967296) = vu0 + pj * (va + pi * y) := by
  have h4 := Nat.mod_add_div (x + y + c) 4294967296
  generalize (x + y + c) % 4294967296 = r at *
  generalize (x + y + c) / 4294967296 = q at *
  have h5 : p * (r + 4294967296 * q) = p * (x + y + c) := by rw [h4]
  subst hp
  grind
theorem back_last {vu' vu'' vu0 p pj V c x : Nat} (h1 : vu'' + p * x = vu' + p * ((x + c) % 4294967296)) (h2 : vu' + p * c = vu0 + pj * V) : vu'' + p * 4294967296 * ((x + c) / 4294967296) = vu0 + pj * V := by
  have h4 := Nat.mod_add_div (x + c) 4294967296
  generalize (x + c) % 4294967296 = r at *
  generalize (x + c) / 4294967296 = q at *
  have h5 : p * (r + 4294967296 * q) = p * (x + c) := by rw [h4]
  grind
/-- A guess by one too high, mended. -/
theorem back_mend {u0 u1 u3 pj g V W e : Nat} (h1 : u1 + pj * g * V = u0 + W) (h3 : u3 + W * e = u1 + pj * V) (he : e ≤ 1) (hlt : u3 < W) (hg : 0 < g) (hq : pj * (g - 1) * V ≤ u0) : u3 + pj * (g - 1) * V = u0 := by
  obtain ⟨k, rfl⟩ : ∃ k, g = k + 1 := ⟨g - 1, by omega⟩
  have e1 : pj * (k + 1) * V = pj * k * V + pj * V := by grind
  rw [e1] at h1
  simp only [Nat.add_sub_cancel] at hq ⊢
  have : e = 0 ∨ e = 1 := by omega
  rcases this with rfl | rfl
  · exfalso; omega
  · omega
theorem sub32_eq {x y b : Nat} (hx : x < 4294967296) (hy : y < 4294967296) (hb : b ≤ 1) : x + 4294967296 * (if x < y + b then 1 else 0) = (x + 8589934592 - y - b) % 4294967296 + y + b := by split <;> omega

def lenAt (N i : Nat) (ds : List DV) : Nat := match ds[i]? with | some (.list n _) => N - n | _ => 0

def long_body : IR := match ir_nat_long with
  | .prim _ _ (.prim _ _ (.prim _ _ (.prim _ _ (.call _ _ _ (.call _ _ _ (.call _ _ _ (.prim _ _ (.loop _ (.prim _ _ (.prim _ _ (.prim _ _ (.ite _ _ (.prim _ _ (.prim _ _ (.prim _ _ (.prim _ _ (.prim _ _ (.prim _ _ (.loop _ b)))))))))))))))))))  => b
  | _ => .bad
def long_after : IR := match long_body with
  | .prim _ _ (.ite _ (.prim _ _ (.prim _ _ (.prim _ _ (.prim _ _ (.prim _ _ (.prim _ _ (.prim _ _ (.prim _ _ (.prim _ _ (.prim _ _ (.prim _ _ (.prim _ _ (.prim _ _ (.prim _ _ (.prim _ _ (.prim _ _ (.prim _ _ (.prim _ _ (.prim _ _ (.prim _ _ (.prim _ _ (.join _ b)))))))))))))))))))))) _) => b
  | _ => .bad
def long_guess : IR := match long_body with
  | .prim _ _ (.ite _ (.prim _ _ (.prim _ _ (.prim _ _ (.prim _ _ (.prim _ _ (.prim _ _ (.prim _ _ (.prim _ _ (.prim _ _ (.prim _ _ (.prim _ _ (.prim _ _ (.prim _ _ (.prim _ _ (.prim _ _ (.prim _ _ (.prim _ _ (.prim _ _ (.prim _ _ (.prim _ _ (.prim _ _ (.join b _)))))))))))))))))))))) _) => b
  | _ => .bad

/-- What the main loop keeps. -/
def LInv (s n m : Nat) (V : Nat) (v : List Nat) (A : Nat) (ds : List DV) : Prop :=
  ∃ (j : Int) (u q : List Nat), ds = [.int .i64 (s : Int), .int .i64 (n : Int), .int .i64 j, nl v, nl u, nl q] ∧ -1 ≤ j ∧ j + n < m ∧ WL u ∧ u.length = m ∧ WL q ∧ q.length + n = m ∧
    val (u.drop (j + 1).toNat) < V ∧ A = val u + V * (4294967296 ^ (j + 1).toNat * val (q.drop (j + 1).toNat))

section
variable {s n m : Nat} {v u q : List Nat} {j : Nat} {As : List (List DV → Prop)} {Q : List AV → Prop}

/-- What the guess ends with. -/
def J1 (s n j : Nat) (v u q : List Nat) (Qd : Nat) (ds : List DV) : Prop :=
  ∃ g : Nat, ds = [.int .i64 (s : Int), .int .i64 (n : Int), .int .i64 (j : Int), .int .u64 (g : Int), nl v, nl u, nl q] ∧ g < 4294967296 ∧ Qd ≤ g ∧ g ≤ Qd + 1
/-- What the taking away ends with. -/
def J2 (s n j : Nat) (v u q : List Nat) (Qd : Nat) (ds : List DV) : Prop :=
  ∃ u' : List Nat, ds = [.int .i64 (s : Int), .int .i64 (n : Int), .int .i64 (j : Int), .int .u64 (Qd : Int), nl v, nl u', nl q] ∧ WL u' ∧ u'.length = u.length ∧ val u' + 4294967296 ^ j * Qd * val v = val u

theorem w_guess {X Y : List DV → Prop} {D Qd : Nat} (hv : WL v) (hlv : v.length = n) (hn : 2 ≤ n) (hu : WL u) (hju : j + n < u.length) (hm : u.length ≤ 4398046600000) (K : KF D (val v) Qd (u.getD (j + n) 0 * 4294967296 + u.getD (j + n - 1) 0) (D / 4294967296 ^ (n - 2)) (v.getD (n - 1) 0) (val v / 4294967296 ^ (n - 2)) (u.getD (j + n - 2) 0) (v.getD (n - 2) 0))
    {ρ : List DV} (h22 : ρ[22]? = some (.int .u64 (((u.getD (j + n) 0 * 4294967296 + u.getD (j + n - 1) 0) / v.getD (n - 1) 0 : Nat) : Int))) (h27 : ρ[27]? = some (.int .u64 (((u.getD (j + n) 0 * 4294967296 + u.getD (j + n - 1) 0) % v.getD (n - 1) 0 : Nat) : Int)))
    (h0 : ρ[0]? = some (.int .i64 (s : Int))) (h1 : ρ[1]? = some (.int .i64 (n : Int))) (h2 : ρ[2]? = some (.int .i64 (j : Int))) (h3 : ρ[3]? = some (nl v)) (h4 : ρ[4]? = some (nl u)) (h5 : ρ[5]? = some (nl q)) :
    IRwp P [X, Y, J1 s n j v u q Qd] ρ long_guess Q := by
  have ht1 := hu.getD (j + n)
  have ht2 := hu.getD (j + n - 1)
  have hu2 := hu.getD (j + n - 2)
  have hv1 := hv.getD (n - 1)
  have hv2 := hv.getD (n - 2)
  generalize hd1 : v.getD (n - 1) 0 = v1 at *
  generalize hd2 : v.getD (n - 2) 0 = v2 at *
  generalize hd3 : u.getD (j + n - 2) 0 = u2 at *
  generalize htop : u.getD (j + n) 0 * 4294967296 + u.getD (j + n - 1) 0 = top at *
  have htop' : top < 18446744073709551616 := by omega
  have hp1 := K.hv1
  show IRwp P [X, Y, J1 s n j v u q Qd] ρ (.loop [.var 0, .var 1, .var 2, .var 22, .var 27, .var 3, .var 4, .var 5] _) Q
  refine loop_step (fun ds => ∃ g r : Nat, ds = [.int .i64 (s : Int), .int .i64 (n : Int), .int .i64 (j : Int), .int .u64 (g : Int), .int .u64 (r : Int), nl v, nl u, nl q] ∧ g * v1 + r = top ∧ Qd ≤ g ∧ r < 4294967296) (num 3) ?_ ?_ ?_
  · refine ⟨top / v1, top % v1, ?_, ?_, K.first, Nat.lt_trans (Nat.mod_lt _ hp1) hv1⟩
    · simp [A.ev, List.getD_eq_getElem?_getD, h0, h1, h2, h3, h4, h5, h22, h27]
    · rw [Nat.mul_comm]; exact Nat.div_add_mod _ _
  · rintro ds ⟨g, r, rfl, _⟩; rfl
  · rintro ds ⟨g, r, rfl, hgr, hq, hr⟩
    have hg0 : g < 18446744073709551616 := by
      have : g * 1 ≤ g * v1 := Nat.mul_le_mul_left _ hp1
      omega
    have e1 : ((n : Int) - 1).toNat = n - 1 := by omega
    have e2 : ((n : Int) - 2).toNat = n - 2 := by omega
    have e3 : ((j : Int) + n - 2).toNat = j + n - 2 := by omega
    -- one less
    have down : Qd < g → (g - 1) * v1 + (r + v1) = top := by
      intro h
      obtain ⟨k, rfl⟩ : ∃ k, g = k + 1 := ⟨g - 1, by omega⟩
      rw [Nat.add_sub_cancel, ← hgr]; grind
    have eg : 0 < g → (g : Int) - 1 = ((g - 1 : Nat) : Int) := fun h => by omega
    have er : (r : Int) + (v1 : Int) = ((r + v1 : Nat) : Int) := by simp
    have both : Qd < g → ∀ (L : List DV), L = [.int .i64 (s : Int), .int .i64 (n : Int), .int .i64 (j : Int), .int .u64 ((g - 1 : Nat) : Int), .int .u64 ((r + v1 : Nat) : Int), nl v, nl u, nl q] → r + v1 < 4294967296 →
        (fun ds' => (∃ g r : Nat, ds' = [.int .i64 (s : Int), .int .i64 (n : Int), .int .i64 (j : Int), .int .u64 (g : Int), .int .u64 (r : Int), nl v, nl u, nl q] ∧ g * v1 + r = top ∧ Qd ≤ g ∧ r < 4294967296) ∧ num 3 ds' < num 3 [.int .i64 (s : Int), .int .i64 (n : Int), .int .i64 (j : Int), .int .u64 (g : Int), .int .u64 (r : Int), nl v, nl u, nl q]) L := by
      intro h L hL hr'
      subst hL
      refine ⟨⟨_, _, rfl, down h, by omega, hr'⟩, ?_⟩
      show ((g - 1 : Nat) : Int).toNat < (g : Int).toNat
      omega
    have brk : Qd < g → 4294967296 ≤ r + v1 → J1 s n j v u q Qd [.int .i64 (s : Int), .int .i64 (n : Int), .int .i64 (j : Int), .int .u64 ((g - 1 : Nat) : Int), nl v, nl u, nl q] := by
      intro h hr'
      have := kf_break K (down h) hr'
      exact ⟨_, rfl, this.1, by omega, this.2⟩
    simp (disch := omega) only [STEP, Px.A.ev, List.map_cons, List.map_nil, List.getD_cons_zero, List.getD_cons_succ, List.cons_append, List.nil_append, List.append_nil, Option.isSome_some, Option.getD_some, true_and, Int.sub_zero, Int.toNat_zero, List.drop_zero, Int.toNat_natCast]
    refine ite_step rfl ?_ ?_
    · intro hgB
      have hqg : Qd < g := by have := K.qB; omega
      have eg' := eg (by omega)
      simp (disch := omega) only [STEP, Px.A.ev, List.map_cons, List.map_nil, List.getD_cons_zero, List.getD_cons_succ, List.cons_append, List.nil_append, List.append_nil, Option.isSome_some, Option.getD_some, true_and, Int.sub_zero, Int.toNat_zero, List.drop_zero, Int.toNat_natCast, e1, hd1, eg', er]
      refine ite_step rfl ?_ ?_
      · intro hb
        exact jump_step rfl (brk hqg (by omega))
      · intro hb
        exact jump_step rfl (both hqg _ rfl (by omega))
    · intro hgB
      simp (disch := omega) only [STEP, Px.A.ev, List.map_cons, List.map_nil, List.getD_cons_zero, List.getD_cons_succ, List.cons_append, List.nil_append, List.append_nil, Option.isSome_some, Option.getD_some, true_and, Int.sub_zero, Int.toNat_zero, List.drop_zero, Int.toNat_natCast]
      refine ite_step rfl ?_ ?_
      · intro hrB
        have hm := mul_lt64 (show g < 4294967296 by omega) hv2
        obtain ⟨gv, hgv⟩ : ∃ gv : Nat, gv = g * v2 := ⟨_, rfl⟩
        rw [← hgv] at hm
        have em : Prim.den (.bin .mul) [.int .u64 (g : Int), .int .u64 (v2 : Int)] = some (.int .u64 (gv : Int)) := by
          have : (g : Int) * (v2 : Int) = (gv : Int) := by rw [hgv]; simp
          rw [d_mulu (by omega) (by omega), this]
        simp (disch := omega) only [STEP, Px.A.ev, List.map_cons, List.map_nil, List.getD_cons_zero, List.getD_cons_succ, List.cons_append, List.nil_append, List.append_nil, Option.isSome_some, Option.getD_some, true_and, Int.sub_zero, Int.toNat_zero, List.drop_zero, Int.toNat_natCast, e2, e3, hd2, hd3, em, d_or64]
        refine ite_step rfl ?_ ?_
        · intro ht
          have hqg : Qd < g := kf_down K hgr (by rw [← hgv]; omega)
          have eg' := eg (by omega)
          simp (disch := omega) only [STEP, Px.A.ev, List.map_cons, List.map_nil, List.getD_cons_zero, List.getD_cons_succ, List.cons_append, List.nil_append, List.append_nil, Option.isSome_some, Option.getD_some, true_and, Int.sub_zero, Int.toNat_zero, List.drop_zero, Int.toNat_natCast, e1, hd1, eg', er]
          refine ite_step rfl ?_ ?_
          · intro hb
            exact jump_step rfl (brk hqg (by omega))
          · intro hb
            exact jump_step rfl (both hqg _ rfl (by omega))
        · intro ht
          refine jump_step rfl ⟨_, rfl, by omega, hq, ?_⟩
          exact kf_end K hgr (by omega) (by rw [← hgv]; omega)
      · intro hrB; exfalso; omega

end
end Go.Px.Na

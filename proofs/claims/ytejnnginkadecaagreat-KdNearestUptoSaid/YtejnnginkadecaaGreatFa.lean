/- Fa: directions, maps, frames, spots as numbers; how they lie; how long they are. -/
import Derived.Test.YtejnnginkadecaaGreatLs
set_option linter.unusedVariables false
set_option linter.unusedSimpArgs false
namespace Go.Px.Na
open Go.RowKit

structure V3 where
  x : Rat
  y : Rat
  z : Rat
structure M4 where
  X : V3
  Y : V3
  Z : V3
  W : V3
structure Fr where
  A : V3
  B : V3
  N : V3
structure Sp where
  P : V3
  N : V3
def V3.l (v : V3) : List Rat := [v.x, v.y, v.z]
def M4.l (m : M4) : List Rat := [m.X.x, m.X.y, m.X.z, m.Y.x, m.Y.y, m.Y.z, m.Z.x, m.Z.y, m.Z.z, m.W.x, m.W.y, m.W.z]
def Fr.l (m : Fr) : List Rat := [m.A.x, m.A.y, m.A.z, m.B.x, m.B.y, m.B.z, m.N.x, m.N.y, m.N.z]
def Sp.l (m : Sp) : List Rat := [m.P.x, m.P.y, m.P.z, m.N.x, m.N.y, m.N.z]

def V3.dot (a b : V3) : Rat := a.x * b.x + a.y * b.y + a.z * b.z
def V3.sub (a b : V3) : V3 := ⟨a.x - b.x, a.y - b.y, a.z - b.z⟩
def V3.add (a b : V3) : V3 := ⟨a.x + b.x, a.y + b.y, a.z + b.z⟩
def V3.cross (a b : V3) : V3 := ⟨a.y * b.z - a.z * b.y, a.z * b.x - a.x * b.z, a.x * b.y - a.y * b.x⟩
abbrev e1 : V3 := ⟨1, 0, 0⟩
abbrev e2 : V3 := ⟨0, 1, 0⟩
abbrev e3 : V3 := ⟨0, 0, 1⟩
abbrev o3 : V3 := ⟨0, 0, 0⟩
def M4.turn (m : M4) (d : V3) : V3 := ⟨m.X.dot d, m.Y.dot d, m.Z.dot d⟩
def M4.app (m : M4) (p : V3) : V3 := (m.turn p).add m.W
def M4.area (m : M4) (n : V3) : V3 := ⟨(m.Y.cross m.Z).dot n, (m.Z.cross m.X).dot n, (m.X.cross m.Y).dot n⟩
def M4.det (m : M4) : Rat := m.X.dot (m.Y.cross m.Z)
/-- As they lie. -/
structure RV where
  x : RR
  y : RR
  z : RR
structure RM where
  X : RV
  Y : RV
  Z : RV
  W : RV
structure RF where
  A : RV
  B : RV
  N : RV
structure RS where
  P : RV
  N : RV
def RV.l (r : RV) : List RR := [r.x, r.y, r.z]
def RM.l (m : RM) : List RR := [m.X.x, m.X.y, m.X.z, m.Y.x, m.Y.y, m.Y.z, m.Z.x, m.Z.y, m.Z.z, m.W.x, m.W.y, m.W.z]
def RF.l (m : RF) : List RR := [m.A.x, m.A.y, m.A.z, m.B.x, m.B.y, m.B.z, m.N.x, m.N.y, m.N.z]
def RS.l (m : RS) : List RR := [m.P.x, m.P.y, m.P.z, m.N.x, m.N.y, m.N.z]
def cv (v : V3) : RV := ⟨cr v.x, cr v.y, cr v.z⟩
def cm (m : M4) : RM := ⟨cv m.X, cv m.Y, cv m.Z, cv m.W⟩
def cf (m : Fr) : RF := ⟨cv m.A, cv m.B, cv m.N⟩

structure NV (L : Nat) (r : RV) (v : V3) : Prop where
  x : Num L r.x v.x
  y : Num L r.y v.y
  z : Num L r.z v.z
structure NM (L : Nat) (r : RM) (v : M4) : Prop where
  X : NV L r.X v.X
  Y : NV L r.Y v.Y
  Z : NV L r.Z v.Z
  W : NV L r.W v.W
structure NF (L : Nat) (r : RF) (v : Fr) : Prop where
  A : NV L r.A v.A
  B : NV L r.B v.B
  N : NV L r.N v.N
structure NS (L : Nat) (r : RS) (v : Sp) : Prop where
  P : NV L r.P v.P
  N : NV L r.N v.N
structure SV (L : Nat) (v : V3) : Prop where
  x : Sm L v.x
  y : Sm L v.y
  z : Sm L v.z
structure SM (L : Nat) (v : M4) : Prop where
  X : SV L v.X
  Y : SV L v.Y
  Z : SV L v.Z
  W : SV L v.W
structure SF (L : Nat) (v : Fr) : Prop where
  A : SV L v.A
  B : SV L v.B
  N : SV L v.N
section
variable {L M : Nat}
theorem NV.mono {r : RV} {v : V3} (h : NV L r v) (hl : L ≤ M) : NV M r v := ⟨h.x.mono hl, h.y.mono hl, h.z.mono hl⟩
theorem NM.mono {r : RM} {v : M4} (h : NM L r v) (hl : L ≤ M) : NM M r v := ⟨h.X.mono hl, h.Y.mono hl, h.Z.mono hl, h.W.mono hl⟩
theorem NF.mono {r : RF} {v : Fr} (h : NF L r v) (hl : L ≤ M) : NF M r v := ⟨h.A.mono hl, h.B.mono hl, h.N.mono hl⟩
theorem NS.mono {r : RS} {v : Sp} (h : NS L r v) (hl : L ≤ M) : NS M r v := ⟨h.P.mono hl, h.N.mono hl⟩
theorem SV.mono {v : V3} (h : SV L v) (hl : L ≤ M) : SV M v := ⟨h.x.mono hl, h.y.mono hl, h.z.mono hl⟩
theorem SM.mono {v : M4} (h : SM L v) (hl : L ≤ M) : SM M v := ⟨h.X.mono hl, h.Y.mono hl, h.Z.mono hl, h.W.mono hl⟩
theorem NV.sm {r : RV} {v : V3} (h : NV L r v) : SV L v := ⟨h.x.sm, h.y.sm, h.z.sm⟩
theorem NM.sm {r : RM} {v : M4} (h : NM L r v) : SM L v := ⟨h.X.sm, h.Y.sm, h.Z.sm, h.W.sm⟩
theorem NF.sm {r : RF} {v : Fr} (h : NF L r v) : SF L v := ⟨h.A.sm, h.B.sm, h.N.sm⟩
theorem NV.of {v : V3} (h : SV L v) : NV L (cv v) v := ⟨.of h.x, .of h.y, .of h.z⟩
theorem NM.of {v : M4} (h : SM L v) : NM L (cm v) v := ⟨.of h.X, .of h.Y, .of h.Z, .of h.W⟩
theorem NF.of {v : Fr} (h : SF L v) : NF L (cf v) v := ⟨.of h.A, .of h.B, .of h.N⟩
variable {a b c : V3} {m : M4} {k : Rat}
theorem SV.sub (h : SV L a) (g : SV M b) : SV (L + M + 1) (a.sub b) := ⟨h.x.sub g.x, h.y.sub g.y, h.z.sub g.z⟩
theorem SV.add (h : SV L a) (g : SV M b) : SV (L + M + 1) (a.add b) := ⟨h.x.add g.x, h.y.add g.y, h.z.add g.z⟩
theorem SV.dot (h : SV L a) (g : SV M b) : Sm (3 * (L + M) + 2) (a.dot b) := (((h.x.mul g.x).add (h.y.mul g.y)).add (h.z.mul g.z)).mono (by omega)
theorem SV.cross (h : SV L a) (g : SV M b) : SV (2 * (L + M) + 1) (a.cross b) := ⟨((h.y.mul g.z).sub (h.z.mul g.y)).mono (by omega), ((h.z.mul g.x).sub (h.x.mul g.z)).mono (by omega), ((h.x.mul g.y).sub (h.y.mul g.x)).mono (by omega)⟩
theorem SM.turn (h : SM L m) (g : SV M b) : SV (3 * (L + M) + 2) (m.turn b) := ⟨h.X.dot g, h.Y.dot g, h.Z.dot g⟩
theorem SM.app (h : SM L m) (g : SV M b) : SV (4 * L + 3 * M + 3) (m.app b) := ((h.turn g).add h.W).mono (by omega)
theorem SM.area (h : SM L m) (g : SV M b) : SV (12 * L + 3 * M + 5) (m.area b) := ⟨((h.Y.cross h.Z).dot g).mono (by omega), ((h.Z.cross h.X).dot g).mono (by omega), ((h.X.cross h.Y).dot g).mono (by omega)⟩
theorem SM.det (h : SM L m) : Sm (15 * L + 5) m.det := (h.X.dot (h.Y.cross h.Z)).mono (by omega)
end
/-- The way from one spot to another one, unfolded; its height; the other's area as it is seen; the slopes. -/
def way (x y : Sp) (u : M4) : V3 := (u.app y.P).sub x.P
def wz (x y : Sp) (u : M4) : Rat := (way x y u).dot x.N
def wc (x y : Sp) (u : M4) : Rat := (u.area y.N).dot (way x y u)
def units (x y : Sp) : Prop := x.N.dot x.N = 1 ∧ y.N.dot y.N = 1
instance (x y : Sp) : Decidable (units x y) := inferInstanceAs (Decidable (_ ∧ _))
def seen (x y : Sp) (u : M4) : Prop := units x y ∧ 0 < wz x y u ∧ wc x y u * u.det < 0
instance (x y : Sp) (u : M4) : Decidable (seen x y u) := inferInstanceAs (Decidable (_ ∧ _ ∧ _))
structure SS (L : Nat) (v : Sp) : Prop where
  P : SV L v.P
  N : SV L v.N
theorem NS.sm {L : Nat} {r : RS} {v : Sp} (h : NS L r v) : SS L v := ⟨h.P.sm, h.N.sm⟩
section
variable {L M : Nat} {x y : Sp} {u : M4}
theorem SS.way (hx : SS L x) (hy : SS L y) (hu : SM M u) : SV (4 * L + 4 * M + 4) (way x y u) := ((hu.app hy.P).sub hx.P).mono (by omega)
theorem SS.wz (hx : SS L x) (hy : SS L y) (hu : SM M u) : Sm (15 * L + 12 * M + 14) (wz x y u) := ((hx.way hy hu).dot hx.N).mono (by omega)
theorem SS.wc (hx : SS L x) (hy : SS L y) (hu : SM M u) : Sm (21 * L + 48 * M + 29) (wc x y u) := ((hu.area hy.N).dot (hx.way hy hu)).mono (by omega)
end
theorem SS.mono {L M : Nat} {x : Sp} (h : SS L x) (hl : L ≤ M) : SS M x := ⟨h.P.mono hl, h.N.mono hl⟩
theorem Smc {q : Rat} (h1 : q.num.natAbs < 4294967296) (h2 : q.den < 4294967296) : Sm 1 q := ⟨limbs_len (by simpa using h1), limbs_len (by simpa using h2)⟩
section
variable {L M L2 : Nat} {a b c : RR} {x y z : Rat}
theorem Num.z0 : Num 1 rz 0 := Num.zz rfl
abbrev rlN2 (_ : Num L a x) (_ : Num M b y) : DV := rl [a, b]
abbrev rlN3 (_ : Num L a x) (_ : Num M b y) (_ : Num L2 c z) : DV := rl [a, b, c]
end

/-! Truths that part the ways. -/
section
variable {P : Program} {As : List (List DV → Prop)} {ρ : List DV} {Q : List AV → Prop}
theorem itD {a : Px.A} {x y : IR} {c : Prop} [Decidable c] (h : a.ev ρ = .bool (decide c)) (hx : c → IRwp P As ρ x Q) (hy : ¬c → IRwp P As ρ y Q) : IRwp P As ρ (.ite a x y) Q :=
  itb_step h (fun h => hx (of_decide_eq_true h)) (fun h => hy (of_decide_eq_false h))
theorem itN {a : Px.A} {x y : IR} {c : Prop} [Decidable c] (h : a.ev ρ = .bool (!decide c)) (hx : ¬c → IRwp P As ρ x Q) (hy : c → IRwp P As ρ y Q) : IRwp P As ρ (.ite a x y) Q :=
  itb_step h (fun h => hx (of_decide_eq_false (by simpa using h))) (fun h => hy (of_decide_eq_true (by simpa using h)))
variable {x y : Rat}
theorem dd {p q : Prop} [Decidable p] [Decidable q] (h : p ↔ q) : some (DV.bool (decide p)) = some (.bool (decide q)) := by rw [decide_eq_decide.2 h]
theorem pr_gt : Prim.den (.bin .gtr) [.int .i64 x.num.sign, .int .i64 0] = some (.bool (decide (0 < x))) := by rw [d_gtr]; exact dd (sg_gt rfl)
theorem sign_mul : (x * y).num.sign = x.num.sign * y.num.sign := by
  have p : ∀ t : Rat, t < 0 ∨ t = 0 ∨ 0 < t := fun t => by grind
  have sp : ∀ {t : Rat}, 0 < t → t.num.sign = 1 := fun h => Int.sign_eq_one_of_pos (num_pos_iff.2 h)
  have sn : ∀ {t : Rat}, t < 0 → t.num.sign = -1 := fun h => Int.sign_eq_neg_one_of_neg (num_neg_iff.2 h)
  rcases p x with h | h | h <;> rcases p y with g | g | g
  · rw [sn h, sn g, sp (s_mul_nn rfl rfl h g)]; rfl
  · rw [g]; simp
  · rw [sn h, sp g, sn (s_mul_np rfl rfl h g)]; rfl
  · rw [h]; simp
  · rw [h]; simp
  · rw [h]; simp
  · rw [sp h, sn g, sn (s_mul_pn rfl rfl h g)]; rfl
  · rw [g]; simp
  · rw [sp h, sp g, sp (s_mul_pp rfl rfl h g)]; rfl
end
end Go.Px.Na

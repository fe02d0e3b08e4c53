/- Fa: directions, maps, frames, spots as numbers; how they lie; how long they are. -/
import Derived.Test.YtnohcccgfefnkaaGreatLs
set_option linter.unusedVariables false
set_option linter.unusedSimpArgs false
namespace Go.Px.Na
open Go.RowKit

structure V3 where
  x : Rat
  y : Rat
  z : Rat
structure M4 where
  X : V3
  Y : V3
  Z : V3
  W : V3
structure Fr where
  A : V3
  B : V3
  N : V3
structure Sp where
  P : V3
  N : V3
def V3.l (v : V3) : List Rat := [v.x, v.y, v.z]
def M4.l (m : M4) : List Rat := [m.X.x, m.X.y, m.X.z, m.Y.x, m.Y.y, m.Y.z, m.Z.x, m.Z.y, m.Z.z, m.W.x, m.W.y, m.W.z]
def Fr.l (m : Fr) : List Rat := [m.A.x, m.A.y, m.A.z, m.B.x, m.B.y, m.B.z, m.N.x, m.N.y, m.N.z]
def Sp.l (m : Sp) : List Rat := [m.P.x, m.P.y, m.P.z, m.N.x, m.N.y, m.N.z]

def V3.dot (a b : V3) : Rat := a.x * b.x + a.y * b.y + a.z * b.z
def V3.sub (a b : V3) : V3 := ⟨a.x - b.x, a.y - b.y, a.z - b.z⟩
def V3.add (a b : V3) : V3 := ⟨a.x + b.x, a.y + b.y, a.z + b.z⟩
def V3.smul (k : Rat) (b : V3) : V3 := ⟨k * b.x, k * b.y, k * b.z⟩
def V3.cross (a b : V3) : V3 := ⟨a.y * b.z - a.z * b.y, a.z * b.x - a.x * b.z, a.x * b.y - a.y * b.x⟩
abbrev e1 : V3 := ⟨1, 0, 0⟩
abbrev e2 : V3 := ⟨0, 1, 0⟩
abbrev e3 : V3 := ⟨0, 0, 1⟩
abbrev o3 : V3 := ⟨0, 0, 0⟩
abbrev idm : M4 := ⟨e1, e2, e3, o3⟩
def M4.turn (m : M4) (d : V3) : V3 := ⟨m.X.dot d, m.Y.dot d, m.Z.dot d⟩
def M4.app (m : M4) (p : V3) : V3 := (m.turn p).add m.W
def M4.area (m : M4) (n : V3) : V3 := ⟨(m.Y.cross m.Z).dot n, (m.Z.cross m.X).dot n, (m.X.cross m.Y).dot n⟩
def M4.det (m : M4) : Rat := m.X.dot (m.Y.cross m.Z)
/-- The way from a direction to the third axis. -/
def fw (n : V3) : V3 := e3.sub n
def fk (n : V3) : Rat := -2 / (fw n).dot (fw n)
def frm (n : V3) : Fr := ⟨e1.add (V3.smul (fk n * (fw n).x) (fw n)), e2.add (V3.smul (fk n * (fw n).y) (fw n)), n⟩

/-- As they lie. -/
structure RV where
  x : RR
  y : RR
  z : RR
structure RM where
  X : RV
  Y : RV
  Z : RV
  W : RV
structure RF where
  A : RV
  B : RV
  N : RV
structure RS where
  P : RV
  N : RV
def RV.l (r : RV) : List RR := [r.x, r.y, r.z]
def RM.l (m : RM) : List RR := [m.X.x, m.X.y, m.X.z, m.Y.x, m.Y.y, m.Y.z, m.Z.x, m.Z.y, m.Z.z, m.W.x, m.W.y, m.W.z]
def RF.l (m : RF) : List RR := [m.A.x, m.A.y, m.A.z, m.B.x, m.B.y, m.B.z, m.N.x, m.N.y, m.N.z]
def RS.l (m : RS) : List RR := [m.P.x, m.P.y, m.P.z, m.N.x, m.N.y, m.N.z]
def cv (v : V3) : RV := ⟨cr v.x, cr v.y, cr v.z⟩
def cm (m : M4) : RM := ⟨cv m.X, cv m.Y, cv m.Z, cv m.W⟩
def cf (m : Fr) : RF := ⟨cv m.A, cv m.B, cv m.N⟩

structure NV (L : Nat) (r : RV) (v : V3) : Prop where
  x : Num L r.x v.x
  y : Num L r.y v.y
  z : Num L r.z v.z
structure NM (L : Nat) (r : RM) (v : M4) : Prop where
  X : NV L r.X v.X
  Y : NV L r.Y v.Y
  Z : NV L r.Z v.Z
  W : NV L r.W v.W
structure NF (L : Nat) (r : RF) (v : Fr) : Prop where
  A : NV L r.A v.A
  B : NV L r.B v.B
  N : NV L r.N v.N
structure NS (L : Nat) (r : RS) (v : Sp) : Prop where
  P : NV L r.P v.P
  N : NV L r.N v.N
structure SV (L : Nat) (v : V3) : Prop where
  x : Sm L v.x
  y : Sm L v.y
  z : Sm L v.z
structure SM (L : Nat) (v : M4) : Prop where
  X : SV L v.X
  Y : SV L v.Y
  Z : SV L v.Z
  W : SV L v.W
structure SF (L : Nat) (v : Fr) : Prop where
  A : SV L v.A
  B : SV L v.B
  N : SV L v.N
section
variable {L M : Nat}
theorem NV.mono {r : RV} {v : V3} (h : NV L r v) (hl : L ≤ M) : NV M r v := ⟨h.x.mono hl, h.y.mono hl, h.z.mono hl⟩
theorem NM.mono {r : RM} {v : M4} (h : NM L r v) (hl : L ≤ M) : NM M r v := ⟨h.X.mono hl, h.Y.mono hl, h.Z.mono hl, h.W.mono hl⟩
theorem NF.mono {r : RF} {v : Fr} (h : NF L r v) (hl : L ≤ M) : NF M r v := ⟨h.A.mono hl, h.B.mono hl, h.N.mono hl⟩
theorem NS.mono {r : RS} {v : Sp} (h : NS L r v) (hl : L ≤ M) : NS M r v := ⟨h.P.mono hl, h.N.mono hl⟩
theorem SV.mono {v : V3} (h : SV L v) (hl : L ≤ M) : SV M v := ⟨h.x.mono hl, h.y.mono hl, h.z.mono hl⟩
theorem SM.mono {v : M4} (h : SM L v) (hl : L ≤ M) : SM M v := ⟨h.X.mono hl, h.Y.mono hl, h.Z.mono hl, h.W.mono hl⟩
theorem NV.sm {r : RV} {v : V3} (h : NV L r v) : SV L v := ⟨h.x.sm, h.y.sm, h.z.sm⟩
theorem NM.sm {r : RM} {v : M4} (h : NM L r v) : SM L v := ⟨h.X.sm, h.Y.sm, h.Z.sm, h.W.sm⟩
theorem NF.sm {r : RF} {v : Fr} (h : NF L r v) : SF L v := ⟨h.A.sm, h.B.sm, h.N.sm⟩
theorem NV.of {v : V3} (h : SV L v) : NV L (cv v) v := ⟨.of h.x, .of h.y, .of h.z⟩
theorem NM.of {v : M4} (h : SM L v) : NM L (cm v) v := ⟨.of h.X, .of h.Y, .of h.Z, .of h.W⟩
theorem NF.of {v : Fr} (h : SF L v) : NF L (cf v) v := ⟨.of h.A, .of h.B, .of h.N⟩
variable {a b c : V3} {m : M4} {k : Rat}
theorem SV.sub (h : SV L a) (g : SV M b) : SV (L + M + 1) (a.sub b) := ⟨h.x.sub g.x, h.y.sub g.y, h.z.sub g.z⟩
theorem SV.add (h : SV L a) (g : SV M b) : SV (L + M + 1) (a.add b) := ⟨h.x.add g.x, h.y.add g.y, h.z.add g.z⟩
theorem SV.smul (h : Sm L k) (g : SV M b) : SV (L + M) (V3.smul k b) := ⟨h.mul g.x, h.mul g.y, h.mul g.z⟩
theorem SV.dot (h : SV L a) (g : SV M b) : Sm (3 * (L + M) + 2) (a.dot b) := (((h.x.mul g.x).add (h.y.mul g.y)).add (h.z.mul g.z)).mono (by omega)
theorem SV.cross (h : SV L a) (g : SV M b) : SV (2 * (L + M) + 1) (a.cross b) := ⟨((h.y.mul g.z).sub (h.z.mul g.y)).mono (by omega), ((h.z.mul g.x).sub (h.x.mul g.z)).mono (by omega), ((h.x.mul g.y).sub (h.y.mul g.x)).mono (by omega)⟩
theorem Se1 : SV 1 e1 := ⟨Sm1, Sm0, Sm0⟩
theorem Se2 : SV 1 e2 := ⟨Sm0, Sm1, Sm0⟩
theorem Se3 : SV 1 e3 := ⟨Sm0, Sm0, Sm1⟩
theorem So3 : SV 1 o3 := ⟨Sm0, Sm0, Sm0⟩
theorem SF0 : SF 1 ⟨o3, o3, o3⟩ := ⟨So3, So3, So3⟩
theorem Sidm : SM 1 idm := ⟨Se1, Se2, Se3, So3⟩
theorem SM.turn (h : SM L m) (g : SV M b) : SV (3 * (L + M) + 2) (m.turn b) := ⟨h.X.dot g, h.Y.dot g, h.Z.dot g⟩
theorem SM.app (h : SM L m) (g : SV M b) : SV (4 * L + 3 * M + 3) (m.app b) := ((h.turn g).add h.W).mono (by omega)
theorem SM.area (h : SM L m) (g : SV M b) : SV (12 * L + 3 * M + 5) (m.area b) := ⟨((h.Y.cross h.Z).dot g).mono (by omega), ((h.Z.cross h.X).dot g).mono (by omega), ((h.X.cross h.Y).dot g).mono (by omega)⟩
theorem SM.det (h : SM L m) : Sm (15 * L + 5) m.det := (h.X.dot (h.Y.cross h.Z)).mono (by omega)
theorem Sm2 : Sm 1 (2 : Rat) := ⟨limbs_len (by decide +kernel), limbs_len (by decide +kernel)⟩
theorem Smm2 : Sm 1 (-2 : Rat) := ⟨limbs_len (by decide +kernel), limbs_len (by decide +kernel)⟩
theorem SV.fw (h : SV L a) : SV (L + 2) (fw a) := (Se3.sub h).mono (by omega)
theorem SV.fk (h : SV L a) : Sm (6 * L + 15) (fk a) := (Smm2.div (h.fw.dot h.fw)).mono (by omega)
theorem SV.frm (h : SV L a) : SF (8 * L + 21) (frm a) := ⟨(Se1.add (SV.smul (h.fk.mul h.fw.x) h.fw)).mono (by omega), (Se2.add (SV.smul (h.fk.mul h.fw.y) h.fw)).mono (by omega), h.mono (by omega)⟩
end
/-- The way from one spot to another one, unfolded; its height; the other's area as it is seen; the slopes. -/
def way (x y : Sp) (u : M4) : V3 := (u.app y.P).sub x.P
def wz (x y : Sp) (u : M4) : Rat := (way x y u).dot x.N
def wc (x y : Sp) (u : M4) : Rat := (u.area y.N).dot (way x y u)
def sA (x y : Sp) (u : M4) : Rat := (way x y u).dot (frm x.N).A / wz x y u
def sB (x y : Sp) (u : M4) : Rat := (way x y u).dot (frm x.N).B / wz x y u
def units (x y : Sp) : Prop := x.N.dot x.N = 1 ∧ y.N.dot y.N = 1
instance (x y : Sp) : Decidable (units x y) := inferInstanceAs (Decidable (_ ∧ _))
def seen (x y : Sp) (u : M4) : Prop := units x y ∧ 0 < wz x y u ∧ wc x y u * u.det < 0
instance (x y : Sp) (u : M4) : Decidable (seen x y u) := inferInstanceAs (Decidable (_ ∧ _ ∧ _))
def ahd (x y : Sp) (u : M4) : Rat := if seen x y u then dns (sA x y u) * dns (sB x y u) * (wc x y u).abs / (wz x y u * wz x y u * wz x y u) else 0
structure SS (L : Nat) (v : Sp) : Prop where
  P : SV L v.P
  N : SV L v.N
theorem NS.sm {L : Nat} {r : RS} {v : Sp} (h : NS L r v) : SS L v := ⟨h.P.sm, h.N.sm⟩
section
variable {L M : Nat} {x y : Sp} {u : M4}
theorem SS.way (hx : SS L x) (hy : SS L y) (hu : SM M u) : SV (4 * L + 4 * M + 4) (way x y u) := ((hu.app hy.P).sub hx.P).mono (by omega)
theorem SS.wz (hx : SS L x) (hy : SS L y) (hu : SM M u) : Sm (15 * L + 12 * M + 14) (wz x y u) := ((hx.way hy hu).dot hx.N).mono (by omega)
theorem SS.wc (hx : SS L x) (hy : SS L y) (hu : SM M u) : Sm (21 * L + 48 * M + 29) (wc x y u) := ((hu.area hy.N).dot (hx.way hy hu)).mono (by omega)
theorem SS.sA (hx : SS L x) (hy : SS L y) (hu : SM M u) : Sm (51 * L + 24 * M + 91) (sA x y u) := (((hx.way hy hu).dot hx.N.frm.A).div (hx.wz hy hu)).mono (by omega)
theorem SS.sB (hx : SS L x) (hy : SS L y) (hu : SM M u) : Sm (51 * L + 24 * M + 91) (sB x y u) := (((hx.way hy hu).dot hx.N.frm.B).div (hx.wz hy hu)).mono (by omega)
theorem SS.ahd (hx : SS L x) (hy : SS L y) (hu : SM M u) : Sm (678 * L + 372 * M + 1187) (ahd x y u) := by
  have z := hx.wz hy hu
  unfold Na.ahd
  split
  · exact ((((hx.sA hy hu).dns.mul (hx.sB hy hu).dns).mul (hx.wc hy hu).abs).div ((z.mul z).mul z)).mono (by omega)
  · exact Sm0.mono (by omega)
end
theorem SS.mono {L M : Nat} {x : Sp} (h : SS L x) (hl : L ≤ M) : SS M x := ⟨h.P.mono hl, h.N.mono hl⟩
theorem SS.ahd2 {L K M : Nat} {x y : Sp} {u : M4} (hx : SS L x) (hy : SS K y) (hu : SM M u) : Sm (678 * (L + K) + 372 * M + 1187) (Na.ahd x y u) := (hx.mono (Nat.le_add_right L K)).ahd (hy.mono (Nat.le_add_left K L)) hu
/-- The inverse. -/
def invo (m : M4) : M4 :=
  ⟨⟨1 / m.det * (m.Y.cross m.Z).x, 1 / m.det * (m.Z.cross m.X).x, 1 / m.det * (m.X.cross m.Y).x⟩, ⟨1 / m.det * (m.Y.cross m.Z).y, 1 / m.det * (m.Z.cross m.X).y, 1 / m.det * (m.X.cross m.Y).y⟩, ⟨1 / m.det * (m.Y.cross m.Z).z, 1 / m.det * (m.Z.cross m.X).z, 1 / m.det * (m.X.cross m.Y).z⟩, o3⟩
def inv (m : M4) : M4 := ⟨(invo m).X, (invo m).Y, (invo m).Z, V3.smul (-1) ((invo m).turn m.W)⟩
theorem Smm1 : Sm 1 (-1 : Rat) := ⟨limbs_len (by decide +kernel), limbs_len (by decide +kernel)⟩
theorem Smh : Sm 1 (1 / 2 : Rat) := ⟨limbs_len (by decide +kernel), limbs_len (by decide +kernel)⟩
theorem SM.inv {L : Nat} {m : M4} (h : SM L m) : SM (60 * L + 24) (inv m) := by
  have k : Sm (15 * L + 6) (1 / m.det) := (Sm1.div h.det).mono (by omega)
  have a : SV (19 * L + 7) (V3.smul (1 / m.det) (m.Y.cross m.Z)) := (SV.smul k (h.Y.cross h.Z)).mono (by omega)
  have b : SV (19 * L + 7) (V3.smul (1 / m.det) (m.Z.cross m.X)) := (SV.smul k (h.Z.cross h.X)).mono (by omega)
  have c : SV (19 * L + 7) (V3.smul (1 / m.det) (m.X.cross m.Y)) := (SV.smul k (h.X.cross h.Y)).mono (by omega)
  have o : SM (19 * L + 7) (invo m) := ⟨⟨a.x, b.x, c.x⟩, ⟨a.y, b.y, c.y⟩, ⟨a.z, b.z, c.z⟩, So3.mono (by omega)⟩
  exact ⟨o.X.mono (by omega), o.Y.mono (by omega), o.Z.mono (by omega), (SV.smul Smm1 (o.turn h.W)).mono (by omega)⟩

section
variable {L M L2 : Nat} {a b c : RR} {x y z : Rat}
theorem NV.mk3 (h : Num L a x) (g : Num L b y) (k : Num L c z) : NV L ⟨a, b, c⟩ ⟨x, y, z⟩ := ⟨h, g, k⟩
theorem NM.mk4 {r0 r1 r2 r3 : RV} {v0 v1 v2 v3 : V3} (h : NV L r0 v0) (g : NV L r1 v1) (k : NV L r2 v2) (l : NV L r3 v3) : NM L ⟨r0, r1, r2, r3⟩ ⟨v0, v1, v2, v3⟩ := ⟨h, g, k, l⟩
theorem NF.mk3 {r0 r1 r2 : RV} {v0 v1 v2 : V3} (h : NV L r0 v0) (g : NV L r1 v1) (k : NV L r2 v2) : NF L ⟨r0, r1, r2⟩ ⟨v0, v1, v2⟩ := ⟨h, g, k⟩
theorem Num.z0 : Num 1 rz 0 := Num.zz rfl
abbrev rlN2 (_ : Num L a x) (_ : Num M b y) : DV := rl [a, b]
abbrev rlN3 (_ : Num L a x) (_ : Num M b y) (_ : Num L2 c z) : DV := rl [a, b, c]
abbrev rlV2 {r s : RV} {u v : V3} (_ : NV L r u) (_ : NV M s v) : DV := rl3 [(r.x, r.y, r.z), (s.x, s.y, s.z)]
end

/-! Truths that part the ways. -/
section
variable {P : Program} {As : List (List DV → Prop)} {ρ : List DV} {Q : List AV → Prop}
theorem itD {a : Px.A} {x y : IR} {c : Prop} [Decidable c] (h : a.ev ρ = .bool (decide c)) (hx : c → IRwp P As ρ x Q) (hy : ¬c → IRwp P As ρ y Q) : IRwp P As ρ (.ite a x y) Q :=
  itb_step h (fun h => hx (of_decide_eq_true h)) (fun h => hy (of_decide_eq_false h))
theorem itN {a : Px.A} {x y : IR} {c : Prop} [Decidable c] (h : a.ev ρ = .bool (!decide c)) (hx : ¬c → IRwp P As ρ x Q) (hy : c → IRwp P As ρ y Q) : IRwp P As ρ (.ite a x y) Q :=
  itb_step h (fun h => hx (of_decide_eq_false (by simpa using h))) (fun h => hy (of_decide_eq_true (by simpa using h)))
variable {x y : Rat}
theorem dd {p q : Prop} [Decidable p] [Decidable q] (h : p ↔ q) : some (DV.bool (decide p)) = some (.bool (decide q)) := by rw [decide_eq_decide.2 h]
theorem pr_gt : Prim.den (.bin .gtr) [.int .i64 x.num.sign, .int .i64 0] = some (.bool (decide (0 < x))) := by rw [d_gtr]; exact dd (sg_gt rfl)
theorem pr_lt : Prim.den (.bin .lss) [.int .i64 x.num.sign, .int .i64 0] = some (.bool (decide (x < 0))) := by rw [d_lss]; exact dd (sg_lt rfl)
theorem pr_eq : Prim.den (.bin .eql) [.int .i64 x.num.sign, .int .i64 0] = some (.bool (decide (x = 0))) := by rw [d_eql]; exact dd (sg_eq rfl)
theorem pr_ne : Prim.den (.bin .neq) [.int .i64 x.num.sign, .int .i64 0] = some (.bool (decide (x ≠ 0))) := by rw [d_neq]; exact dd (not_congr (sg_eq rfl))
theorem pr_le : Prim.den (.bin .leq) [.int .i64 x.num.sign, .int .i64 0] = some (.bool (decide (x ≤ 0))) := by rw [d_leq]; exact dd (by have h := sg_gt (x := x) (Z0 := 0) rfl; rw [← Rat.not_lt, ← h]; omega)
theorem pr_ge : Prim.den (.bin .geq) [.int .i64 x.num.sign, .int .i64 0] = some (.bool (decide (0 ≤ x))) := by rw [d_geq]; exact dd (by have h := sg_lt (x := x) (Z0 := 0) rfl; rw [← Rat.not_lt, ← h]; omega)
theorem sign_mul : (x * y).num.sign = x.num.sign * y.num.sign := by
  have p : ∀ t : Rat, t < 0 ∨ t = 0 ∨ 0 < t := fun t => by grind
  have sp : ∀ {t : Rat}, 0 < t → t.num.sign = 1 := fun h => Int.sign_eq_one_of_pos (num_pos_iff.2 h)
  have sn : ∀ {t : Rat}, t < 0 → t.num.sign = -1 := fun h => Int.sign_eq_neg_one_of_neg (num_neg_iff.2 h)
  rcases p x with h | h | h <;> rcases p y with g | g | g
  · rw [sn h, sn g, sp (s_mul_nn rfl rfl h g)]; rfl
  · rw [g]; simp
  · rw [sn h, sp g, sn (s_mul_np rfl rfl h g)]; rfl
  · rw [h]; simp
  · rw [h]; simp
  · rw [h]; simp
  · rw [sp h, sn g, sn (s_mul_pn rfl rfl h g)]; rfl
  · rw [g]; simp
  · rw [sp h, sp g, sp (s_mul_pp rfl rfl h g)]; rfl
theorem pr_mul : Prim.den (.bin .mul) [.int .i64 x.num.sign, .int .i64 y.num.sign] = some (.int .i64 (x * y).num.sign) := by
  rw [sign_mul]
  refine ii_mul rfl rfl ?_
  have p : ∀ t : Rat, t.num.sign = -1 ∨ t.num.sign = 0 ∨ t.num.sign = 1 := fun t => by rcases Int.sign_trichotomy t.num with h | h | h <;> omega
  rcases p x with h | h | h <;> rcases p y with g | g | g <;> rw [h, g] <;> decide
end
theorem gW_0 : gW [] = [] := rfl
theorem gW_1 {x : RR} {l : List RR} : gW (x :: l) = .bool x.neg :: nl x.num :: nl x.den :: gW l := rfl
theorem gD_0 : gD [] = [] := rfl
theorem gD_1 {x : Rat} {l : List Rat} : gD (x :: l) = .bool (decide (x.num < 0)) :: nn x.num.natAbs :: nn x.den :: gD l := rfl
theorem V3_l {v : V3} : v.l = [v.x, v.y, v.z] := rfl
theorem M4_l {m : M4} : m.l = [m.X.x, m.X.y, m.X.z, m.Y.x, m.Y.y, m.Y.z, m.Z.x, m.Z.y, m.Z.z, m.W.x, m.W.y, m.W.z] := rfl
theorem Fr_l {m : Fr} : m.l = [m.A.x, m.A.y, m.A.z, m.B.x, m.B.y, m.B.z, m.N.x, m.N.y, m.N.z] := rfl
theorem Sp_l {m : Sp} : m.l = [m.P.x, m.P.y, m.P.z, m.N.x, m.N.y, m.N.z] := rfl
theorem RV_l {r : RV} : r.l = [r.x, r.y, r.z] := rfl
theorem RM_l {m : RM} : m.l = [m.X.x, m.X.y, m.X.z, m.Y.x, m.Y.y, m.Y.z, m.Z.x, m.Z.y, m.Z.z, m.W.x, m.W.y, m.W.z] := rfl
theorem RF_l {m : RF} : m.l = [m.A.x, m.A.y, m.A.z, m.B.x, m.B.y, m.B.z, m.N.x, m.N.y, m.N.z] := rfl
theorem RS_l {m : RS} : m.l = [m.P.x, m.P.y, m.P.z, m.N.x, m.N.y, m.N.z] := rfl
/-- What flattens, all of it. -/
theorem JJ : type_of% (And.intro @HH (And.intro @gW_0 (And.intro @gW_1 (And.intro @gD_0 (And.intro @gD_1 (And.intro @V3_l (And.intro @M4_l (And.intro @Fr_l (And.intro @Sp_l (And.intro @RV_l (And.intro @RM_l (And.intro @RF_l @RS_l)))))))))))) := And.intro @HH (And.intro @gW_0 (And.intro @gW_1 (And.intro @gD_0 (And.intro @gD_1 (And.intro @V3_l (And.intro @M4_l (And.intro @Fr_l (And.intro @Sp_l (And.intro @RV_l (And.intro @RM_l (And.intro @RF_l @RS_l)))))))))))
end Go.Px.Na

/- Px19: templates: a state that fits one is as it says. -/
import Derived.Test.YtgnhhdgepnfnmaaPx18
set_option linter.unusedSimpArgs false
set_option linter.unusedVariables false
namespace Go.Px
open Go.RowKit

structure Mt.le (m M : Mt) : Prop where
  vals : ∀ i a, alook m.vals i = some a → alook M.vals i = some a
  ren : ∀ k j, alook m.ren k = some j → alook M.ren k = some j
theorem Mt.le.refl (m : Mt) : m.le m := ⟨fun _ _ h => h, fun _ _ h => h⟩
theorem Mt.le.trans {a b c : Mt} (h : a.le b) (k : b.le c) : a.le c := ⟨fun i x hx => k.vals i x (h.vals i x hx), fun i x hx => k.ren i x (h.ren i x hx)⟩

def Mt.inj (m : Mt) : Prop := ∀ k k' j, alook m.ren k = some (some j) → alook m.ren k' = some (some j) → k = k'

def AF (M : Mt) (t a : A) : Prop := match t with | .var i => alook M.vals i = some a | t => t = a
def BF (M : Mt) (k : Nat) (j : Option Nat) : Prop := alook M.ren k = some j
def CF (M : Mt) : C → C → Prop
  | .unk, _ => True
  | .at a, .at b => AF M a b
  | .at a, .nils => AF M a .nil
  | .at a, .ful b => AF M a b
  | .nils, .nils => True
  | .ful a, .ful b => AF M a b
  | .ful a, .nils => AF M a .nil
  | .lp k o, .lp j o' => o = o' ∧ BF M k (some j)
  | .fp x i s o, .fp y j s' o' => s = s' ∧ o = o' ∧ AF M x y ∧ AF M i j
  | .own k, .own j => BF M k (some j)
  | .own k, .nils => BF M k none
  | .op k i s o, .op l j s' o' => s = s' ∧ o = o' ∧ BF M k (some l) ∧ AF M i j
  | .sub k x n s, .sub l y q s' => s = s' ∧ BF M k (some l) ∧ AF M x y ∧ AF M n q
  | .fn f ks, .fn g js => f = g ∧ ks.length = js.length ∧ ∀ (n k : Nat), ks[n]? = some k → ∃ j, js[n]? = some j ∧ BF M k (some j)
  | .np, .np => True
  | .und, .und => True
  | _, _ => False
def CsF (M : Mt) (ts cs : List C) : Prop := ts.length = cs.length ∧ ∀ (n : Nat) (t : C), ts[n]? = some t → ∃ c, cs[n]? = some c ∧ CF M t c
def S1F (M : Mt) : S1 → S1 → Prop
  | .one t, .one c => CF M t c
  | .agg ts, .agg cs => CsF M ts cs
  | _, _ => False
def SVF (M : Mt) : SV → SV → Prop
  | .s t, .s c => S1F M t c
  | .tup ts, .tup cs => ts.length = cs.length ∧ ∀ (n : Nat) (t : S1), ts[n]? = some t → ∃ c, cs[n]? = some c ∧ S1F M t c
  | _, _ => False

/-- A step of the matching. -/
structure Mok (m m' : Mt) (F : Mt → Prop) : Prop where
  le : m.le m'
  inj : m.inj → m'.inj
  fit : ∀ M, m'.le M → F M

theorem Mok.two {m m1 m2 : Mt} {F G : Mt → Prop} (h : Mok m m1 F) (k : Mok m1 m2 G) : Mok m m2 (fun M => F M ∧ G M) :=
  ⟨h.le.trans k.le, fun hi => k.inj (h.inj hi), fun M hM => ⟨h.fit M (k.le.trans hM), k.fit M hM⟩⟩
theorem Mok.imp {m m1 : Mt} {F G : Mt → Prop} (h : Mok m m1 F) (k : ∀ M, F M → G M) : Mok m m1 G := ⟨h.le, h.inj, fun M hM => k M (h.fit M hM)⟩
theorem Mok.refl (m : Mt) {F : Mt → Prop} (h : ∀ M, F M) : Mok m m F := ⟨Mt.le.refl m, id, fun M _ => h M⟩

theorem Mt.atom_ok {m m' : Mt} {t a : A} (h : m.atom t a = some m') : Mok m m' (fun M => AF M t a) := by
  cases t with
  | var i =>
    simp only [Mt.atom] at h
    split at h
    · rename_i b hb
      split at h
      · rename_i he
        cases h
        exact ⟨Mt.le.refl m, id, fun M hM => hM.vals _ _ (by rw [hb, he])⟩
      · cases h
    · rename_i hb
      cases h
      refine ⟨⟨fun j b hj => ?_, fun _ _ h => h⟩, id, fun M hM => hM.vals i a (by simp [alook])⟩
      simp only [alook]
      split
      · rename_i he; rw [he, hb] at hj; cases hj
      · exact hj
  | _ =>
    simp only [Mt.atom] at h
    split at h
    · rename_i he
      cases h
      exact Mok.refl m fun M => he
    · cases h

theorem Mt.blk_ok {m m' : Mt} {k : Nat} {j : Option Nat} (h : m.blk k j = some m') : Mok m m' (fun M => BF M k j) := by
  simp only [Mt.blk] at h
  split at h
  · rename_i b hb
    split at h
    · rename_i he
      cases h
      exact ⟨Mt.le.refl m, id, fun M hM => hM.ren _ _ (by rw [hb, he])⟩
    · cases h
  · rename_i hb
    split at h
    · cases h
    · rename_i hno
      cases h
      refine ⟨⟨fun _ _ h => h, fun i x hi => ?_⟩, fun hinj => ?_, fun M hM => hM.ren k j (by simp [alook])⟩
      · simp only [alook]
        split
        · rename_i he; rw [he, hb] at hi; cases hi
        · exact hi
      · have hmem : ∀ (l : List (Nat × Option Nat)) i x, alook l i = some x → (i, x) ∈ l := by
          intro l
          induction l with
          | nil => intro i x h; cases h
          | cons p r ih =>
            intro i x h
            obtain ⟨p1, p2⟩ := p
            simp only [alook] at h
            split at h
            · rename_i he; cases h; rw [he]; simp
            · exact List.mem_cons_of_mem _ (ih i x h)
        have hfresh : ∀ i x, alook m.ren i = some (some x) → j ≠ some x := by
          intro i x hi he
          refine hno (List.any_eq_true.2 ⟨(i, some x), hmem _ _ _ hi, ?_⟩)
          simp [he]
        intro i i' x h1 h2
        simp only [alook] at h1 h2
        split at h1
        · rename_i e1
          split at h2
          · rename_i e2; rw [e1, e2]
          · simp only [Option.some.injEq] at h1
            exact absurd h1 (hfresh _ _ h2)
        · split at h2
          · simp only [Option.some.injEq] at h2
            exact absurd h2 (hfresh _ _ h1)
          · exact hinj i i' x h1 h2

theorem Mt.blks_ok : ∀ {ks js : List Nat} {m m' : Mt}, m.blks ks js = some m' → Mok m m' (fun M => ks.length = js.length ∧ ∀ (n k : Nat), ks[n]? = some k → ∃ j, js[n]? = some j ∧ BF M k (some j))
  | [], [], m, m', h => by simp only [Mt.blks] at h; cases h; exact Mok.refl m fun M => ⟨rfl, fun n k hk => by simp at hk⟩
  | [], _ :: _, m, m', h => by simp only [Mt.blks] at h; cases h
  | _ :: _, [], m, m', h => by simp only [Mt.blks] at h; cases h
  | k :: r, j :: q, m, m', h => by
    simp only [Mt.blks, Option.bind_eq_some_iff] at h
    obtain ⟨m1, h1, h2⟩ := h
    refine ((Mt.blk_ok h1).two (Mt.blks_ok h2)).imp fun M ⟨a, b, c⟩ => ⟨by simp [b], fun n k' hk => ?_⟩
    cases n with
    | zero => simp at hk; subst hk; exact ⟨j, by simp, a⟩
    | succ n => simpa using c n k' (by simpa using hk)

theorem Mt.cell_ok {m m' : Mt} {t c : C} (h : m.cell t c = some m') : Mok m m' (fun M => CF M t c) := by
  unfold Mt.cell at h
  split at h
  · cases h; exact Mok.refl m fun M => by simp [CF]
  · exact (Mt.atom_ok h).imp fun M hM => by simpa [CF] using hM
  · exact (Mt.atom_ok h).imp fun M hM => by simpa [CF] using hM
  · exact (Mt.atom_ok h).imp fun M hM => by simpa [CF] using hM
  · cases h; exact Mok.refl m fun M => by simp [CF]
  · exact (Mt.atom_ok h).imp fun M hM => by simpa [CF] using hM
  · exact (Mt.atom_ok h).imp fun M hM => by simpa [CF] using hM
  · split at h
    · rename_i he
      exact (Mt.blk_ok h).imp fun M hM => ⟨he, hM⟩
    · cases h
  · split at h
    · rename_i he
      simp only [Option.bind_eq_some_iff] at h
      obtain ⟨m1, h1, h2⟩ := h
      exact ((Mt.atom_ok h1).two (Mt.atom_ok h2)).imp fun M ⟨a, b⟩ => ⟨he.1, he.2, a, b⟩
    · cases h
  · exact (Mt.blk_ok h).imp fun M hM => hM
  · exact (Mt.blk_ok h).imp fun M hM => hM
  · split at h
    · rename_i he
      simp only [Option.bind_eq_some_iff] at h
      obtain ⟨m1, h1, h2⟩ := h
      exact ((Mt.blk_ok h1).two (Mt.atom_ok h2)).imp fun M ⟨a, b⟩ => ⟨he.1, he.2, a, b⟩
    · cases h
  · split at h
    · rename_i he
      simp only [Option.bind_eq_some_iff] at h
      obtain ⟨m1, h1, m2, h2, h3⟩ := h
      exact ((Mt.blk_ok h1).two ((Mt.atom_ok h2).two (Mt.atom_ok h3))).imp fun M ⟨a, b, c⟩ => ⟨he, a, b, c⟩
    · cases h
  · split at h
    · rename_i he
      exact (Mt.blks_ok h).imp fun M ⟨a, b⟩ => ⟨he, a, b⟩
    · cases h
  · cases h; exact Mok.refl m fun M => by simp [CF]
  · cases h; exact Mok.refl m fun M => by simp [CF]
  · cases h

theorem Mt.cells_ok : ∀ {ts cs : List C} {m m' : Mt}, m.cells ts cs = some m' → Mok m m' (fun M => CsF M ts cs)
  | [], [], m, m', h => by simp only [Mt.cells] at h; cases h; exact Mok.refl m fun M => ⟨rfl, fun n k hk => by simp at hk⟩
  | [], _ :: _, m, m', h => by simp only [Mt.cells] at h; cases h
  | _ :: _, [], m, m', h => by simp only [Mt.cells] at h; cases h
  | k :: r, j :: q, m, m', h => by
    simp only [Mt.cells, Option.bind_eq_some_iff] at h
    obtain ⟨m1, h1, h2⟩ := h
    refine ((Mt.cell_ok h1).two (Mt.cells_ok h2)).imp fun M ⟨a, b, c⟩ => ⟨by simp [b], fun n k' hk => ?_⟩
    cases n with
    | zero => simp at hk; subst hk; exact ⟨j, by simp, a⟩
    | succ n => simpa using c n k' (by simpa using hk)

theorem Mt.s1_ok {m m' : Mt} {t c : S1} (h : m.s1 t c = some m') : Mok m m' (fun M => S1F M t c) := by
  cases t <;> cases c <;> simp only [Mt.s1] at h
  · exact Mt.cell_ok h
  · cases h
  · cases h
  · exact Mt.cells_ok h

theorem Mt.s1s_ok : ∀ {ts cs : List S1} {m m' : Mt}, m.s1s ts cs = some m' → Mok m m' (fun M => ts.length = cs.length ∧ ∀ (n : Nat) (t : S1), ts[n]? = some t → ∃ c, cs[n]? = some c ∧ S1F M t c)
  | [], [], m, m', h => by simp only [Mt.s1s] at h; cases h; exact Mok.refl m fun M => ⟨rfl, fun n k hk => by simp at hk⟩
  | [], _ :: _, m, m', h => by simp only [Mt.s1s] at h; cases h
  | _ :: _, [], m, m', h => by simp only [Mt.s1s] at h; cases h
  | k :: r, j :: q, m, m', h => by
    simp only [Mt.s1s, Option.bind_eq_some_iff] at h
    obtain ⟨m1, h1, h2⟩ := h
    refine ((Mt.s1_ok h1).two (Mt.s1s_ok h2)).imp fun M ⟨a, b, c⟩ => ⟨by simp [b], fun n k' hk => ?_⟩
    cases n with
    | zero => simp at hk; subst hk; exact ⟨j, by simp, a⟩
    | succ n => simpa using c n k' (by simpa using hk)

theorem Mt.sv_ok {m m' : Mt} {t c : SV} (h : m.sv t c = some m') : Mok m m' (fun M => SVF M t c) := by
  cases t <;> cases c <;> simp only [Mt.sv] at h
  · exact Mt.s1_ok h
  · cases h
  · cases h
  · exact Mt.s1s_ok h

def FrF (M : Mt) (tm : Nat → Option SV) (l : List (Nat × SV)) : Prop := ∀ t v, alook l t = some v → ∃ v', tm t = some v' ∧ SVF M v v'

theorem Mt.frame_ok : ∀ {l : List (Nat × SV)} {tm : Nat → Option SV} {m m' : Mt}, m.frame tm l = some m' → Mok m m' (fun M => FrF M tm l)
  | [], tm, m, m', h => by simp only [Mt.frame] at h; cases h; exact Mok.refl m fun M t v hv => by cases hv
  | (t, v) :: r, tm, m, m', h => by
    simp only [Mt.frame] at h
    split at h
    · rename_i v' hv'
      simp only [Option.bind_eq_some_iff] at h
      obtain ⟨m1, h1, h2⟩ := h
      refine ((Mt.sv_ok h1).two (Mt.frame_ok h2)).imp fun M ⟨a, b⟩ t' u hu => ?_
      simp only [alook] at hu
      split at hu
      · rename_i he; cases hu; rw [he]; exact ⟨v', hv', a⟩
      · exact b t' u hu
    · cases h

def FrsF (M : Mt) : List (List (Nat × SV)) → List Frm → Prop
  | [], [] => True
  | t :: r, f :: q => FrF M f.tm t ∧ FrsF M r q
  | _, _ => False

theorem Mt.frames_ok : ∀ {l : List (List (Nat × SV))} {q : List Frm} {m m' : Mt}, m.frames l q = some m' → Mok m m' (fun M => FrsF M l q)
  | [], [], m, m', h => by simp only [Mt.frames] at h; cases h; exact Mok.refl m fun M => trivial
  | [], _ :: _, m, m', h => by simp only [Mt.frames] at h; cases h
  | _ :: _, [], m, m', h => by simp only [Mt.frames] at h; cases h
  | k :: r, j :: q, m, m', h => by
    simp only [Mt.frames, Option.bind_eq_some_iff] at h
    obtain ⟨m1, h1, h2⟩ := h
    exact (Mt.frame_ok h1).two (Mt.frames_ok h2)

/-- How a template's block lies in the state. -/
def BkF (M : Mt) (bl : Nat → Option Blk) (k : Nat) (b : Blk) : Prop :=
  (∃ j, BF M k (some j) ∧ match b, bl j with
    | .box ts T ro, some (.box cs U ro') => T = U ∧ ro = ro' ∧ CsF M ts cs
    | .own x s E, some (.own y s' E') => s = s' ∧ E = E' ∧ AF M x y
    | .fro x, some (.fro y) => AF M x y
    | _, _ => False) ∨
  (BF M k none ∧ ∃ x s E, b = .own x s E ∧ AF M x .nil)

theorem Mt.bls_ok {bl : Nat → Option Blk} : ∀ {l : List (Nat × Blk)} {m m' : Mt}, m.bls bl l = some m' → Mok m m' (fun M => ∀ p ∈ l, BkF M bl p.1 p.2)
  | [], m, m', h => by simp only [Mt.bls] at h; cases h; exact Mok.refl m fun M p hp => by cases hp
  | (k, b) :: r, m, m', h => by
    simp only [Mt.bls] at h
    split at h
    · rename_i j hj
      simp only [Option.bind_eq_some_iff] at h
      obtain ⟨m1, h1, h2⟩ := h
      have h1' : Mok m m1 (fun M => BkF M bl k b) := by
        have hk : ∀ M, m1.le M → m.le m1 → BF M k (some j) := fun M h3 h4 => h3.ren _ _ (h4.ren _ _ hj)
        split at h1
        · split at h1
          · rename_i hb he
            have hh := Mt.cells_ok h1
            exact ⟨hh.le, hh.inj, fun M hM => .inl ⟨j, hk M hM hh.le, by rw [hb]; exact ⟨he.1, he.2, hh.fit M hM⟩⟩⟩
          · cases h1
        · split at h1
          · rename_i hb he
            have hh := Mt.atom_ok h1
            exact ⟨hh.le, hh.inj, fun M hM => .inl ⟨j, hk M hM hh.le, by rw [hb]; exact ⟨he.1, he.2, hh.fit M hM⟩⟩⟩
          · cases h1
        · rename_i hb
          have hh := Mt.atom_ok h1
          exact ⟨hh.le, hh.inj, fun M hM => .inl ⟨j, hk M hM hh.le, by rw [hb]; exact hh.fit M hM⟩⟩
        · cases h1
      refine (h1'.two (Mt.bls_ok h2)).imp fun M ⟨a, c⟩ p hp => ?_
      rcases List.mem_cons.1 hp with rfl | hp
      · exact a
      · exact c p hp
    · rename_i hj
      simp only [Option.bind_eq_some_iff] at h
      obtain ⟨m1, h1, h2⟩ := h
      have h1' : Mok m m1 (fun M => BkF M bl k b) := by
        split at h1
        · have hh := Mt.atom_ok h1
          exact ⟨hh.le, hh.inj, fun M hM => .inr ⟨hM.ren _ _ (hh.le.ren _ _ hj), _, _, _, rfl, hh.fit M hM⟩⟩
        · cases h1
      refine (h1'.two (Mt.bls_ok h2)).imp fun M ⟨a, c⟩ p hp => ?_
      rcases List.mem_cons.1 hp with rfl | hp
      · exact a
      · exact c p hp
    · cases h

end Go.Px

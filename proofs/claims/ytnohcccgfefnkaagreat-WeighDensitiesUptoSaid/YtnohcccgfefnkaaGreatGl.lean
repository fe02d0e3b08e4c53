/- Gl: what comes in, as data; what stays. -/
import Derived.Test.YtnohcccgfefnkaaGreatRr
import Derived.Test.YtnohcccgfefnkaaGreatRows
import Derived.WalkKit
import Derived.ProofKit
import Derived.OpenShut
import Derived.JoinedCond
import Derived.ChangeReads
import Derived.ChangeSlices
import Derived.ChangeSame
import Derived.Test.YtnohcccgfefnkaaGreatProg
set_option maxRecDepth 10000
set_option linter.unusedSimpArgs false
set_option linter.unusedVariables false
namespace Go.Px.Na
open Go.RowKit Go.ChangeShapes Go.WideShapes Go.ChangeAt
open Go.Proofs.YtnohcccgfefnkaaGreat (Rows.uptoBulk Rows.uptoBulkAll)
variable {P : Program}

theorem mapM_of_get {α β : Type} {f : α → Option β} : ∀ {l : List α} {r : List β}, r.length = l.length → (∀ (j : Nat) (x : α), l[j]? = some x → f x = r[j]?) → l.mapM f = some r
  | [], [], _, _ => rfl
  | [], _ :: _, h, _ => by simp at h
  | _ :: _, [], h, _ => by simp at h
  | a :: l, b :: r, h, hf => by
    have h0 := hf 0 a rfl
    have := mapM_of_get (l := l) (r := r) (by simpa using h) fun j x hj => by simpa using hf (j + 1) x (by simpa using hj)
    rw [List.mapM_cons, h0, this]; rfl

/-- What a reading of a type tells of the data. -/
def TOK (P : Program) (t : TypeId) (D : List DV → Prop) : Prop := ∀ (H : Type) (enc : TypeId × Value → H) (w : World) (n : Nat) (cs : List Value) (x : DataW H × List MemPlace),
  DataW.trod enc P w 0 (fun _ => true) true n t cs = some x → Rows.uptoBulk x.1 ≤ 1048576 → ∃ ds : List DV, D ds ∧ ds.length = cs.length ∧ ∀ (j : Nat) (d : DV), ds[j]? = some d → ∃ u, cs[j]? = some u ∧ Reads (fun _ => True) w d u
/-- What is met is all that is looked at. -/
def SP (P : Program) (t : TypeId) : Prop := ∀ (H : Type) (enc : TypeId × Value → H) (w : World) (n : Nat) (cs : List Value) (x : DataW H × List MemPlace) (sp : Nat → Bool),
  DataW.trod enc P w 0 (fun _ => true) true n t cs = some x → (∀ p ∈ x.2, sp p.block = true) → DataW.trod enc P w 0 sp true n t cs = some x

def Dbool (ds : List DV) : Prop := ∃ b, ds = [.bool b]
def Dint (k : IntKind) (ds : List DV) : Prop := ∃ n, ds = [.int k n] ∧ k.min ≤ n ∧ n ≤ k.max
def Dnl (ds : List DV) : Prop := ∃ l, ds = [nl l] ∧ WL l ∧ l.length ≤ 1048576

theorem tok_bool {t : TypeId} (ht : P.underlying t = some .bool) : TOK P t Dbool := by
  intro H enc w n cs x h _
  obtain ⟨b, rfl, rfl⟩ := DataW.trod_bool ht h
  refine ⟨[.bool b], ⟨b, rfl⟩, rfl, fun j d hj => ?_⟩
  cases j with
  | zero => simp at hj; subst hj; exact ⟨_, rfl, .bool b⟩
  | succ j => simp at hj
theorem tok_int {t : TypeId} {k : IntKind} (ht : P.underlying t = some (.int k)) : TOK P t (Dint k) := by
  intro H enc w n cs x h _
  obtain ⟨m, rfl, rfl, hw⟩ := DataW.trod_int ht h
  simp only [Lit.wf, Bool.and_eq_true, decide_eq_true_eq] at hw
  refine ⟨[.int k m], ⟨m, rfl, hw.1, hw.2⟩, rfl, fun j d hj => ?_⟩
  cases j with
  | zero => simp at hj; subst hj; exact ⟨_, rfl, .int k m⟩
  | succ j => simp at hj
theorem bulk_lits {H : Type} (k : IntKind) (zs : List Int) : Rows.uptoBulkAll (lits (H := H) k zs) = zs.length := by
  induction zs with
  | nil => simp [lits, Rows.uptoBulkAll]
  | cons z r ih =>
    simp only [lits, List.map_cons, Rows.uptoBulkAll, Rows.uptoBulk, List.length_cons] at ih ⊢
    omega
theorem tok_nl {t e : TypeId} (ht : P.underlying t = some (.slice e)) (he : P.underlying e = some (.int .u32)) (hc : P.cellsOf e = 1) : TOK P t Dnl := by
  intro H enc w n cs x h hb
  rcases open_ints ht he hc h with ⟨rfl, rfl⟩ | ⟨a, len, cap, zs, rfl, hba, hlc, hcm, hlen, rfl, hcell, hwf⟩
  · refine ⟨[nl []], ⟨[], rfl, WL.nil, by simp⟩, rfl, fun j d hj => ?_⟩
    cases j with
    | zero =>
      simp at hj; subst hj
      exact ⟨_, rfl, .list 0 [] none 0 (fun _ => undef) (Nat.le_refl _) (fun h => absurd rfl h) (fun j d hj => by simp at hj)⟩
    | succ j => simp at hj
  · simp only [if_true] at hlen
    have hl : ((zs.take len).map Int.toNat).length = len := by simp; omega
    have hzs : ∀ z ∈ zs, 0 ≤ z ∧ z < 4294967296 := fun z hz => by
      have := hwf z hz
      simp only [Lit.wf, Bool.and_eq_true, decide_eq_true_eq] at this
      have h1 : IntKind.u32.min = 0 := by decide
      have h2 : IntKind.u32.max = 4294967295 := by decide
      omega
    refine ⟨[nl ((zs.take len).map Int.toNat)], ⟨_, rfl, fun y hy => ?_, ?_⟩, rfl, fun j d hj => ?_⟩
    · obtain ⟨z, hz, rfl⟩ := List.mem_map.1 hy
      have := hzs z (List.mem_of_mem_take hz)
      omega
    · simp only [Rows.uptoBulk, bulk_lits] at hb
      rw [hl]
      simp at hb
      omega
    · cases j with
      | succ j => simp at hj
      | zero =>
        simp only [List.getElem?_cons_zero, Option.some.injEq] at hj; subst hj
        refine ⟨_, rfl, ?_⟩
        unfold nl
        rw [hl]
        refine .list len _ (some a) cap (fun j => .int .u32 (zs.getD j 0)) hlc (fun _ => ⟨a, rfl, trivial, fun j hj => hcell j ?_⟩) fun j d hj => ?_
        · simp [ul] at hj; omega
        · rw [ul_get] at hj
          obtain ⟨y, hy, rfl⟩ := Option.map_eq_some_iff.1 hj
          rw [List.getElem?_map] at hy
          obtain ⟨z, hz, rfl⟩ := Option.map_eq_some_iff.1 hy
          rw [List.getElem?_take] at hz
          split at hz
          · have hz0 := hzs z (List.mem_of_getElem? hz)
            have : zs.getD j 0 = z := by simp [List.getD_eq_getElem?_getD, hz]
            simp only [this]
            have e : ((z.toNat : Nat) : Int) = z := by omega
            rw [e]
            exact .int _ _
          · cases hz

/-! ### Rows of anything -/
theorem choose_list {α : Type} {R : Nat → α → Prop} : ∀ (n : Nat), (∀ i, i < n → ∃ z, R i z) → ∃ l : List α, l.length = n ∧ ∀ (i : Nat) (z : α), l[i]? = some z → R i z
  | 0, _ => ⟨[], rfl, fun i z h => by simp at h⟩
  | n + 1, h => by
    obtain ⟨l, hl, hr⟩ := choose_list n fun i hi => h i (by omega)
    obtain ⟨z, hz⟩ := h n (by omega)
    refine ⟨l ++ [z], by simp [hl], fun i y hy => ?_⟩
    rcases Nat.lt_or_ge i n with hi | hi
    · rw [List.getElem?_append_left (by omega)] at hy; exact hr i y hy
    · rw [List.getElem?_append_right (by omega)] at hy
      have : i - l.length = 0 := by
        have := (List.getElem?_eq_some_iff.1 hy).1
        simp at this; omega
      rw [this] at hy; simp at hy; subst hy
      rw [show i = n by omega]; exact hz
theorem flat_len {α : Type} {s : Nat} : ∀ {l : List (List α)}, (∀ x ∈ l, x.length = s) → l.flatten.length = l.length * s
  | [], _ => by simp
  | x :: r, h => by simp [flat_len (l := r) fun y hy => h y (by simp [hy]), h x (by simp), Nat.succ_mul]; omega
theorem flat_get {α : Type} {s : Nat} : ∀ {l : List (List α)} {i : Nat} {x : List α} (k : Nat), (∀ x ∈ l, x.length = s) → l[i]? = some x → k < s → l.flatten[i * s + k]? = x[k]?
  | [], i, x, k, _, h, _ => by simp at h
  | y :: r, 0, x, k, hl, h, hk => by
    simp at h; subst h
    simp only [List.flatten_cons, Nat.zero_mul, Nat.zero_add]
    rw [List.getElem?_append_left (by rw [hl y (by simp)]; exact hk)]
  | y :: r, i + 1, x, k, hl, h, hk => by
    have hy := hl y (by simp)
    simp only [List.flatten_cons]
    rw [List.getElem?_append_right (by rw [hy, Nat.succ_mul]; omega)]
    have := flat_get (l := r) (i := i) k (fun z hz => hl z (by simp [hz])) (by simpa using h) hk
    rw [← this, hy]; congr 1; rw [Nat.succ_mul]; omega
theorem bulk_pos {H : Type} (d : DataW H) : 1 ≤ Rows.uptoBulk d := by
  cases d with
  | lit l => cases l <;> simp [Rows.uptoBulk]
  | _ => simp [Rows.uptoBulk]
theorem bulk_all {H : Type} : ∀ (l : List (DataW H)), l.length ≤ Rows.uptoBulkAll l
  | [] => by simp [Rows.uptoBulkAll]
  | d :: r => by have := bulk_all r; have := bulk_pos d; simp [Rows.uptoBulkAll]; omega
theorem bulk_mem {H : Type} : ∀ {l : List (DataW H)} {d : DataW H}, d ∈ l → Rows.uptoBulk d ≤ Rows.uptoBulkAll l
  | [], d, h => by cases h
  | x :: r, d, h => by
    simp only [Rows.uptoBulkAll]
    rcases List.mem_cons.1 h with rfl | h
    · omega
    · have := bulk_mem h; omega
theorem addr2 (a : Addr) (i j : Nat) : (a.add i).add j = a.add (i + j) := by
  cases a
  by_cases hi : i = 0 <;> by_cases hj : j = 0 <;> simp [Addr.add, hi, hj, Nat.add_assoc]
/-- A row of elements. -/
def Dsl (s : Nat) (D : List DV → Prop) (ds : List DV) : Prop := ∃ l : List (List DV), ds = [.list l.length l.flatten] ∧ (∀ x ∈ l, D x ∧ x.length = s) ∧ l.length ≤ 1048576
theorem tok_slice {t e : TypeId} {s : Nat} {D : List DV → Prop} (ht : P.underlying t = some (.slice e)) (he : TOK P e D) (hc : P.cellsOf e = s) (hs : 0 < s) : TOK P t (Dsl s D) := by
  intro H enc w n cs x h hb
  rcases DataW.trod_slice ht h with ⟨rfl, rfl⟩ | ⟨a, len, cap, elems, rest, m, rfl, rfl, rfl, hba, hlc, hcm, hlen, hel, _, _⟩
  · refine ⟨[.list 0 []], ⟨[], rfl, fun x hx => by simp at hx, by simp⟩, rfl, fun j d hj => ?_⟩
    cases j with
    | zero =>
      simp at hj; subst hj
      exact ⟨_, rfl, .list 0 [] none 0 (fun _ => undef) (Nat.le_refl _) (fun h => absurd rfl h) (fun j d hj => by simp at hj)⟩
    | succ j => simp at hj
  · rw [hc] at hel
    have hbk : Rows.uptoBulkAll (elems.map (·.1)) ≤ 1048576 := by simp only [Rows.uptoBulk] at hb; omega
    have hR : ∀ i, i < len → ∃ z : List DV, D z ∧ z.length = s ∧ ∀ (k : Nat) (d : DV), z[k]? = some d → ∃ u, w.cell? ((a.add (i * s)).add k) = some u ∧ Reads (fun _ => True) w d u := by
      intro i hi
      have h1 := hel i hi
      have hlt : i < elems.length := by omega
      rw [List.getElem?_eq_getElem hlt] at h1
      obtain ⟨cs, hcs, h2⟩ := Option.bind_eq_some_iff.1 h1
      obtain ⟨_, hcl, hcell⟩ := World.cells?_some hcs
      obtain ⟨z, hz, hzl, hzr⟩ := he H enc w m cs _ h2 (Nat.le_trans (bulk_mem (List.mem_map.2 ⟨_, List.getElem_mem hlt, rfl⟩)) hbk)
      refine ⟨z, hz, by omega, fun k d hk => ?_⟩
      obtain ⟨u, hu, hr⟩ := hzr k d hk
      exact ⟨u, by rw [hcell k (by have := (List.getElem?_eq_some_iff.1 hk).1; omega)]; exact hu, hr⟩
    obtain ⟨l, hl, hlr⟩ := choose_list len hR
    have hls : ∀ x ∈ l, x.length = s := fun x hx => by
      obtain ⟨i, hi⟩ := List.getElem?_of_mem hx
      exact (hlr i x hi).2.1
    have hfl := flat_len hls
    have hget : ∀ (j : Nat) (d : DV), l.flatten[j]? = some d → ∃ u, w.cell? (a.add j) = some u ∧ Reads (fun _ => True) w d u := by
      intro j d hj
      have hjl := (List.getElem?_eq_some_iff.1 hj).1
      rw [hfl] at hjl
      have hi : j / s < l.length := (Nat.div_lt_iff_lt_mul hs).2 hjl
      have hk : j % s < s := Nat.mod_lt _ hs
      have hjs : j = j / s * s + j % s := by have := Nat.div_add_mod j s; rw [Nat.mul_comm] at this; omega
      have hx : l[j / s]? = some l[j / s] := List.getElem?_eq_getElem hi
      have hf := flat_get (j % s) hls hx hk
      rw [← hjs, hj] at hf
      obtain ⟨u, hu, hr⟩ := (hlr _ _ hx).2.2 (j % s) d hf.symm
      refine ⟨u, ?_, hr⟩
      rw [← hu, addr2, ← hjs]
    refine ⟨[.list l.length l.flatten], ⟨l, rfl, fun x hx => ?_, ?_⟩, rfl, fun j d hj => ?_⟩
    · obtain ⟨i, hi⟩ := List.getElem?_of_mem hx
      exact ⟨(hlr i x hi).1, (hlr i x hi).2.1⟩
    · have := bulk_all (elems.map (·.1))
      rw [List.length_map] at this
      omega
    · cases j with
      | succ j => simp at hj
      | zero =>
        simp only [List.getElem?_cons_zero, Option.some.injEq] at hj; subst hj
        refine ⟨_, rfl, ?_⟩
        rw [hl]
        refine .list len _ (some a) cap (fun j => (w.cell? (a.add j)).getD undef) hlc (fun _ => ⟨a, rfl, trivial, fun j hj => ?_⟩) fun j d hj => ?_
        · obtain ⟨u, hu, _⟩ := hget j _ (List.getElem?_eq_getElem hj)
          simp [hu]
        · obtain ⟨u, hu, hr⟩ := hget j d hj
          simp only [hu, Option.getD_some]; exact hr

/-- Parts one behind the other. -/
def Parts : List (List DV → Prop) → List DV → Prop
  | [], ds => ds = []
  | D :: r, ds => ∃ a b, ds = a ++ b ∧ D a ∧ Parts r b
/-- The fields lie one behind the other, from 'off' on; each is told. -/
def Chain (P : Program) : Nat → List Field → List (List DV → Prop) → Prop
  | _, [], [] => True
  | off, f :: r, D :: q => f.offset = off ∧ TOK P f.type D ∧ Chain P (off + P.cellsOf f.type) r q
  | _, _, _ => False
def total (P : Program) : List Field → Nat
  | [] => 0
  | f :: r => P.cellsOf f.type + total P r

theorem chain_ok {H : Type} {enc : TypeId × Value → H} {w : World} {n : Nat} {cs : List Value} : ∀ {fs : List Field} {Ds : List (List DV → Prop)} {off : Nat} {xs : List (DataW H × List MemPlace)}, Chain P off fs Ds → xs.length = fs.length →
    (∀ (i : Nat) (f : Field), fs[i]? = some f → DataW.trod enc P w 0 (fun _ => true) true n f.type ((cs.drop f.offset).take (P.cellsOf f.type)) = xs[i]?) → Rows.uptoBulkAll (xs.map (·.1)) ≤ 1048576 → off + total P fs ≤ cs.length →
    ∃ ds, Parts Ds ds ∧ ds.length = total P fs ∧ ∀ (j : Nat) (d : DV), ds[j]? = some d → ∃ u, cs[off + j]? = some u ∧ Reads (fun _ => True) w d u
  | [], [], off, xs, _, _, _, _, _ => ⟨[], rfl, rfl, fun j d hj => by simp at hj⟩
  | [], _ :: _, _, _, h, _, _, _, _ => h.elim
  | _ :: _, [], _, _, h, _, _, _, _ => h.elim
  | f :: r, D :: q, off, xs, hc, hl, ht, hb, hle => by
    obtain ⟨ho, hD, hc'⟩ := hc
    cases xs with
    | nil => simp at hl
    | cons x xs =>
      simp only [List.map_cons, Rows.uptoBulkAll] at hb
      simp only [total] at hle
      have h0 := ht 0 f rfl
      simp only [List.getElem?_cons_zero] at h0
      obtain ⟨a, ha, hal, har⟩ := hD H enc w n _ x h0 (by omega)
      obtain ⟨b, hb1, hb2, hb3⟩ := chain_ok (off := off + P.cellsOf f.type) (xs := xs) hc' (by simpa using hl) (fun i g hg => by simpa using ht (i + 1) g (by simpa using hg)) (by omega) (by omega)
      have hla : a.length = P.cellsOf f.type := by rw [hal]; simp; omega
      refine ⟨a ++ b, ⟨a, b, rfl, ha, hb1⟩, by simp [hla, hb2, total], fun j d hj => ?_⟩
      rw [List.getElem?_append] at hj
      split at hj
      · rename_i hjl
        obtain ⟨u, hu, hr⟩ := har j d hj
        rw [List.getElem?_take, if_pos (by omega), List.getElem?_drop, ho] at hu
        exact ⟨u, hu, hr⟩
      · obtain ⟨u, hu, hr⟩ := hb3 _ d hj
        refine ⟨u, ?_, hr⟩
        rw [← hu, hla]; congr 1; omega

theorem tok_struct {t : TypeId} {fs : Array Field} {Ds : List (List DV → Prop)} (ht : P.underlying t = some (.struct fs)) (hc : Chain P 0 fs.toList Ds) (hs : total P fs.toList = P.cellsOf t) : TOK P t (Parts Ds) := by
  intro H enc w n cs x h hb
  obtain ⟨xs, m, rfl, rfl, hlen, hxs, hf⟩ := DataW.trod_struct ht h
  simp only [Rows.uptoBulk] at hb
  obtain ⟨ds, h1, h2, h3⟩ := chain_ok (off := 0) (xs := xs) hc (by simpa using hxs) (fun i f hi => hf i f (by simpa using hi)) (by omega) (by omega)
  exact ⟨ds, h1, by rw [h2, hs, hlen], fun j d hj => by simpa using h3 j d hj⟩
theorem TOK.imp {t : TypeId} {D E : List DV → Prop} (h : TOK P t D) (k : ∀ ds, D ds → E ds) : TOK P t E := fun H enc w n cs x hx hb =>
  let ⟨ds, h1, h2⟩ := h H enc w n cs x hx hb; ⟨ds, k _ h1, h2⟩

def Drat (ds : List DV) : Prop := ∃ r : RR, ds = r.dv ∧ r.ok 1048576
theorem parts_rat {ds : List DV} (h : Parts [Dbool, Dnl, Dnl] ds) : Drat ds := by
  obtain ⟨_, _, rfl, ⟨b, rfl⟩, _, _, rfl, ⟨l, rfl, h1, h2⟩, _, _, rfl, ⟨m, rfl, h3, h4⟩, rfl⟩ := h
  exact ⟨⟨b, l, m⟩, rfl, h1, h3, h2, h4⟩

/-! ### What is met -/
theorem sp_bool {t : TypeId} (ht : P.underlying t = some .bool) : SP P t := by
  intro H enc w n cs x sp h _
  obtain ⟨b, rfl, rfl⟩ := DataW.trod_bool ht h
  cases n with
  | zero => simp [DataW.trod] at h
  | succ n => simp [DataW.trod, ht]
theorem sp_int {t : TypeId} {k : IntKind} (ht : P.underlying t = some (.int k)) : SP P t := by
  intro H enc w n cs x sp h _
  obtain ⟨m, rfl, rfl, hw⟩ := DataW.trod_int ht h
  cases n with
  | zero => simp [DataW.trod] at h
  | succ n => simp [DataW.trod, ht, hw]
theorem sp_struct {t : TypeId} {fs : Array Field} (ht : P.underlying t = some (.struct fs)) (hs : ∀ (i : Nat) (f : Field), fs[i]? = some f → SP P f.type) : SP P t := by
  intro H enc w n cs x sp h hp
  obtain ⟨xs, m, rfl, rfl, hlen, hxs, hf⟩ := DataW.trod_struct ht h
  refine trod_struct_mk ht hlen (mapM_of_get (by simpa using hxs) fun j f hj => ?_)
  have hj' : fs[j]? = some f := by simpa using hj
  have h1 := hf j f hj'
  have hlt : j < xs.length := by rw [hxs]; exact (Array.getElem?_eq_some_iff.1 hj').1
  rw [List.getElem?_eq_getElem hlt] at h1 ⊢
  refine hs j f hj' H enc w m _ _ sp h1 fun p hpp => hp p ?_
  exact List.mem_flatMap.2 ⟨_, List.getElem_mem hlt, hpp⟩
theorem sp_slice {t e : TypeId} (ht : P.underlying t = some (.slice e)) (he : SP P e) (hc : P.cellsOf e ≠ 0) : SP P t := by
  intro H enc w n cs x sp h hp
  rcases DataW.trod_slice ht h with ⟨rfl, rfl⟩ | ⟨a, len, cap, elems, rest, m, rfl, rfl, rfl, hb, hl, hm, hlen, hel, hsp, _⟩
  · cases n with
    | zero => simp [DataW.trod] at h
    | succ n => simp [DataW.trod, ht]
  · obtain ⟨hrl, hr⟩ := hsp rfl
    have one : ∀ (c : Nat) (y : DataW H × List MemPlace), y ∈ elems ++ rest → (w.cells? 0 (a.add (c * P.cellsOf e)) (P.cellsOf e)).bind (DataW.trod enc P w 0 (fun _ => true) true m e) = some y →
        (w.cells? 0 (a.add (c * P.cellsOf e)) (P.cellsOf e)).bind (DataW.trod enc P w 0 sp true m e) = some y := by
      intro c y hy h1
      obtain ⟨v, hv, h2⟩ := Option.bind_eq_some_iff.1 h1
      rw [hv]
      exact he H enc w m v y sp h2 fun p hpp => hp p (List.mem_append_right _ (List.mem_flatMap.2 ⟨y, hy, hpp⟩))
    have m1 : (List.range len).mapM (fun i => (w.cells? 0 (a.add (i * P.cellsOf e)) (P.cellsOf e)).bind (DataW.trod enc P w 0 sp true m e)) = some elems := by
      refine mapM_of_get (by simp [hlen]) fun j i hj => ?_
      obtain ⟨hjl, rfl⟩ : j < len ∧ j = i := by
        rcases Nat.lt_or_ge j len with h | h
        · rw [List.getElem?_range h] at hj; simp at hj; exact ⟨h, hj⟩
        · rw [List.getElem?_eq_none (by simpa using h)] at hj; cases hj
      have hlt : j < elems.length := by omega
      have h1 := hel j hjl
      rw [List.getElem?_eq_getElem hlt] at h1 ⊢
      exact one j _ (List.mem_append_left _ (List.getElem_mem hlt)) h1
    have m2 : (if sp a.block then (List.range (cap - len)).mapM (fun j => (w.cells? 0 (a.add ((len + j) * P.cellsOf e)) (P.cellsOf e)).bind (DataW.trod enc P w 0 sp true m e)) else some []) = some rest := by
      by_cases hz : cap - len = 0
      · have : rest = [] := List.eq_nil_of_length_eq_zero (by omega)
        subst this
        rw [hz]; split <;> rfl
      · have hspa : sp a.block = true := by
          have h9 : 0 < (elems.length + rest.length) * P.cellsOf e := Nat.mul_pos (by omega) (by omega)
          exact hp (.cell a.block (a.off + 0)) (List.mem_append_left _ (MemPlace.mem_row.2 ⟨0, h9, rfl⟩))
        rw [if_pos hspa]
        refine mapM_of_get (by simp [hrl]) fun j i hj => ?_
        obtain ⟨hjl, rfl⟩ : j < cap - len ∧ j = i := by
          rcases Nat.lt_or_ge j (cap - len) with h | h
          · rw [List.getElem?_range h] at hj; simp at hj; exact ⟨h, hj⟩
          · rw [List.getElem?_eq_none (by simpa using h)] at hj; cases hj
        have hlt : j < rest.length := by omega
        have h1 := hr j hjl
        rw [List.getElem?_eq_getElem hlt] at h1 ⊢
        exact one (len + j) _ (List.mem_append_right _ (List.getElem_mem hlt)) h1
    unfold DataW.trod
    rw [ht]
    simp only [m1, hb, hl, hm, and_self, if_true, Option.bind_some]
    simp only [m2, Option.map_some]

/-! ### The arguments -/
/-- How an argument is handed over. -/
structure Par where
  t : TypeId
  agg : Bool
  D : List DV → Prop
def Par.good (P : Program) (p : Par) : Prop := TOK P p.t p.D ∧ SP P p.t ∧ (if p.agg then ((∃ fs, P.underlying p.t = some (.struct fs)) ∨ ∃ n e, P.underlying p.t = some (.array n e)) else (P.underlying p.t = some .bool ∨ (∃ k, P.underlying p.t = some (.int k)) ∨ ∃ e, P.underlying p.t = some (.slice e)))
def Par.av (p : Par) (ds : List DV) : AV := if p.agg then .agg ds else .one (ds.getD 0 (.bool false))
def avs : List Par → List (List DV) → List AV
  | p :: r, ds :: q => p.av ds :: avs r q
  | _, _ => []
def Dats : List Par → List (List DV) → Prop
  | [], [] => True
  | p :: r, ds :: q => p.D ds ∧ Dats r q
  | _, _ => False

theorem par_rep {H : Type} {enc : TypeId × Value → H} {w : World} {p : Par} {v : Value} {d : DataW H} {ps : List MemPlace} {b : Nat} (hg : p.good P) (hok : Value.okWide P w .any b p.t v) (ht : DataW.Trod enc P w 0 (fun _ => true) true p.t v d ps)
    (hb : Rows.uptoBulk d ≤ 1048576) : ∃ ds, p.D ds ∧ RepAV (fun _ => True) w (p.av ds) v := by
  obtain ⟨n, hn⟩ := ht
  obtain ⟨ds, h1, h2, h3⟩ := hg.1 H enc w n _ _ hn hb
  refine ⟨ds, h1, ?_⟩
  unfold Par.av
  have hg2 := hg.2.2
  split at hg2
  · rename_i ha
    rw [if_pos ha]
    obtain ⟨cs, rfl⟩ : ∃ cs, v = .agg cs := by
      rcases hg2 with ⟨fs, hfs⟩ | ⟨n, e, hfs⟩
      · obtain ⟨cs, rfl, _⟩ := okWide_struct hfs hok; exact ⟨cs, rfl⟩
      · simp only [Value.okWide, hfs] at hok
        obtain ⟨cs, rfl, _⟩ := hok; exact ⟨cs, rfl⟩
    refine ⟨cs, rfl, by rw [h2]; simp [Value.cells], fun j d hj => ?_⟩
    obtain ⟨u, hu, hr⟩ := h3 j d hj
    exact ⟨u, by simpa [Value.cells] using hu, hr⟩
  · rename_i ha
    rw [if_neg ha]
    have hc : v.cells.toList = [v] := by
      rcases hg2 with h | ⟨k, h⟩ | ⟨e, h⟩
      · obtain ⟨x, rfl⟩ := okWide_bool h hok; rfl
      · obtain ⟨x, rfl⟩ := okWide_int h hok; rfl
      · obtain ⟨x, y, z, rfl⟩ := okWide_slice h hok; rfl
    rw [hc] at h2 h3
    match ds, h2 with
    | [d], _ =>
      obtain ⟨u, hu, hr⟩ := h3 0 d rfl
      simp at hu; subst hu
      exact hr

theorem pars_rep {H : Type} {enc : TypeId × Value → H} {w : World} {b : Nat} : ∀ {L : List Par} {vs : List Value} {ds : List (DataW H)} {ps : List MemPlace}, (∀ p ∈ L, p.good P) → DataW.TrodAll enc P w 0 (fun _ => true) true (L.map (·.t)) vs ds ps →
    (∀ (j : Nat) t v, (L.map (·.t))[j]? = some t → vs[j]? = some v → Value.okWide P w .any b t v) → Rows.uptoBulkAll ds ≤ 1048576 →
    ∃ dd, Dats L dd ∧ vs.length = (avs L dd).length ∧ ∀ (j : Nat) (a : AV), (avs L dd)[j]? = some a → ∃ u, vs[j]? = some u ∧ RepAV (fun _ => True) w a u
  | [], vs, ds, ps, _, h, _, _ => by
    obtain ⟨rfl, rfl, rfl⟩ := trodAll_nil h
    exact ⟨[], trivial, rfl, fun j a hj => by simp [avs] at hj⟩
  | p :: L, vs, ds, ps, hg, h, hok, hb => by
    obtain ⟨v, vs', d, ds', p1, p2, rfl, rfl, rfl, h1, h2⟩ := trodAll_cons h
    simp only [Rows.uptoBulkAll] at hb
    obtain ⟨D1, g1, g2⟩ := par_rep (hg p (by simp)) (hok 0 p.t v rfl rfl) h1 (by omega)
    obtain ⟨dd, k1, k2, k3⟩ := pars_rep (fun q hq => hg q (by simp [hq])) h2 (fun j t v hj hv => hok (j + 1) t v (by simpa using hj) (by simpa using hv)) (by omega)
    refine ⟨D1 :: dd, ⟨g1, k1⟩, by simp [avs, k2], fun j a hj => ?_⟩
    cases j with
    | zero => simp [avs] at hj; subst hj; exact ⟨v, rfl, g2⟩
    | succ j => simpa using k3 j a (by simpa [avs] using hj)

/-- The arguments read as they did. -/
theorem pars_same {H : Type} {enc : TypeId × Value → H} {w w' : World} {sp : Nat → Bool} : ∀ {L : List Par} {vs : List Value} {ds : List (DataW H)} {ps : List MemPlace}, (∀ p ∈ L, p.good P) → DataW.TrodAll enc P w 0 (fun _ => true) true (L.map (·.t)) vs ds ps →
    (∀ p ∈ ps, sp p.block = true) → (∀ p ∈ ps, w.sameAt w' p) → DataW.TrodAll enc P w' 0 sp true (L.map (·.t)) vs ds ps
  | [], vs, ds, ps, _, h, _, _ => by
    obtain ⟨rfl, rfl, rfl⟩ := trodAll_nil h
    exact rfl
  | p :: L, vs, ds, ps, hg, h, hs, hw => by
    obtain ⟨v, vs', d, ds', p1, p2, rfl, rfl, rfl, ⟨n, h1⟩, h2⟩ := trodAll_cons h
    refine ⟨p1, p2, ⟨n, ?_⟩, pars_same (fun q hq => hg q (by simp [hq])) h2 (fun q hq => hs q (List.mem_append_right _ hq)) (fun q hq => hw q (List.mem_append_right _ hq)), rfl⟩
    exact (hg p (by simp)).2.1 H enc w' n _ _ sp (DataW.trod_carry n _ _ _ h1 fun q hq => hw q (List.mem_append_left _ hq)) fun q hq => hs q (List.mem_append_left _ hq)

/-- A LAW: whatever the data, the call tells true; so the statement's contract. -/
theorem law_contract {f : FuncId} {fn : Func} {s : ChangeSpec} {L : List Par} {tb : TypeId} (hg : ∀ p ∈ L, p.good P) (hpt : fn.params.toList = L.map (·.t)) (hvars : s.vars = []) (hrt : fn.resultTypes = #[tb]) (hbt : P.underlying tb = some .bool)
    (hs : ∀ (H : Type) (ds : List (DataW H)), ds.length = L.length → s.fn H ds = { results := [.lit (.bool true)], args := ds })
    (hpure : ∀ dd, Dats L dd → PureCalls P f (avs L dd) [.one (.bool true)])
    (H : Type) (enc : TypeId × Value → H) (W : World) (base : Nat) (args : Array Value) (ds gs : List (DataW H)) (before : List MemPlace)
    (hval : ∀ (j : Nat) t v, fn.params[j]? = some t → args[j]? = some v → Value.okWide P W .any base t v)
    (hW : DataW.Whole enc P fn.params.toList s.vars false W args.toList ds gs before) (hk : Rows.uptoBulkAll (ds ++ gs) ≤ 1048576) :
    Calls P f args W fun e W' => ∃ v, e = .returned v ∧ s.post enc P fn false true false false W args v W' := by
  have hW' := hW
  obtain ⟨p, q, hA, hV, rfl, hfz, hnd⟩ := hW
  rw [hvars] at hV
  obtain ⟨rfl, rfl⟩ := trodVars_none hV
  rw [List.append_nil] at hk
  rw [hpt] at hA
  have hlen : ds.length = L.length := by
    have : ∀ {L : List Par} {vs : List Value} {ds : List (DataW H)} {ps : List MemPlace}, DataW.TrodAll enc P W 0 (fun _ => true) true (L.map (·.t)) vs ds ps → ds.length = L.length := by
      intro L
      induction L with
      | nil => intro vs ds ps h; obtain ⟨rfl, rfl, rfl⟩ := trodAll_nil h; rfl
      | cons p L ih =>
        intro vs ds ps h
        obtain ⟨v, vs', d, ds', p1, p2, rfl, rfl, rfl, _, h2⟩ := trodAll_cons h
        simp [ih h2]
    exact this hA
  obtain ⟨dd, hd, hsz, hrep⟩ := pars_rep (b := base) hg hA (fun j t v hj hv => hval j t v (by rw [← hpt] at hj; simpa using hj) (by simpa using hv)) hk
  obtain ⟨_, hcall⟩ := hpure dd hd
  refine (hcall W (fun _ => True) args ⟨by simpa using hsz, fun j a hj => by simpa using hrep j a hj⟩).mono fun e W' h => ?_
  obtain ⟨v, rfl, ⟨ow, hr⟩, hbel⟩ := h
  have hv : v = .bool true := by
    have hr' : Reads (fun b => (True ∨ W.heap.size ≤ b) ∧ ow ≠ some b) W' (.bool true) v := hr
    cases hr'; rfl
  subst hv
  refine ⟨_, rfl, ?_⟩
  have hfn := hs H ds hlen
  have hold : ∀ p' ∈ p, p'.block < W.heap.size := fun p' hp' => hW'.lt p' (by simpa using hp')
  have hsame : ∀ p' ∈ p, W.sameAt W' p' := fun p' hp' => hbel.same (hold p' hp')
  have hres : ∀ (b : Nat) (sp : Nat → Bool) (hd : Bool), DataW.TrodAll enc P W' b sp hd fn.resultTypes.toList ((Value.bool true).resultList fn.resultTypes.size) [.lit (.bool true)] [] := by
    intro b sp hd
    rw [hrt]
    exact trodAll_cons_mk (shut_bool hbt _) trodAll_mk0
  have hargs : ∀ sp : Nat → Bool, (∀ p' ∈ p, sp p'.block = true) → DataW.TrodAll enc P W' 0 sp true fn.params.toList args.toList ds p := by
    intro sp hsp
    rw [hpt]
    exact pars_same hg hA hsp hsame
  have hok : ∀ (j : Nat) (t : TypeId) (r : Value), fn.resultTypes[j]? = some t → ((Value.bool true).resultList fn.resultTypes.size)[j]? = some r → Value.okWide P W' .any 0 t r := by
    refine ok_one hrt rfl (okWide_bool_mk hbt _)
  have hfnn : s.fn H (ds ++ []) = { results := [.lit (.bool true)], args := ds } := by rw [List.append_nil]; exact hfn
  refine ⟨ds, [], p ++ [], [], p, [], hW', by rw [hfnn]; exact hres _ _ _, by rw [hfnn]; exact hargs _ (fun p' hp' => by simpa using hold p' hp'), by rw [hvars, hfnn]; rfl, World.keptBut_mono (fun p' hp' => ⟨hp', .inr (.inl (by simpa using hp'))⟩) (hbel.frame _), fun h => ?_⟩
  refine ⟨hok, ds ++ [.lit (.bool true)], [], ([] ++ p) ++ [], ⟨[] ++ p, [], ?_, by rw [hvars]; rfl, rfl, ?_, fun h => by cases h⟩, fun p' hp' _ => by simpa using hp'⟩
  all_goals first | (cases h; done) | skip
end Go.Px.Na
/- Ty: the numbers of types in this translation; what they are. -/
set_option maxRecDepth 10000
set_option linter.unusedSimpArgs false
set_option linter.unusedVariables false
namespace Go.Px.Na
open Go.RowKit
open Go.Proofs (Tryz.prog)
open Go.Proofs.Tryz (prog)
theorem cells4 : prog.cellsOf 4 = 1 := by kernel_rfl
theorem cells22 : prog.cellsOf 22 = 1 := by kernel_rfl
theorem cells24 : prog.cellsOf 24 = 3 := by kernel_rfl
theorem cells71 : prog.cellsOf 71 = 1 := by kernel_rfl
theorem g_bool : Par.good prog ⟨4, false, Dbool⟩ := ⟨tok_bool Go.Proofs.Tryz.underlying4, sp_bool Go.Proofs.Tryz.underlying4, .inl Go.Proofs.Tryz.underlying4⟩
theorem g_int : Par.good prog ⟨3, false, Dint .i64⟩ := ⟨tok_int Go.Proofs.Tryz.underlying3, sp_int Go.Proofs.Tryz.underlying3, .inr (.inl ⟨_, Go.Proofs.Tryz.underlying3⟩)⟩
theorem t_nl : TOK prog 22 Dnl := tok_nl Go.Proofs.Tryz.underlying22 Go.Proofs.Tryz.underlying71 cells71
theorem s_nl : SP prog 22 := sp_slice Go.Proofs.Tryz.underlying22 (sp_int Go.Proofs.Tryz.underlying71) (by rw [cells71]; omega)
theorem t_rat : TOK prog 24 Drat := (tok_struct Go.Proofs.Tryz.underlying24 (Ds := [Dbool, Dnl, Dnl])
  ⟨rfl, tok_bool Go.Proofs.Tryz.underlying4, by rw [cells4], t_nl, by rw [cells4, cells22], t_nl, trivial⟩
  (by simp only [total, cells4, cells22, cells24])).imp fun _ h => parts_rat h
theorem s_rat : SP prog 24 := sp_struct Go.Proofs.Tryz.underlying24 fun i f h => by
  match i with
  | 0 => simp at h; subst h; exact sp_bool Go.Proofs.Tryz.underlying4
  | 1 => simp at h; subst h; exact s_nl
  | 2 => simp at h; subst h; exact s_nl
  | i + 3 => simp at h
theorem g_rat : Par.good prog ⟨24, true, Drat⟩ := ⟨t_rat, s_rat, .inl ⟨_, Go.Proofs.Tryz.underlying24⟩⟩
theorem own : ownKnob prog.godebug = none := by kernel_rfl
end Go.Px.Na

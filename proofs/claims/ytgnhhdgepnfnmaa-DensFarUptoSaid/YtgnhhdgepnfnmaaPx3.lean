/- Px3: one operation: what the symbolic compiler makes of it is what the machine does. Part one: operands, atoms, freezing, primitives. -/
import Derived.Test.YtgnhhdgepnfnmaaPx2
import Derived.Laws.Cells
import Derived.Laws.Slices
import Derived.Laws.MakeOwn
import Derived.Laws.AppendOwn
import Derived.Laws.AppendOwnNone
import Derived.Laws.Unary
set_option linter.unusedSimpArgs false
set_option linter.unusedVariables false
namespace Go.Px
open Go.RowKit

def evT (tm : Nat → Option SV) : Operand → Option SV
  | .tmp t => tm t
  | .const v => (S1.ofVal v).map .s
  | .func f => some (.s (.one (.fn f [])))
  | .global _ => none
theorem St.ev_eq (S : St) (x : Operand) : S.ev x = evT S.fr.tm x := by cases x <;> rfl

theorem mapM_get {α β : Type} (f : α → Option β) : ∀ (l : List α) (r : List β), l.mapM f = some r → r.length = l.length ∧ ∀ (j : Nat) (x : α), l[j]? = some x → ∃ y, r[j]? = some y ∧ f x = some y
  | [], r, h => by simp at h; subst h; simp
  | a :: l, r, h => by
    simp only [List.mapM_cons, Option.pure_def, Option.bind_eq_bind, Option.bind_eq_some_iff] at h
    obtain ⟨y, hy, r', hr', hr⟩ := h
    cases hr
    have ih := mapM_get f l r' hr'
    refine ⟨by simp [ih.1], fun j x hj => ?_⟩
    cases j with
    | zero => simp at hj; subst hj; exact ⟨y, by simp, hy⟩
    | succ j => simpa using ih.2 j x (by simpa using hj)

theorem mapM_back {α β : Type} (f : α → Option β) {l : List α} {r : List β} (h : l.mapM f = some r) {j : Nat} {y : β} (hj : r[j]? = some y) : ∃ x, l[j]? = some x ∧ f x = some y := by
  have hh := mapM_get f l r h
  have hlt : j < l.length := by rw [← hh.1]; exact (List.getElem?_eq_some_iff.1 hj).1
  obtain ⟨y', hy', hf⟩ := hh.2 j _ (List.getElem?_eq_getElem hlt)
  rw [hy'] at hj; cases hj
  exact ⟨_, List.getElem?_eq_getElem hlt, hf⟩

section
variable {w0 : World} {ok0 : Nat → Prop} {fs : List (Array Value)} {stk : List Frm} {ρ ρ' : List DV} {β : Bm} {nt : Nat} {tm : Nat → Option SV} {bl : Nat → Option Blk} {a : Act} {w : World} {ok : Nat → Prop}

theorem C.ofVal_rep {v : Value} {c : C} (h : C.ofVal v = some c) : CRep ρ β ok w c v := by
  unfold C.ofVal at h
  split at h <;> first | (cases h) | skip
  · exact ⟨_, rfl, .bool _⟩
  · exact ⟨_, rfl, .int _ _⟩
  · rfl
  · rfl

theorem cellsOfVal_rep {v : Value} {cs : List C} (h : cellsOfVal v = some cs) : CsRep ρ β ok w cs v.cells := by
  unfold cellsOfVal at h
  have hh := mapM_get _ _ _ h
  refine ⟨by simpa using hh.1.symm, fun j c hj => ?_⟩
  obtain ⟨x, hx, hf⟩ := mapM_back _ h hj
  exact ⟨x, by simpa using hx, C.ofVal_rep hf⟩

theorem S1.ofVal_rep {v : Value} {s : S1} (h : S1.ofVal v = some s) : S1Rep ρ β ok w s v := by
  cases v
  case agg cs =>
    simp only [S1.ofVal, Option.map_eq_some_iff] at h
    obtain ⟨l, hl, rfl⟩ := h
    exact ⟨cs, rfl, by simpa [Value.cells] using cellsOfVal_rep (v := .agg cs) (by simpa [cellsOfVal, Value.cells] using hl)⟩
  all_goals
    simp only [S1.ofVal, Option.map_eq_some_iff] at h
    obtain ⟨l, hl, rfl⟩ := h
    exact C.ofVal_rep hl

theorem RM.eval (H : RM w0 ok0 fs stk ρ β nt tm bl a w) {x : Operand} {sv : SV} (h : evT tm x = some sv) : SVRep ρ β (okS w0 ok0 bl β) w sv (a.eval x) := by
  cases x with
  | tmp t =>
    obtain ⟨v, hv, hr⟩ := H.htm t sv h
    have : a.eval (.tmp t) = v := by simp [Act.eval, Array.getD_eq_getD_getElem?, hv]
    rw [this]; exact hr
  | const v =>
    simp only [evT, Option.map_eq_some_iff] at h
    obtain ⟨s, hs, rfl⟩ := h
    exact S1.ofVal_rep hs
  | func f =>
    simp only [evT] at h; cases h
    exact ⟨#[], rfl, rfl, fun j k hj => by simp at hj⟩
  | global g => cases h

theorem rd_of_lt {n : Nat} {a : A} (h : a.lt n = true) (hn : ρ.length = n) : ∃ d, a.rd ρ = some d := by
  cases a with
  | var i => simp only [A.lt, decide_eq_true_eq] at h; exact ⟨ρ[i], by simp [A.rd]⟩
  | bol x => exact ⟨_, rfl⟩
  | int k n => exact ⟨_, rfl⟩
  | nil => exact ⟨_, rfl⟩

theorem ev_of_ext {n : Nat} {a : A} (h : a.lt n = true) (hn : ρ.length = n) (hE : Ext ρ ρ') {d : DV} (hd : a.rd ρ' = some d) : a.ev ρ = d := by
  obtain ⟨d', hd'⟩ := rd_of_lt h hn
  rw [A.rd_ext hE hd'] at hd; cases hd
  exact A.ev_of_rd hd'

theorem A.const_ev {a : A} {d : DV} (h : a.const = some d) : a.ev ρ = d := by cases a <;> simp_all [A.const, A.ev]
theorem DV.atom_rd {d : DV} {a : A} (h : d.atom = some a) : a.rd ρ = some d := by cases d <;> simp [DV.atom] at h <;> subst h <;> rfl

end

/-- What a primitive leaves. -/
theorem emit_sound {P : Program} {As : List (List DV → Prop)} {ρ : List DV} {Q : List AV → Prop} {p : Prim} {args : List A} {S : St} {K : St → Option IR} {ir : IR}
    (h : emit p args S K = some ir) (hw : IRwp P As ρ ir Q) (hl : ρ.length = S.nv) :
    ∃ d ir', args.all (A.lt S.nv) = true ∧ p.den (args.map (A.ev ρ)) = some d ∧ K { S with nv := S.nv + 1 } = some ir' ∧ IRwp P As (ρ ++ [d]) ir' Q ∧ Ext ρ (ρ ++ [d]) ∧ (ρ ++ [d]).length = S.nv + 1 ∧ (A.var S.nv).rd (ρ ++ [d]) = some d := by
  unfold emit at h
  split at h
  · rename_i hlt
    simp only [Option.map_eq_some_iff] at h
    obtain ⟨ir', hk, rfl⟩ := h
    obtain ⟨d, hd, hw'⟩ := hw
    exact ⟨d, ir', hlt, hd, hk, hw', Ext.app _ _, by simp [hl], by simp [A.rd, ← hl]⟩
  · cases h

theorem prim_sound {P : Program} {As : List (List DV → Prop)} {ρ : List DV} {Q : List AV → Prop} {p : Prim} {args : List A} {S : St} {K : A → St → Option IR} {ir : IR}
    (h : prim p args S K = some ir) (hw : IRwp P As ρ ir Q) (hl : ρ.length = S.nv) :
    ∃ z d n ρ' ir', (args.all (A.lt S.nv) = true) ∧ p.den (args.map (A.ev ρ)) = some d ∧ K z { S with nv := n } = some ir' ∧ IRwp P As ρ' ir' Q ∧ Ext ρ ρ' ∧ ρ'.length = n ∧ z.rd ρ' = some d := by
  unfold prim at h
  split at h
  · rename_i z hz
    simp only [Option.bind_eq_some_iff] at hz
    obtain ⟨ds, hds, d, hd, hza⟩ := hz
    have he : args.map (A.ev ρ) = ds := by
      have hh := mapM_get _ _ _ hds
      apply List.ext_getElem?
      intro j
      rw [List.getElem?_map]
      cases hj : args[j]? with
      | none =>
        have : ds[j]? = none := by rw [List.getElem?_eq_none_iff] at hj ⊢; omega
        simp [this]
      | some x =>
        obtain ⟨y, hy, hf⟩ := hh.2 j x hj
        simp [hy, A.const_ev hf]
    have hlt : args.all (A.lt S.nv) = true := by
      rw [List.all_eq_true]
      intro x hx
      obtain ⟨j, hj⟩ := List.mem_iff_getElem?.1 hx
      obtain ⟨y, _, hf⟩ := (mapM_get _ _ _ hds).2 j x hj
      cases x <;> simp_all [A.const, A.lt]
    exact ⟨z, d, S.nv, ρ, ir, hlt, by rw [he]; exact hd, h, hw, Ext.refl _, hl, DV.atom_rd hza⟩
  · obtain ⟨d, ir', hlt, hd, hk, hw', hE, hl', hz⟩ := emit_sound h hw hl
    exact ⟨.var S.nv, d, S.nv + 1, ρ ++ [d], ir', hlt, hd, hk, hw', hE, hl', hz⟩

/-! ### Freezing -/
def patch {α : Type} (bl bl' : Nat → Option α) (ks : List Nat) : Nat → Option α := fun k => if k ∈ ks then bl' k else bl k

theorem patch_nil {α : Type} (bl bl' : Nat → Option α) : patch bl bl' [] = bl := by funext k; simp [patch]
theorem patch_same {α : Type} {bl bl' : Nat → Option α} {ks : List Nat} (h : ∀ k ∈ ks, bl k = bl' k) : patch bl bl' ks = bl := by
  funext k; unfold patch; split
  · rename_i hk; exact (h k hk).symm
  · rfl
theorem patch_patch {α : Type} {bl b1 b2 : Nat → Option α} {k1 k2 : List Nat} (h : ∀ k, k ∉ k2 → b2 k = b1 k) : patch (patch bl b1 k1) b2 k2 = patch bl b2 (k1 ++ k2) := by
  funext k
  simp only [patch, List.mem_append]
  by_cases h2 : k ∈ k2
  · simp [h2]
  · by_cases h1 : k ∈ k1
    · simp [h1, h2, h k h2]
    · simp [h1, h2]
/-- A wider patch is the same one where nothing more is turned. -/
theorem patch_wide {α : Type} {bl b0 b1 : Nat → Option α} {k1 k2 : List Nat} (hsub : ∀ k ∈ k1, k ∈ k2) (h0 : ∀ k ∈ k2, bl k = b0 k) (h1 : ∀ k, k ∉ k1 → b1 k = b0 k) : patch bl b1 k2 = patch bl b1 k1 := by
  funext k
  simp only [patch]
  by_cases hk1 : k ∈ k1
  · simp [hk1, hsub k hk1]
  · by_cases hk2 : k ∈ k2
    · simp [hk1, hk2, h1 k hk1, h0 k hk2]
    · simp [hk1, hk2]

section
variable {w0 : World} {ok0 : Nat → Prop} {fs : List (Array Value)} {stk : List Frm} {ρ ρ' : List DV} {β : Bm} {nt : Nat} {tm : Nat → Option SV} {bl : Nat → Option Blk} {a : Act} {w : World} {ok : Nat → Prop}

theorem oneCell'_of_reads {d : DV} {v : Value} (h : Reads ok w d v) : v.oneCell' = true := by cases h <;> rfl

/-- An own row reads as the list that it holds. -/
theorem OwnRep.reads {v : Value} {n : Nat} {cells : List DV} {s : Nat} {E : TypeId} (h : OwnRep w0 ok w v n cells s E) (hok : ∀ b, blockOf v = some b → ok b) : Reads ok w (.list n cells) v := by
  obtain ⟨xs, ho, hl, hc⟩ := h
  rcases ho.2 with ⟨rfl, rfl⟩ | ⟨g, cap, cur, rfl, hbg, hh, hn, hm, hs, htake⟩
  · have : cells = [] := List.eq_nil_of_length_eq_zero (by rw [← hl, ho.1]; simp)
    subst this
    exact .list 0 [] none 0 (fun _ => undef) (Nat.le_refl _) (fun h => absurd rfl h) (fun j d hj => by simp at hj)
  · refine .list n cells _ cap (fun j => xs.getD j undef) hn (fun _ => ⟨_, rfl, hok g rfl, fun j hj => ?_⟩) (fun j d hj => ?_)
    · have hx : xs[j]? = some (xs.getD j undef) := by
        have : j < xs.length := by rw [hl]; exact hj
        simp [List.getD, List.getElem?_eq_getElem this]
      have := World.ownsR.cells (w := w) (v := .slice (some ⟨g, 0, none⟩) n cap) ho (g := g) rfl j _ hx
      exact this
    · obtain ⟨u, hu, hq⟩ := hc j d hj
      have : xs.getD j undef = u := by simp [List.getD, hu]
      show Reads ok w d (xs.getD j undef)
      rw [this]; exact hq

theorem okS_upd_fro {k : Nat} {x : A} {b : Nat} (h : okS w0 ok0 bl β b) : okS w0 ok0 (upd bl k (some (.fro x))) β b := by
  refine ⟨h.1, fun k' blk v hb hm hv => ?_⟩
  unfold upd at hb
  split at hb
  · cases hb; cases hm
  · exact h.2 k' blk v hb hm hv

theorem RM.freeze (H : RM w0 ok0 fs stk ρ β nt tm bl a w) {k : Nat} {x : A} {s : Nat} {E : TypeId} (hk : bl k = some (.own x s E)) :
    RM w0 ok0 fs stk ρ β nt tm (upd bl k (some (.fro x))) a w := by
  obtain ⟨v, n, cells, h1, h2, h3⟩ := H.hbl k _ hk
  have hokv : ∀ b, blockOf v = some b → okS w0 ok0 (upd bl k (some (.fro x))) β b := fun b hb => by
    refine ⟨.inr (h3.lt hb).1, fun k' blk v' hb' hm hv' he => ?_⟩
    unfold upd at hb'
    split at hb'
    · cases hb'; cases hm
    · rename_i hne
      exact hne (H.inj k' k blk _ v' v b hb' hm hk rfl hv' h1 he hb)
  have hmono : ∀ b o, okS w0 ok0 bl β b → w.heap[b]? = some o → okS w0 ok0 (upd bl k (some (.fro x))) β b ∧ w.heap[b]? = some o := fun b o hb ho => ⟨okS_upd_fro hb, ho⟩
  refine H.step (Ext.refl _) (fun _ _ h => h) hmono (fun k' b hb => ?_) (fun k1 k2 b1 b2 v1 v2 m e1 m1 e2 m2 => ?_) H.bel H.na
  · unfold upd at hb
    split at hb
    · rename_i hke; subst hke; cases hb
      refine .inr ⟨v, n, cells, h1, h2, (h3.imp hmono fun _ _ => rfl).reads hokv, ?_⟩
      obtain ⟨xs, ho, _⟩ := h3
      rcases ho.2 with ⟨rfl, rfl⟩ | ⟨g, cap, cur, rfl, _⟩
      · exact .inl rfl
      · exact .inr ⟨g, cap, rfl⟩
    · exact .inl ⟨hb, fun _ _ _ _ _ => rfl⟩
  · unfold upd at e1 e2
    split at e1
    · cases e1; cases m1
    · split at e2
      · cases e2; cases m2
      · exact H.inj k1 k2 b1 b2 v1 v2 m e1 m1 e2 m2

theorem upd_eq_patch {S1 : St} {S : St} {k : Nat} {b : Blk} (h : S1.bl = upd S.bl k (some b)) : upd bl k (some b) = patch bl S1.bl [k] := by
  funext j
  simp only [upd, patch, h, List.mem_singleton]
  split <;> simp_all

/-- A cell told as an atom, in whatever state that agrees on the block that it names. -/
theorem toA_sound {S S1 : St} {c : C} {x : A} (h : S.toA c = some (x, S1)) : S1 = { S with bl := S1.bl } ∧ (∀ k, k ∉ c.blocks → S1.bl k = S.bl k) ∧
    (RM w0 ok0 fs stk ρ β nt tm bl a w → (∀ k ∈ c.blocks, bl k = S.bl k) → ∀ v, CRep ρ β (okS w0 ok0 bl β) w c v →
      RM w0 ok0 fs stk ρ β nt tm (patch bl S1.bl c.blocks) a w ∧ (∀ b, okS w0 ok0 bl β b → okS w0 ok0 (patch bl S1.bl c.blocks) β b) ∧
      ∃ d, x.rd ρ = some d ∧ Reads (okS w0 ok0 (patch bl S1.bl c.blocks) β) w d v) := by
  cases c <;> simp only [St.toA] at h
  case «at» y =>
    cases h
    exact ⟨rfl, fun _ _ => rfl, fun H _ v hv => by simp only [C.blocks, patch_nil]; exact ⟨H, fun _ h => h, hv⟩⟩
  case nils =>
    cases h
    refine ⟨rfl, fun _ _ => rfl, fun H _ v hv => by
      simp only [C.blocks, patch_nil]
      refine ⟨H, fun _ h => h, .list 0 [], rfl, ?_⟩
      simp only [CRep] at hv; subst hv
      exact .list 0 [] none 0 (fun _ => undef) (Nat.le_refl _) (fun h => absurd rfl h) (fun j d hj => by simp at hj)⟩
  case ful y =>
    cases h
    exact ⟨rfl, fun _ _ => rfl, fun H _ v hv => by
      obtain ⟨d, hd, hr, _⟩ := hv
      simp only [C.blocks, patch_nil]; exact ⟨H, fun _ h => h, d, hd, hr⟩⟩
  case own k =>
    split at h
    · rename_i y s E hk
      cases h
      refine ⟨rfl, fun j hj => by simp only [C.blocks, List.mem_singleton] at hj; simp [St.setB, upd, hj], fun H hag v hv => ?_⟩
      have hk' : bl k = some (.own x s E) := by rw [hag k (by simp [C.blocks])]; exact hk
      have hp : patch bl (S.setB k (.fro x)).bl (C.blocks (.own k)) = upd bl k (some (.fro x)) := by
        rw [upd_eq_patch (S1 := S.setB k (.fro x)) (S := S) (k := k) (b := .fro x) rfl]; rfl
      rw [hp]
      have H' := H.freeze hk'
      refine ⟨H', fun b hb => okS_upd_fro hb, ?_⟩
      obtain ⟨v', n, cells, h1, h2, h3, _⟩ := H'.hbl k (.fro x) (by simp [upd])
      simp only [CRep] at hv
      rw [hv] at h1; cases h1
      exact ⟨_, h2, h3⟩
    · rename_i y hk
      cases h
      refine ⟨rfl, fun _ _ => rfl, fun H hag v hv => ?_⟩
      have hk' : bl k = some (.fro x) := by rw [hag k (by simp [C.blocks])]; exact hk
      rw [patch_same hag]
      refine ⟨H, fun _ h => h, ?_⟩
      obtain ⟨v', n, cells, h1, h2, h3, _⟩ := H.hbl k (.fro x) hk'
      simp only [CRep] at hv
      rw [hv] at h1; cases h1
      exact ⟨_, h2, h3⟩
    · cases h
  all_goals cases h


/-- Reads of what an atom is. -/
def ARd (ρ : List DV) (ok : Nat → Prop) (w : World) (x : A) (v : Value) : Prop := ∃ d, x.rd ρ = some d ∧ Reads ok w d v

theorem toAs_sound : ∀ {cs : List C} {S S1 : St} {l : List A}, S.toAs cs = some (l, S1) → S1 = { S with bl := S1.bl } ∧ (∀ k, k ∉ cs.flatMap C.blocks → S1.bl k = S.bl k) ∧ l.length = cs.length ∧
    ∀ {bl : Nat → Option Blk}, RM w0 ok0 fs stk ρ β nt tm bl a w → (∀ k ∈ cs.flatMap C.blocks, bl k = S.bl k) → ∀ vs : Nat → Value, (∀ (j : Nat) (c : C), cs[j]? = some c → CRep ρ β (okS w0 ok0 bl β) w c (vs j)) →
      RM w0 ok0 fs stk ρ β nt tm (patch bl S1.bl (cs.flatMap C.blocks)) a w ∧ (∀ b, okS w0 ok0 bl β b → okS w0 ok0 (patch bl S1.bl (cs.flatMap C.blocks)) β b) ∧
      ∀ (j : Nat) (x : A), l[j]? = some x → ARd ρ (okS w0 ok0 (patch bl S1.bl (cs.flatMap C.blocks)) β) w x (vs j)
  | [], S, S1, l, h => by
    simp only [St.toAs] at h; cases h
    exact ⟨rfl, fun _ _ => rfl, rfl, fun H _ vs _ => by simp only [List.flatMap_nil, patch_nil]; exact ⟨H, fun _ h => h, fun j x hj => by simp at hj⟩⟩
  | c :: r, S, S1, l, h => by
    simp only [St.toAs, Option.bind_eq_bind, Option.bind_eq_some_iff, Option.pure_def] at h
    obtain ⟨⟨x, S'⟩, hx, ⟨l', S''⟩, hl', hh⟩ := h
    cases hh
    obtain ⟨e1, u1, _⟩ := toA_sound (w0 := w0) (ok0 := ok0) (fs := fs) (stk := stk) (ρ := ρ) (β := β) (nt := nt) (tm := tm) (bl := S.bl) (a := a) (w := w) hx
    obtain ⟨e2, u2, n2, f2⟩ := toAs_sound hl'
    refine ⟨by rw [e2, e1], fun k hk => ?_, by simp [n2], fun {bl} H hag vs hvs => ?_⟩
    · simp only [List.flatMap_cons, List.mem_append, not_or] at hk
      rw [u2 k hk.2, u1 k hk.1]
    · simp only [List.flatMap_cons] at hag ⊢
      obtain ⟨H1, m1, d, hd, hr⟩ := (toA_sound (bl := bl) hx).2.2 H (fun k hk => hag k (by simp [hk])) (vs 0) (hvs 0 c rfl)
      have hag2 : ∀ k ∈ r.flatMap C.blocks, patch bl S'.bl c.blocks k = S'.bl k := fun k hk => by
        unfold patch; split
        · rfl
        · rename_i hn; rw [u1 k hn]; exact hag k (by simp [hk])
      obtain ⟨H2, m2, f3⟩ := f2 H1 hag2 (fun j => vs (j + 1)) (fun j c' hj => (hvs (j + 1) c' (by simpa using hj)).imp (Ext.refl _) (fun _ _ h => h) (fun b o hb ho => ⟨m1 b hb, ho⟩))
      rw [patch_patch u2] at H2 m2 f3
      refine ⟨H2, fun b hb => m2 b (m1 b hb), fun j y hj => ?_⟩
      cases j with
      | zero => simp at hj; subst hj; exact ⟨d, hd, hr.mono m2⟩
      | succ j => exact f3 j y (by simpa using hj)

/-! ### What an operation must show -/
/-- So long as a state agrees with S on what the operation names, it goes on as S' says. -/
def OpOK (P : Program) (o : Oper) (id : Nat) (S S' : St) (ks : List Nat) (sv : Option SV) (ρ' : List DV) : Prop :=
  ∀ (ρf : List DV), Ext ρ' ρf → ∀ (w0 : World) (ok0 : Nat → Prop) (fs : List (Array Value)) (stk : List Frm) (β : Bm) (nt : Nat) (tm : Nat → Option SV) (bl : Nat → Option Blk) (a : Act) (w : World),
    RM w0 ok0 fs stk ρf β nt tm bl a w → (∀ x ∈ o.op.operands, evT tm x = S.ev x) → (∀ k ∈ ks, bl k = S.bl k) → β id = none → bl id = none →
    ∀ (K : Act → World → Prop) (Q : Exit → Act → World → Prop),
      (∀ v β' w', RM w0 ok0 fs stk ρf β' nt tm (patch bl S'.bl (id :: ks)) a w' → (∀ k u, β k = some u → β' k = some u) → (∀ k, k ≠ id → β' k = β k) →
        (∀ s, sv = some s → SVRep ρf β' (okS w0 ok0 (patch bl S'.bl (id :: ks)) β') w' s v) → K (a.put o.dst v) w') → o.wp P a w K Q

def Same (S S' : St) : Prop := S'.fr = S.fr ∧ S'.stk = S.stk ∧ S'.nb = S.nb ∧ S'.dp = S.dp ∧ S'.kn = S.kn

def OpOut (P : Program) (o : Oper) (id : Nat) (S : St) (ks : List Nat) (K : Option SV → St → Option IR) (As : List (List DV → Prop)) (ρ : List DV) (Q : List AV → Prop) : Prop :=
  ∃ ρ' sv S' ir', Ext ρ ρ' ∧ ρ'.length = S'.nv ∧ K sv S' = some ir' ∧ IRwp P As ρ' ir' Q ∧ Same S S' ∧ (∀ k, k ∉ id :: ks → S'.bl k = S.bl k) ∧
    ((turnsOp o.op = false → ∀ k, k ≠ id → S'.bl k = S.bl k) ∧ ∀ k, k ≠ id → S.bl k = none → S'.bl k = none) ∧ OpOK P o id S S' ks sv ρ'

theorem wp_value {P : Program} {o : Oper} {a : Act} {w w' : World} {v : Value} {K : Act → World → Prop} {Q : Exit → Act → World → Prop} (h : (execOp a.eval o).run P w = .ok (.value v) w') (hk : K (a.put o.dst v) w') : o.wp P a w K Q := by
  unfold Oper.wp; rw [h]; exact hk
theorem wp_skipped {P : Program} {o : Oper} {a : Act} {w w' : World} {K : Act → World → Prop} {Q : Exit → Act → World → Prop} (h : (execOp a.eval o).run P w = .ok .skip w') (hk : K (a.put o.dst undef) w') : o.wp P a w K Q := by
  unfold Oper.wp; rw [h]; exact hk

/-- An operation that leaves memory alone. -/
theorem OpOut.plain {P : Program} {o : Oper} {id : Nat} {S : St} {ks : List Nat} {K : Option SV → St → Option IR} {As : List (List DV → Prop)} {ρ ρ' : List DV} {Q : List AV → Prop} {sv : Option SV} {n : Nat} {ir' : IR}
    (hE : Ext ρ ρ') (hl : ρ'.length = n) (hK : K sv { S with nv := n } = some ir') (hw : IRwp P As ρ' ir' Q) (hid : S.bl id = none)
    (h : ∀ (ρf : List DV), Ext ρ' ρf → ∀ (w0 : World) (ok0 : Nat → Prop) (fs : List (Array Value)) (stk : List Frm) (β : Bm) (nt : Nat) (tm : Nat → Option SV) (bl : Nat → Option Blk) (a : Act) (w : World),
      RM w0 ok0 fs stk ρf β nt tm bl a w → (∀ x ∈ o.op.operands, evT tm x = S.ev x) → (∀ k ∈ ks, bl k = S.bl k) →
      ∃ v, (execOp a.eval o).run P w = .ok (.value v) w ∧ ∀ s, sv = some s → SVRep ρf β (okS w0 ok0 bl β) w s v) : OpOut P o id S ks K As ρ Q := by
  refine ⟨ρ', sv, { S with nv := n }, ir', hE, hl, hK, hw, ⟨rfl, rfl, rfl, rfl, rfl⟩, fun _ _ => rfl, ⟨fun _ _ _ => rfl, fun _ _ h => h⟩, ?_⟩
  intro ρf hEf w0 ok0 fs stk β nt tm bl a w H hag hb hβ hbl K' Q' hk
  obtain ⟨v, hrun, hv⟩ := h ρf hEf w0 ok0 fs stk β nt tm bl a w H hag hb
  have hp : patch bl S.bl (id :: ks) = bl := patch_same fun k hk => by
    rcases List.mem_cons.1 hk with rfl | hk
    · rw [hbl, hid]
    · exact hb k hk
  refine wp_value hrun (hk v β w ?_ (fun _ _ h => h) (fun _ _ => rfl) ?_)
  · rw [hp]; exact H
  · rw [hp]; exact hv

end
end Go.Px

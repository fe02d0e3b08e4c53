/- Px10: one operation, part eight: lengths, appends, calls by contract. -/
import Derived.Test.YtgnhhdgepnfnmaaPx9
set_option linter.unusedSimpArgs false
set_option linter.unusedVariables false
namespace Go.Px
open Go.RowKit

/-! ### Arguments -/
def ArgRd (ρ : List DV) (ok : Nat → Prop) (w : World) : Arg → Value → Prop
  | .one a, v => ARd ρ ok w a v
  | .agg l, v => ∃ vs : Array Value, v = .agg vs ∧ vs.size = l.length ∧ ∀ (j : Nat) (a : A), l[j]? = some a → ∃ u, vs[j]? = some u ∧ ARd ρ ok w a u
  | .ref l, v => ∃ b arr T fz, v = .pointer (some ⟨b, 0, none⟩) ∧ w.heap[b]? = some (.cells arr T fz) ∧ arr.size = l.length ∧ ∀ (j : Nat) (a : A), l[j]? = some a → ∃ u, arr[j]? = some u ∧ ARd ρ ok w a u
  | .own .., _ => False

theorem ArgRd.rep {ρ ρf : List DV} {ok : Nat → Prop} {w : World} {g : Arg} {v : Value} {n : Nat} (h : ArgRd ρf ok w g v) (hl : ρ.length = n) (hE : Ext ρ ρf) (hlt : g.lt n = true) : RepAV ok w (g.ev ρ) v := by
  cases g with
  | one a =>
    obtain ⟨d, hd, hr⟩ := h
    simp only [Arg.ev, RepAV, ev_of_ext hlt hl hE hd]
    exact hr
  | agg l =>
    obtain ⟨vs, hv, hs, hc⟩ := h
    refine ⟨vs, hv, by simpa using hs, fun j d hj => ?_⟩
    rw [List.getElem?_map] at hj
    cases hx : l[j]? with
    | none => rw [hx] at hj; cases hj
    | some a =>
      rw [hx] at hj; simp only [Option.map_some, Option.some.injEq] at hj
      obtain ⟨u, hu, d', hd', hr⟩ := hc j a hx
      refine ⟨u, hu, ?_⟩
      rw [← hj, ev_of_ext (List.all_eq_true.1 hlt a (List.mem_of_getElem? hx)) hl hE hd']
      exact hr
  | ref l =>
    obtain ⟨b, arr, T, fz, hv, hh, hs, hc⟩ := h
    refine ⟨b, arr, T, fz, hv, hh, by simpa using hs, fun j d hj => ?_⟩
    rw [List.getElem?_map] at hj
    cases hx : l[j]? with
    | none => rw [hx] at hj; cases hj
    | some a =>
      rw [hx] at hj; simp only [Option.map_some, Option.some.injEq] at hj
      obtain ⟨u, hu, d', hd', hr⟩ := hc j a hx
      refine ⟨u, hu, ?_⟩
      rw [← hj, ev_of_ext (List.all_eq_true.1 hlt a (List.mem_of_getElem? hx)) hl hE hd']
      exact hr
  | own s E a => exact h.elim

theorem ARd.mono {ρ : List DV} {ok ok' : Nat → Prop} {w : World} {x : A} {v : Value} (h : ARd ρ ok w x v) (hm : ∀ b, ok b → ok' b) : ARd ρ ok' w x v :=
  let ⟨d, hd, hr⟩ := h; ⟨d, hd, hr.mono hm⟩
theorem ArgRd.mono {ρ : List DV} {ok ok' : Nat → Prop} {w : World} {g : Arg} {v : Value} (h : ArgRd ρ ok w g v) (hm : ∀ b, ok b → ok' b) : ArgRd ρ ok' w g v := by
  cases g with
  | one a => exact ARd.mono h hm
  | agg l => obtain ⟨vs, hv, hs, hc⟩ := h; exact ⟨vs, hv, hs, fun j a hj => let ⟨u, hu, hr⟩ := hc j a hj; ⟨u, hu, hr.mono hm⟩⟩
  | ref l => obtain ⟨b, arr, T, fz, hv, hh, hs, hc⟩ := h; exact ⟨b, arr, T, fz, hv, hh, hs, fun j a hj => let ⟨u, hu, hr⟩ := hc j a hj; ⟨u, hu, hr.mono hm⟩⟩
  | own s E a => exact h.elim

theorem reads_nil {ok : Nat → Prop} {w : World} : Reads ok w (.list 0 []) (.slice none 0 0) :=
  .list 0 [] none 0 (fun _ => undef) (Nat.le_refl _) (fun h => absurd rfl h) (fun j d hj => by simp at hj)

section
variable {w0 : World} {ok0 : Nat → Prop} {fs : List (Array Value)} {stk : List Frm} {ρ ρ' : List DV} {β : Bm} {nt : Nat} {tm : Nat → Option SV} {bl : Nat → Option Blk} {a : Act} {w : World} {ok : Nat → Prop}

theorem plain_rd {c : C} {x : A} {v : Value} (h : c.plain = some x) (hr : CRep ρ β ok w c v) : ARd ρ ok w x v := by
  cases c <;> simp only [C.plain] at h
  case «at» y => cases h; exact hr
  case nils => cases h; simp only [CRep] at hr; subst hr; exact ⟨_, rfl, reads_nil⟩
  case ful y => cases h; obtain ⟨d, hd, hq, _⟩ := hr; exact ⟨d, hd, hq⟩
  all_goals cases h

theorem argOf_facts {S S1 : St} {v : SV} {g : Arg} (h : S.argOf v = some (g, S1)) : S1 = { S with bl := S1.bl } ∧ (∀ k, k ∉ SV.blocks (some v) → S1.bl k = S.bl k) ∧ (∀ k, S.bl k = none → S1.bl k = none) := by
  unfold St.argOf at h
  split at h
  · split at h
    · simp only [Option.map_eq_some_iff] at h
      obtain ⟨l, _, hh⟩ := h
      cases hh
      exact ⟨rfl, fun _ _ => rfl, fun _ h => h⟩
    · cases h
  · rename_i c _
    simp only [Option.map_eq_some_iff] at h
    obtain ⟨⟨x, S'⟩, hx, hh⟩ := h
    cases hh
    obtain ⟨e, u, n⟩ := toA_facts hx
    exact ⟨e, fun k hk => u k (by simpa [SV.blocks, S1.cells] using hk), n⟩
  · rename_i cs
    simp only [Option.map_eq_some_iff] at h
    obtain ⟨⟨x, S'⟩, hx, hh⟩ := h
    cases hh
    obtain ⟨e, u, n, _⟩ := toAs_facts hx
    exact ⟨e, fun k hk => u k (by simpa [SV.blocks, S1.cells] using hk), n⟩
  · cases h

theorem argOf_sound {S S1 : St} {v : SV} {g : Arg} (h : S.argOf v = some (g, S1)) (H : RM w0 ok0 fs stk ρ β nt tm bl a w) (hag : ∀ k ∈ SV.blocks (some v), bl k = S.bl k) {u : Value} (hv : SVRep ρ β (okS w0 ok0 bl β) w v u) :
    RM w0 ok0 fs stk ρ β nt tm (patch bl S1.bl (SV.blocks (some v))) a w ∧ (∀ b, okS w0 ok0 bl β b → okS w0 ok0 (patch bl S1.bl (SV.blocks (some v))) β b) ∧ ArgRd ρ (okS w0 ok0 (patch bl S1.bl (SV.blocks (some v))) β) w g u := by
  unfold St.argOf at h
  split at h
  · rename_i k
    split at h
    · rename_i cs T ro hk
      simp only [Option.map_eq_some_iff] at h
      obtain ⟨l, hl, hh⟩ := h
      cases hh
      rw [patch_same hag]
      refine ⟨H, fun _ h => h, ?_⟩
      obtain ⟨b, hβ, hu⟩ := hv
      obtain ⟨b', arr, T', fz, h1, h2, h3, _, _⟩ := H.hbl k _ ((hag k (by simp [SV.blocks, S1.cells, C.blocks])).trans hk)
      rw [hβ] at h1; cases h1
      have hm := mapM_get _ _ _ hl
      refine ⟨b, arr, T', fz, hu, h2, by rw [h3.1, hm.1], fun j x hj => ?_⟩
      obtain ⟨c, hc, hp⟩ := mapM_back _ hl hj
      obtain ⟨u', hu', hr⟩ := h3.2 j c hc
      exact ⟨u', hu', plain_rd hp hr⟩
    · cases h
  · rename_i c _
    simp only [Option.map_eq_some_iff] at h
    obtain ⟨⟨x, S'⟩, hx, hh⟩ := h
    cases hh
    have hb : SV.blocks (some (.s (.one c))) = c.blocks := by simp [SV.blocks, S1.cells]
    rw [hb] at hag ⊢
    obtain ⟨g1, g2, d, hd, hr⟩ := (toA_sound (bl := bl) hx).2.2 H hag u hv
    exact ⟨g1, g2, d, hd, hr⟩
  · rename_i cs
    simp only [Option.map_eq_some_iff] at h
    obtain ⟨⟨x, S'⟩, hx, hh⟩ := h
    cases hh
    have hb : SV.blocks (some (.s (.agg cs))) = cs.flatMap C.blocks := rfl
    rw [hb] at hag ⊢
    obtain ⟨vs, hu, hsz, hc⟩ := hv
    obtain ⟨_, _, hlen, f4⟩ := toAs_sound (w0 := w0) (ok0 := ok0) (fs := fs) (stk := stk) (ρ := ρ) (β := β) (nt := nt) (tm := tm) (a := a) (w := w) hx
    obtain ⟨g1, g2, g3⟩ := f4 (bl := bl) H hag (fun j => vs.getD j undef) (fun j c hj => by
      obtain ⟨u', hu', hq⟩ := hc j c hj
      simpa [Array.getD_eq_getD_getElem?, hu'] using hq)
    refine ⟨g1, g2, vs, hu, by rw [hsz, hlen], fun j x' hj => ?_⟩
    have hjl : j < vs.size := by rw [hsz, ← hlen]; exact (List.getElem?_eq_some_iff.1 hj).1
    refine ⟨vs[j], by simp [hjl], ?_⟩
    simpa [Array.getD_eq_getD_getElem?, hjl] using g3 j x' hj
  · cases h

theorem argsOf_facts : ∀ {l : List (Option SV)} {S S1 : St} {gs : List Arg}, S.argsOf l = some (gs, S1) → S1 = { S with bl := S1.bl } ∧ (∀ k, k ∉ l.flatMap SV.blocks → S1.bl k = S.bl k) ∧ (∀ k, S.bl k = none → S1.bl k = none) ∧ gs.length = l.length
  | [], S, S1, gs, h => by simp only [St.argsOf] at h; cases h; exact ⟨rfl, fun _ _ => rfl, fun _ h => h, rfl⟩
  | none :: r, S, S1, gs, h => by simp only [St.argsOf] at h; cases h
  | some v :: r, S, S1, gs, h => by
    simp only [St.argsOf, Option.bind_eq_bind, Option.bind_eq_some_iff, Option.pure_def] at h
    obtain ⟨⟨x, S'⟩, hx, ⟨l', S''⟩, hl', hh⟩ := h
    cases hh
    obtain ⟨e1, u1, n1⟩ := argOf_facts hx
    obtain ⟨e2, u2, n2, m2⟩ := argsOf_facts hl'
    refine ⟨by rw [e2, e1], fun k hk => ?_, fun k hk => n2 k (n1 k hk), by simp [m2]⟩
    simp only [List.flatMap_cons, List.mem_append, not_or] at hk
    rw [u2 k hk.2, u1 k hk.1]

theorem argsOf_sound : ∀ {l : List (Option SV)} {S S1 : St} {gs : List Arg}, S.argsOf l = some (gs, S1) → ∀ {bl : Nat → Option Blk}, RM w0 ok0 fs stk ρ β nt tm bl a w → (∀ k ∈ l.flatMap SV.blocks, bl k = S.bl k) →
    ∀ vs : Nat → Value, (∀ (j : Nat) (v : SV), l[j]? = some (some v) → SVRep ρ β (okS w0 ok0 bl β) w v (vs j)) →
      RM w0 ok0 fs stk ρ β nt tm (patch bl S1.bl (l.flatMap SV.blocks)) a w ∧ (∀ b, okS w0 ok0 bl β b → okS w0 ok0 (patch bl S1.bl (l.flatMap SV.blocks)) β b) ∧
      ∀ (j : Nat) (g : Arg), gs[j]? = some g → ArgRd ρ (okS w0 ok0 (patch bl S1.bl (l.flatMap SV.blocks)) β) w g (vs j)
  | [], S, S1, gs, h, bl, H, _, vs, _ => by
    simp only [St.argsOf] at h; cases h
    simp only [List.flatMap_nil, patch_nil]
    exact ⟨H, fun _ h => h, fun j x hj => by simp at hj⟩
  | none :: r, S, S1, gs, h, bl, H, _, vs, _ => by simp only [St.argsOf] at h; cases h
  | some v :: r, S, S1, gs, h, bl, H, hag, vs, hvs => by
    simp only [St.argsOf, Option.bind_eq_bind, Option.bind_eq_some_iff, Option.pure_def] at h
    obtain ⟨⟨x, S'⟩, hx, ⟨l', S''⟩, hl', hh⟩ := h
    cases hh
    obtain ⟨e1, u1, n1⟩ := argOf_facts hx
    obtain ⟨e2, u2, n2, _⟩ := argsOf_facts hl'
    simp only [List.flatMap_cons] at hag ⊢
    obtain ⟨H1, m1, hr⟩ := argOf_sound hx H (fun k hk => hag k (by simp [hk])) (hvs 0 v rfl)
    have hag2 : ∀ k ∈ r.flatMap SV.blocks, patch bl S'.bl (SV.blocks (some v)) k = S'.bl k := fun k hk => by
      unfold patch; split
      · rfl
      · rename_i hn; rw [u1 k hn]; exact hag k (by simp [hk])
    obtain ⟨H2, m2, f3⟩ := argsOf_sound hl' H1 hag2 (fun j => vs (j + 1)) (fun j v' hj => (hvs (j + 1) v' (by simpa using hj)).imp (Ext.refl _) (fun _ _ h => h) (fun b o hb ho => ⟨m1 b hb, ho⟩))
    rw [patch_patch u2] at H2 m2 f3
    refine ⟨H2, fun b hb => m2 b (m1 b hb), fun j y hj => ?_⟩
    cases j with
    | zero => simp at hj; subst hj; exact hr.mono m2
    | succ j => exact f3 j y (by simpa using hj)

end
end Go.Px

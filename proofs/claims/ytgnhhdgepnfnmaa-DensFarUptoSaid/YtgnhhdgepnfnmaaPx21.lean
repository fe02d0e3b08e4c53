/- Px21: code: the tree tells what the machine does. -/
import Derived.Test.YtgnhhdgepnfnmaaPx20
set_option linter.unusedSimpArgs false
set_option linter.unusedVariables false
namespace Go.Px
open Go.RowKit

/-! ### Loops -/
def LoopAt (P : Program) (c : Code) (Q : Exit → Act → World → Prop) (a : Act) (w : World) : Prop :=
  ∀ (b : Frame) (k : List Item) (cs : List Frame), ∃ e a' w', Q e a' w' ∧ Arrives P (lone (b.at a (.code c :: .inLoop c :: k)) cs w) b k cs e a' w'

section
variable {P : Program} {Q : Exit → Act → World → Prop} {a : Act} {w : World} {c : Code}

theorem LoopAt.wp (h : LoopAt P c Q a w) : (Code.loop c).wp P Q a w := fun b k cs =>
  let ⟨e, a', w', hq, harr⟩ := h b k cs
  ⟨e, a', w', hq, .of_steps (.one step_loop) harr⟩

theorem LoopAt.unroll (h : c.wp P (Exit.then (LoopAt P c Q) Q) a w) : LoopAt P c Q a w := by
  intro b k cs
  obtain ⟨e, a₁, w₁, hq, harr⟩ := h b (.inLoop c :: k) cs
  cases e with
  | normal =>
    obtain ⟨e₂, a₂, w₂, hq₂, harr₂⟩ := hq b k cs
    exact ⟨e₂, a₂, w₂, hq₂, .of_steps (Steps.trans harr (.one step_inLoop)) harr₂⟩
  | exit id => exact ⟨_, a₁, w₁, hq, .pass (x := .inLoop c) rfl (fun _ _ => .inl (by simp)) harr⟩
  | goto l => exact ⟨_, a₁, w₁, hq, .pass (x := .inLoop c) rfl (fun _ _ => .inl (by simp)) harr⟩
  | ret => exact ⟨_, a₁, w₁, hq, .pass (x := .inLoop c) rfl (fun _ _ => .inl (by simp)) harr⟩
  | panic ch => exact ⟨_, a₁, w₁, hq, .pass (x := .inLoop c) rfl (fun _ _ => .inl (by simp)) harr⟩
  | outgrown => exact ⟨_, a₁, w₁, hq, .pass (x := .inLoop c) rfl (fun _ _ => .inl (by simp)) harr⟩

theorem LoopAt.rel (I : Nat → Act → World → Prop) (round : ∀ m a w, I m a w → c.wp P (Exit.then (fun a' w' => ∃ m', m' < m ∧ I m' a' w') Q) a w) : ∀ (m : Nat) (a : Act) (w : World), I m a w → LoopAt P c Q a w := by
  intro m
  induction m using Nat.strongRecOn with
  | _ m ih =>
    intro a w hI
    exact LoopAt.unroll (wp_mono (round m a w hI) fun e a w h => by
      cases e with
      | normal => obtain ⟨m', hlt, hI'⟩ := h; exact ih m' hlt a w hI'
      | _ => exact h)
end

/-- A loop stands at a round's beginning. -/
def wpL (P : Program) (c : Code) (Q : Exit → Act → World → Prop) (a : Act) (w : World) : Prop :=
  match c with
  | .loop b => LoopAt P b Q a w
  | c => c.wp P Q a w
theorem wpL.wp {P : Program} {c : Code} {Q : Exit → Act → World → Prop} {a : Act} {w : World} (h : wpL P c Q a w) : c.wp P Q a w := by
  cases c <;> first | exact h | exact LoopAt.wp h

/-! ### A function's results -/
def resV (tmps : Array Value) : ResultVar → Sem Value
  | .tmp t => pure (tmps.getD t undef)
  | .cell b t => do loadVar t (← asAddr (tmps.getD b undef))
theorem results_eq (fn : Func) (tmps : Array Value) : results fn tmps = (do let vs ← fn.results.mapM (resV tmps); pure (if h : vs.size = 1 then vs[0] else .tuple vs)) := by
  unfold results
  have : (fun | .tmp t => pure (tmps.getD t undef) | .cell a t => do loadVar t (← asAddr (tmps.getD a undef)) : ResultVar → Sem Value) = resV tmps := by
    funext x; cases x <;> rfl
  rw [← this]
  rfl
section
variable {P : Program} {w0 : World} {ok0 : Nat → Prop} {fs : List (Array Value)} {S : St} {ρ : List DV} {β : Bm} {a : Act} {w : World}

theorem resCells_sound (H : AtS w0 ok0 fs S ρ β a w) : ∀ (l : List ResultVar) (r : List S1), resCells P S l = some r →
    ∃ vs : List Value, (l.mapM (resV a.tmps)).run P w = .ok vs w ∧ vs.length = r.length ∧
      ∀ (j : Nat) (x : S1), r[j]? = some x → ∃ u, vs[j]? = some u ∧ S1Rep ρ β (okS w0 ok0 S.bl β) w x u
  | [], r, h => by simp only [resCells] at h; cases h; exact ⟨[], rfl, rfl, fun j x hj => by simp at hj⟩
  | .tmp t :: l, r, h => by
    simp only [resCells] at h
    split at h
    · rename_i v l' ht hl'
      cases h
      obtain ⟨vs, h1, h2, h3⟩ := resCells_sound H l l' hl'
      obtain ⟨u, hu, hr⟩ := H.rm.htm t _ ht
      refine ⟨u :: vs, ?_, by simp [h2], fun j x hj => ?_⟩
      · have : a.tmps.getD t undef = u := by simp [Array.getD_eq_getD_getElem?, hu]
        simp only [List.mapM_cons, resV, Sem.run_bind, Sem.run_pure, Result.andThen_ok, this, h1]
      · cases j with
        | zero => simp at hj; subst hj; exact ⟨u, by simp, hr⟩
        | succ j => simpa using h3 j x (by simpa using hj)
    · cases h
  | .cell b T :: l, r, h => by
    simp only [resCells] at h
    split at h
    · rename_i k off m l' ht hs hl'
      split at h
      · rename_i cs T' ro hk
        split at h
        · rename_i hle
          simp only [Option.map_eq_some_iff] at h
          obtain ⟨v, hv, rfl⟩ := h
          obtain ⟨vs, h1, h2, h3⟩ := resCells_sound H l l' hl'
          obtain ⟨u, hu, b', hb1, hb2⟩ := H.rm.htm b _ ht
          obtain ⟨b2, arr, T2, fz, g1, g2, g3, _⟩ := H.rm.hbl k _ hk
          rw [hb1] at g1; cases g1
          have hcr : ∀ (j : Nat) (c : C), ((cs.drop off).take m)[j]? = some c → CRep ρ β (okS w0 ok0 S.bl β) w c (arr.getD (off + j) undef) := fun j c hj => by
            obtain ⟨hg, _⟩ := sub_get hj
            obtain ⟨u', hu', hq⟩ := g3.2 _ c hg
            simpa [Array.getD_eq_getD_getElem?, hu'] using hq
          obtain ⟨e1, e2⟩ := S1_mk_rep (m := m) hv (by simp; omega) hcr
          have hld := run_loadVar_cells (P := P) (ad := ⟨b', off, none⟩) (w := w) (f := fun j => arr.getD (off + j) undef) hs (fun j hj => by
            rw [Addr_off]
            have : off + j < arr.size := by rw [g3.1]; omega
            simp [World.cell?, g2, Array.getD_eq_getD_getElem?, this]) e1
          obtain ⟨u2, hld, e2⟩ : ∃ u2, (loadVar T ⟨b', off, none⟩).run P w = .ok u2 w ∧ S1Rep ρ β (okS w0 ok0 S.bl β) w v u2 := ⟨_, hld, e2⟩
          refine ⟨u2 :: vs, ?_, by simp [h2], fun j x hj => ?_⟩
          · have : a.tmps.getD b undef = .pointer (some ⟨b', off, none⟩) := by simp [Array.getD_eq_getD_getElem?, hu, hb2]
            simp only [List.mapM_cons, resV, Sem.run_bind, Sem.run_pure, Result.andThen_ok, this, asAddr, hld, h1]
          · cases j with
            | zero => simp at hj; subst hj; exact ⟨_, by simp, e2⟩
            | succ j => simpa using h3 j x (by simpa using hj)
        · cases h
      · cases h
    · cases h

theorem results_sound (H : AtS w0 ok0 fs S ρ β a w) {fn : Func} {r : List S1} (h : resCells P S fn.results.toList = some r) : ∃ v, (results fn a.tmps).run P w = .ok v w ∧ SVRep ρ β (okS w0 ok0 S.bl β) w (svOf r) v := by
  obtain ⟨vs, h1, h2, h3⟩ := resCells_sound H _ _ h
  refine ⟨if h : vs.toArray.size = 1 then vs.toArray[0] else .tuple vs.toArray, ?_, ?_⟩
  · rw [results_eq, Array.mapM_eq_mapM_toList]
    rw [Sem.run_bind, Sem.run_map, h1]
    rfl
  · match r, h2, h3 with
    | [x], h2, h3 =>
      have hl : vs.length = 1 := h2
      obtain ⟨u, hu, hr⟩ := h3 0 x rfl
      obtain ⟨y, rfl⟩ := List.length_eq_one_iff.1 hl
      simp at hu; subst hu
      simpa [svOf, SVRep] using hr
    | [], h2, h3 =>
      have hl : vs = [] := List.eq_nil_of_length_eq_zero h2
      subst hl
      exact ⟨#[], by simp, rfl, fun j x hj => by simp at hj⟩
    | x :: y :: r, h2, h3 =>
      have hl : ¬ vs.length = 1 := by rw [h2]; simp
      exact ⟨vs.toArray, by simp [hl], by simpa using h2, fun j z hj => let ⟨u, hu, hq⟩ := h3 j z hj; ⟨u, by simpa using hu, hq⟩⟩
end

theorem paramTm_get : ∀ (l : List (Option SV)) (i t : Nat) (sv : SV), paramTm l i t = some sv → i ≤ t ∧ l[t - i]? = some (some sv)
  | [], i, t, sv, h => by cases h
  | v :: r, i, t, sv, h => by
    simp only [paramTm, upd] at h
    split at h
    · rename_i he
      subst he
      exact ⟨Nat.le_refl _, by simp [h]⟩
    · rename_i he
      obtain ⟨h1, h2⟩ := paramTm_get r (i + 1) t sv h
      refine ⟨by omega, ?_⟩
      rw [show t - i = (t - (i + 1)) + 1 by omega]
      simpa using h2

end Go.Px

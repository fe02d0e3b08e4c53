/- Px20: a state that fits a template is as the template says. -/
import Derived.Test.YtgnhhdgepnfnmaaPx19
set_option linter.unusedSimpArgs false
set_option linter.unusedVariables false
namespace Go.Px
open Go.RowKit

/-- The places, renamed. -/
def renB (M : Mt) (β : Bm) (k : Nat) : Option Value :=
  match alook M.ren k with
  | some (some j) => β j
  | some none => some (.slice none 0 0)
  | none => none

theorem alook_mem {α : Type} : ∀ {l : List (Nat × α)} {i : Nat} {x : α}, alook l i = some x → (i, x) ∈ l
  | [], i, x, h => by cases h
  | (j, y) :: r, i, x, h => by
    simp only [alook] at h
    split at h
    · rename_i he; cases h; rw [he]; simp
    · exact List.mem_cons_of_mem _ (alook_mem h)

section
variable {w0 : World} {ok0 : Nat → Prop} {fs : List (Array Value)} {stk : List Frm} {ρ ds : List DV} {β : Bm} {nt : Nat} {tm : Nat → Option SV} {bl bl' : Nat → Option Blk} {a : Act} {w : World} {M : Mt} {ok ok' : Nat → Prop}

/-- The new environment says of a template's atom what the old one said of the state's. -/
def Env (M : Mt) (ρ ds : List DV) : Prop := ∀ t a d, AF M t a → a.rd ρ = some d → t.rd ds = some d

theorem CF.rep (hE : Env M ρ ds) (hok : ∀ b, ok b → ok' b) (hna : ∀ k v, β k = some v → v.notAgg) {t c : C} {v : Value} (hf : CF M t c) (h : CRep ρ β ok w c v) : CRep ds (renB M β) ok' w t v := by
  have hm : ∀ {d : DV} {v : Value}, Reads ok w d v → Reads ok' w d v := fun h => h.mono hok
  have nilr : ∀ {x : A}, AF M x .nil → ∃ d, x.rd ds = some d ∧ Reads ok' w d (.slice none 0 0) := fun hx =>
    ⟨.list 0 [], hE _ _ _ hx rfl, .list 0 [] none 0 (fun _ => undef) (Nat.le_refl _) (fun h => absurd rfl h) (fun j d hj => by simp at hj)⟩
  cases t with
  | unk => exact CRep.notAgg h hna
  | «at» x =>
    cases c <;> simp only [CF] at hf
    case «at» y => obtain ⟨d, hd, hr⟩ := h; exact ⟨d, hE _ _ _ hf hd, hm hr⟩
    case nils => simp only [CRep] at h; subst h; exact nilr hf
    case ful y => obtain ⟨d, hd, hr, _⟩ := h; exact ⟨d, hE _ _ _ hf hd, hm hr⟩
  | nils => cases c <;> simp only [CF] at hf; exact h
  | ful x =>
    cases c <;> simp only [CF] at hf
    case nils =>
      simp only [CRep] at h; subst h
      obtain ⟨d, h1, h2⟩ := nilr hf
      exact ⟨d, h1, h2, none, 0, rfl⟩
    case ful y => obtain ⟨d, hd, hr, hh⟩ := h; exact ⟨d, hE _ _ _ hf hd, hm hr, hh⟩
  | lp k o =>
    cases c <;> simp only [CF] at hf
    case lp j o' =>
      obtain ⟨rfl, hk⟩ := hf
      obtain ⟨b, hb, hv⟩ := h
      exact ⟨b, by simp only [renB]; rw [hk]; exact hb, hv⟩
  | fp x i s o =>
    cases c <;> simp only [CF] at hf
    case fp y j s' o' =>
      obtain ⟨rfl, rfl, h1, h2⟩ := hf
      obtain ⟨n, cells, kI, iv, ad, cap, g1, g2, g3, g4, g5, g6, g7⟩ := h
      exact ⟨n, cells, kI, iv, ad, cap, hE _ _ _ h1 g1, hE _ _ _ h2 g2, g3, g4, g5, hm g6, g7⟩
  | own k =>
    cases c <;> simp only [CF] at hf
    case own j => simp only [CRep, renB] at h ⊢; rw [hf]; exact h
    case nils => simp only [CRep, renB] at h ⊢; rw [hf, h]
  | op k i s o =>
    cases c <;> simp only [CF] at hf
    case op j i' s' o' =>
      obtain ⟨rfl, rfl, h1, h2⟩ := hf
      obtain ⟨b, n, cap, kI, iv, g1, g2, g3, g4, g5⟩ := h
      exact ⟨b, n, cap, kI, iv, by simp only [renB]; rw [h1]; exact g1, hE _ _ _ h2 g2, g3, g4, g5⟩
  | sub k lo n s =>
    cases c <;> simp only [CF] at hf
    case sub j lo' n' s' =>
      obtain ⟨rfl, h1, h2, h3⟩ := hf
      obtain ⟨adk, nk, capk, kI, lv, kJ, nv, ad, cap, g1, g2, g3, g4⟩ := h
      exact ⟨adk, nk, capk, kI, lv, kJ, nv, ad, cap, by simp only [renB]; rw [h1]; exact g1, hE _ _ _ h2 g2, hE _ _ _ h3 g3, g4⟩
  | fn f ks =>
    cases c <;> simp only [CF] at hf
    case fn g js =>
      obtain ⟨rfl, h1, h2⟩ := hf
      obtain ⟨caps, g1, g2, g3⟩ := h
      refine ⟨caps, g1, by rw [g2, h1], fun n k hk => ?_⟩
      obtain ⟨j, hj, hb⟩ := h2 n k hk
      obtain ⟨b, e1, e2⟩ := g3 n j hj
      exact ⟨b, by simp only [renB]; rw [hb]; exact e1, e2⟩
  | np => cases c <;> simp only [CF] at hf; exact h
  | und => cases c <;> simp only [CF] at hf; exact h

theorem CsF.rep (hE : Env M ρ ds) (hok : ∀ b, ok b → ok' b) (hna : ∀ k v, β k = some v → v.notAgg) {ts cs : List C} {arr : Array Value} (hf : CsF M ts cs) (h : CsRep ρ β ok w cs arr) : CsRep ds (renB M β) ok' w ts arr :=
  ⟨by rw [h.1, hf.1], fun n t ht => let ⟨c, hc, hcf⟩ := hf.2 n t ht; let ⟨u, hu, hr⟩ := h.2 n c hc; ⟨u, hu, hcf.rep hE hok hna hr⟩⟩

theorem S1F.rep (hE : Env M ρ ds) (hok : ∀ b, ok b → ok' b) (hna : ∀ k v, β k = some v → v.notAgg) {t c : S1} {v : Value} (hf : S1F M t c) (h : S1Rep ρ β ok w c v) : S1Rep ds (renB M β) ok' w t v := by
  cases t <;> cases c <;> simp only [S1F] at hf
  · exact CF.rep hE hok hna hf h
  · obtain ⟨vs, hv, hr⟩ := h; exact ⟨vs, hv, hf.rep hE hok hna hr⟩

theorem SVF.rep (hE : Env M ρ ds) (hok : ∀ b, ok b → ok' b) (hna : ∀ k v, β k = some v → v.notAgg) {t c : SV} {v : Value} (hf : SVF M t c) (h : SVRep ρ β ok w c v) : SVRep ds (renB M β) ok' w t v := by
  cases t <;> cases c <;> simp only [SVF] at hf
  · exact S1F.rep hE hok hna hf h
  · obtain ⟨vs, hv, hs, hr⟩ := h
    exact ⟨vs, hv, by rw [hs, hf.1], fun n t ht => let ⟨c, hc, hcf⟩ := hf.2 n t ht; let ⟨u, hu, hq⟩ := hr n c hc; ⟨u, hu, hcf.rep hE hok hna hq⟩⟩

theorem FrF.rep (hE : Env M ρ ds) (hok : ∀ b, ok b → ok' b) (hna : ∀ k v, β k = some v → v.notAgg) {l : List (Nat × SV)} {arr : Array Value} (hf : FrF M tm l) (h : TmRep ρ β ok w tm arr) : TmRep ds (renB M β) ok' w (alook l) arr :=
  fun t sv ht => let ⟨v', hv', hs⟩ := hf t sv ht; let ⟨u, hu, hr⟩ := h t v' hv'; ⟨u, hu, hs.rep hE hok hna hr⟩

theorem FrsF.rep (hE : Env M ρ ds) (hok : ∀ b, ok b → ok' b) (hna : ∀ k v, β k = some v → v.notAgg) : ∀ {l : List (List (Nat × SV))} {q q0 : List Frm} {fs : List (Array Value)}, FrsF M l q → StkRep ρ β ok w q fs → (q0.map (·.nt) = q.map (·.nt)) →
    StkRep ds (renB M β) ok' w (List.zipWith (fun l f => { f with tm := alook l }) l q0) fs
  | [], [], q0, [], _, _, hq => by
    cases q0 with
    | nil => trivial
    | cons f r => simp at hq
  | [], [], _, _ :: _, _, h, _ => h.elim
  | [], _ :: _, _, _, hf, _, _ => hf.elim
  | _ :: _, [], _, _, hf, _, _ => hf.elim
  | t :: r, f :: q, q0, [], _, h, _ => h.elim
  | t :: r, f :: q, q0, x :: xs, ⟨hf1, hf2⟩, ⟨h1, h2, h3⟩, hq => by
    cases q0 with
    | nil => simp at hq
    | cons f0 q0 =>
      simp only [List.map_cons, List.cons.injEq] at hq
      exact ⟨hf1.rep hE hok hna h1, by rw [h2, ← hq.1], FrsF.rep hE hok hna hf2 h3 hq.2⟩

theorem bkF_mut {k : Nat} {b : Blk} {j : Nat} (h : BkF M bl k b) (hk : alook M.ren k = some (some j)) : ∃ b', bl j = some b' ∧ b'.mut = b.mut := by
  rcases h with ⟨j', hj', hm⟩ | ⟨h1, _⟩
  · have : j' = j := by have := hj'.symm.trans hk; simpa using this
    subst this
    split at hm
    · rename_i hb; exact ⟨_, hb, by simp [Blk.mut, hm.2.1]⟩
    · rename_i hb; exact ⟨_, hb, rfl⟩
    · rename_i hb; exact ⟨_, hb, rfl⟩
    · exact hm.elim
  · have := h1.symm.trans hk; simp at this

theorem fit_rm (H : RM w0 ok0 fs stk ρ β nt tm bl a w) (hE : Env M ρ ds) (hinj : M.inj) {lt : List (Nat × SV)} {ls : List (List (Nat × SV))} {lb : List (Nat × Blk)} {stk0 : List Frm} (h1 : FrF M tm lt) (h2 : FrsF M ls stk) (h3 : ∀ p ∈ lb, BkF M bl p.1 p.2)
    (hst : stk0.map (·.nt) = stk.map (·.nt)) :
    RM w0 ok0 fs (List.zipWith (fun l f => { f with tm := alook l }) ls stk0) ds (renB M β) nt (alook lt) (alook lb) a w := by
  have hna : ∀ k v, β k = some v → v.notAgg := fun k v h => notAgg_of_one (H.na k v h)
  have hren : ∀ k v, renB M β k = some v → (∃ j, alook M.ren k = some (some j) ∧ β j = some v) ∨ v = .slice none 0 0 := fun k v hk => by
    simp only [renB] at hk
    split at hk
    · rename_i j hj; exact .inl ⟨j, hj, hk⟩
    · cases hk; exact .inr rfl
    · cases hk
  have hok : ∀ b, okS w0 ok0 bl β b → okS w0 ok0 (alook lb) (renB M β) b := fun b hb => ⟨hb.1, fun k blk v hk hm hv he => by
    rcases hren k v hv with ⟨j, hj, hβj⟩ | rfl
    · obtain ⟨b', hb', hm'⟩ := bkF_mut (h3 _ (alook_mem hk)) hj
      exact hb.2 j b' v hb' (by rw [hm']; exact hm) hβj he
    · cases he⟩
  refine { sz := H.sz, df := H.df, htm := h1.rep hE hok hna H.htm, hst := h2.rep hE hok hna H.hst hst, hbl := fun k b hk => ?_, inj := fun k k' b b' v v' m e1 m1 e2 m2 f1 f2 g1 g2 => ?_, bel := H.bel, na := fun k v hk => ?_ }
  · rcases h3 _ (alook_mem hk) with ⟨j, hj, hm⟩ | ⟨hj, x, s, E, rfl, hx⟩
    · have hrk : renB M β k = β j := by simp only [renB]; rw [hj]
      cases b with
      | box ts T ro =>
        simp only at hm
        split at hm
        · rename_i e1 e2; cases e1
          obtain ⟨rfl, rfl, hcs⟩ := hm
          obtain ⟨b, arr, T', fz, g1, g2, g3, g4, g5⟩ := H.hbl j _ e2
          exact ⟨b, arr, T', fz, by rw [hrk]; exact g1, g2, hcs.rep hE hok hna g3, g4, g5⟩
        · rename_i e1 _; cases e1
        · rename_i e1 _; cases e1
        · exact hm.elim
      | own y s E =>
        simp only at hm
        split at hm
        · rename_i e1 _; cases e1
        · rename_i e1 e2; cases e1
          obtain ⟨rfl, rfl, hx⟩ := hm
          obtain ⟨v, n, cells, g1, g2, xs, g3, g4, g5⟩ := H.hbl j _ e2
          exact ⟨v, n, cells, by rw [hrk]; exact g1, hE _ _ _ hx g2, xs, g3, g4, fun i d hi => let ⟨u, hu, hr⟩ := g5 i d hi; ⟨u, hu, hr.mono hok⟩⟩
        · rename_i e1 _; cases e1
        · exact hm.elim
      | fro y =>
        simp only at hm
        split at hm
        · rename_i e1 _; cases e1
        · rename_i e1 _; cases e1
        · rename_i e1 e2; cases e1
          obtain ⟨v, n, cells, g1, g2, g3, g4⟩ := H.hbl j _ e2
          exact ⟨v, n, cells, by rw [hrk]; exact g1, hE _ _ _ hm g2, g3.mono hok, g4⟩
        · exact hm.elim
    · have hrk : renB M β k = some (.slice none 0 0) := by simp only [renB]; rw [hj]
      exact ⟨_, 0, [], hrk, hE _ _ _ hx rfl, [], World.ownsR_nil w _ _ _, rfl, fun j d hj => by simp at hj⟩
  · rcases hren k v f1 with ⟨j, hj, hβj⟩ | rfl
    · rcases hren k' v' f2 with ⟨j', hj', hβj'⟩ | rfl
      · obtain ⟨x, hx, hmx⟩ := bkF_mut (h3 _ (alook_mem e1)) hj
        obtain ⟨x', hx', hmx'⟩ := bkF_mut (h3 _ (alook_mem e2)) hj'
        have := H.inj j j' x x' v v' m hx (by rw [hmx]; exact m1) hx' (by rw [hmx']; exact m2) hβj hβj' g1 g2
        subst this
        exact hinj k k' j hj hj'
      · cases g2
    · cases g1
  · rcases hren k v hk with ⟨j, _, hβj⟩ | rfl
    · exact H.na j v hβj
    · rfl

end

theorem stk_nts {w0 : World} {ρ : List DV} {β : Bm} {ok : Nat → Prop} {w : World} : ∀ {q : List Frm} {fs : List (Array Value)}, StkRep ρ β ok w q fs → q.map (·.nt) = fs.map (·.size)
  | [], [], _ => rfl
  | [], _ :: _, h => h.elim
  | _ :: _, [], h => h.elim
  | f :: q, x :: xs, ⟨_, h2, h3⟩ => by simp [h2, stk_nts (w0 := w0) h3]

/-- A state that fits. -/
theorem fit0_sound {w0 : World} {ok0 : Nat → Prop} {fs : List (Array Value)} {S S0 : St} {ρ : List DV} {β : Bm} {a : Act} {w : World} {T : Tmpl} {l : List A} {dp : Nat} (h : T.fit0 S = some l) (hc : T.closed = true) (hl : l.all (A.lt S.nv) = true)
    (H : AtS w0 ok0 fs S ρ β a w) (hnt : S0.fr.nt = S.fr.nt) (hst : S0.stk.map (·.nt) = fs.map (·.size)) : ∃ β', AtS w0 ok0 fs (T.st S0 dp) (l.map (A.ev ρ)) β' a w := by
  simp only [Tmpl.fit0, Option.bind_eq_bind, Option.bind_eq_some_iff] at h
  obtain ⟨m1, h1, m2, h2, m3, h3, h4⟩ := h
  split at h4
  · rename_i hcl
    simp only [Bool.and_eq_true, List.all_eq_true, decide_eq_true_eq] at hcl
    have k1 := Mt.frame_ok h1
    have k2 := Mt.frames_ok h2
    have k3 := Mt.bls_ok h3
    have hinj : m3.inj := k3.inj (k2.inj (k1.inj fun k k' j hk => by cases hk))
    have hout := mapM_get _ _ _ h4
    simp only [List.length_range] at hout
    have hE : Env m3 ρ (l.map (A.ev ρ)) := by
      intro t x d hf hd
      cases t with
      | var i =>
        simp only [AF] at hf
        have hi : i < T.n := hcl.2 _ (alook_mem hf)
        obtain ⟨y, hy, hfy⟩ := hout.2 i i (by simp [hi])
        rw [hf] at hfy; cases hfy
        simp [A.rd, hy, A.ev_of_rd hd]
      | _ =>
        simp only [AF] at hf
        subst hf
        exact hd
    have hR := fit_rm H.rm hE hinj (k1.fit m3 (k2.le.trans k3.le)) (k2.fit m3 k3.le) (k3.fit m3 (Mt.le.refl _)) (stk0 := S0.stk) (by rw [hst, stk_nts (w0 := w0) H.rm.hst])
    refine ⟨renB m3 β, ⟨?_, fun i b hi => (by cases hi), ?_, fun k hk => ?_, fun k hk => ?_⟩⟩
    · show RM w0 ok0 fs _ _ _ S0.fr.nt _ _ a w
      rw [hnt]; exact hR
    · simp [Tmpl.st, hout.1]
    · show alook T.bl k = none
      cases hb : alook T.bl k with
      | none => rfl
      | some b =>
        have := List.all_eq_true.1 hc _ (alook_mem hb)
        simp only [decide_eq_true_eq] at this
        have hk' : T.nb ≤ k := hk
        omega
    · show renB m3 β k = none
      simp only [renB]
      split
      · rename_i j hj
        have := hcl.1 _ (alook_mem hj)
        have hk' : T.nb ≤ k := hk
        simp only at this
        omega
      · rename_i hj
        have := hcl.1 _ (alook_mem hj)
        have hk' : T.nb ≤ k := hk
        simp only at this
        omega
      · rfl
  · cases h4

theorem soft1_sound {w0 : World} {ok0 : Nat → Prop} {fs : List (Array Value)} {S : St} {ρ : List DV} {β : Bm} {a : Act} {w : World} (t : Nat) (H : AtS w0 ok0 fs S ρ β a w) :
    AtS w0 ok0 fs (S.soft1 t) ρ β a w ∧ (S.soft1 t).fr.nt = S.fr.nt ∧ (S.soft1 t).nv = S.nv := by
  unfold St.soft1
  split
  · rename_i k ht
    split
    · rename_i x S1 hx
      obtain ⟨u, hu, hr⟩ := H.rm.htm t _ ht
      obtain ⟨e1, e2, e3⟩ := toA_sound (w0 := w0) (ok0 := ok0) (fs := fs) (stk := S.stk) (ρ := ρ) (β := β) (nt := S.fr.nt) (tm := S.fr.tm) (bl := S.bl) (a := a) (w := w) hx
      obtain ⟨R, _, d, hd, hrd⟩ := e3 H.rm (fun _ _ => rfl) u hr
      have hp : patch S.bl S1.bl (C.blocks (.own k)) = S1.bl := by
        funext j
        unfold patch
        split
        · rfl
        · rename_i hj; exact (e2 j hj).symm
      rw [hp] at R hrd
      have f1 : S1.fr = S.fr := by rw [e1]
      have f2 : S1.stk = S.stk := by rw [e1]
      have f3 : S1.nv = S.nv := by rw [e1]
      have f4 : S1.nb = S.nb := by rw [e1]
      have f5 : S1.kn = S.kn := by rw [e1]
      refine ⟨⟨?_, by show KnOK S1.kn ρ; rw [f5]; exact H.kn, by show ρ.length = S1.nv; rw [f3]; exact H.len, fun j hj => ?_, fun j hj => H.βn j (by rw [← f4]; exact hj)⟩, by show S1.fr.nt = _; rw [f1], f3⟩
      · show RM w0 ok0 fs S1.stk ρ β S1.fr.nt (upd S1.fr.tm t _) S1.bl a w
        rw [f1, f2]
        have hh : TmRep ρ β (okS w0 ok0 S1.bl β) w (upd S.fr.tm t (some (.s (.one (.at x))))) a.tmps := by
          intro t' sv ht'
          unfold upd at ht'
          split at ht'
          · rename_i he
            cases ht'
            rw [he]
            exact ⟨u, hu, d, hd, hrd⟩
          · exact R.htm t' sv ht'
        exact { R with htm := hh }
      · show S1.bl j = none
        have hj' : S.nb ≤ j := by rw [← f4]; exact hj
        have hn := H.bln j hj'
        by_cases hjk : j ∈ C.blocks (.own k)
        · simp only [C.blocks, List.mem_singleton] at hjk
          subst hjk
          simp [St.toA, hn] at hx
        · rw [e2 j hjk]; exact hn
    · exact ⟨H, rfl, rfl⟩
  · exact ⟨H, rfl, rfl⟩

theorem softs_sound {w0 : World} {ok0 : Nat → Prop} {fs : List (Array Value)} {ρ : List DV} {β : Bm} {a : Act} {w : World} : ∀ {l : List (Nat × SV)} {S : St}, AtS w0 ok0 fs S ρ β a w →
    AtS w0 ok0 fs (S.softs l) ρ β a w ∧ (S.softs l).fr.nt = S.fr.nt ∧ (S.softs l).nv = S.nv
  | [], S, H => ⟨H, rfl, rfl⟩
  | (t, v) :: r, S, H => by
    unfold St.softs
    split
    · obtain ⟨h1, h2, h3⟩ := soft1_sound t H
      obtain ⟨g1, g2, g3⟩ := softs_sound (l := r) h1
      exact ⟨g1, g2.trans h2, g3.trans h3⟩
    · exact softs_sound (l := r) H

/-- A STATE THAT FITS. -/
theorem fit_sound {w0 : World} {ok0 : Nat → Prop} {fs : List (Array Value)} {S S0 : St} {ρ : List DV} {β : Bm} {a : Act} {w : World} {T : Tmpl} {l : List A} {dp : Nat} (h : T.fit S = some l) (hc : T.closed = true) (hl : l.all (A.lt S.nv) = true)
    (H : AtS w0 ok0 fs S ρ β a w) (hnt : S0.fr.nt = S.fr.nt) (hst : S0.stk.map (·.nt) = fs.map (·.size)) : ∃ β', AtS w0 ok0 fs (T.st S0 dp) (l.map (A.ev ρ)) β' a w := by
  obtain ⟨h1, h2, h3⟩ := softs_sound (l := T.tm) H
  exact fit0_sound h hc (by rw [h3]; exact hl) h1 (by rw [h2]; exact hnt) hst

end Go.Px

/- Px15: one operation in its place: its guard, its temporary, its blocks. -/
import Derived.Test.YtnohcccgfefnkaaGreatPx14
import Derived.Orders
import Derived.Laws.Cover3
set_option linter.unusedSimpArgs false
set_option linter.unusedVariables false
namespace Go.Px
open Go.RowKit

section
variable {w0 : W0} {ok0 : Nat → Prop} {fs : List (Array Value)} {stk : List Frm} {ρ ρ' : List DV} {β : Bm} {nt : Nat} {tm : Nat → Option SV} {bl : Nat → Option Blk} {a : Act} {w : World} {ok : Nat → Prop}

theorem RM.put (H : RM w0 ok0 fs stk ρ β nt tm bl a w) {dst : Option Tmp} {v : Value} {tm' : Nat → Option SV} (hd : ∀ d, dst = some d → d < nt)
    (h : ∀ d s, dst = some d → tm' d = some s → SVRep ρ β (okS w0 ok0 bl β) w s v) : RM w0 ok0 fs stk ρ β nt (patch tm tm' dst.toList) bl (a.put dst v) w := by
  cases dst with
  | none => simp only [Option.toList_none, patch_nil, Act.put]; exact H
  | some d =>
    have hlt : d < a.tmps.size := by rw [H.sz]; exact hd d rfl
    refine { H with sz := by simp [Act.put, H.sz], htm := fun t sv ht => ?_ }
    simp only [patch, Option.toList_some, List.mem_singleton] at ht
    by_cases he : t = d
    · subst he
      rw [if_pos rfl] at ht
      exact ⟨v, by simp [Act.put, hlt], h t sv rfl ht⟩
    · rw [if_neg he] at ht
      obtain ⟨u, hu, hr⟩ := H.htm t sv ht
      exact ⟨u, by simp only [Act.put]; rw [Array.getElem?_setIfInBounds_ne (Ne.symm he)]; exact hu, hr⟩

end

/-- What the machine does with an operation whose turn it is. -/
def STEP (P : Program) (ops : Array Oper) (o : Oper) (a : Act) (w : World) (K : Act → World → Prop) (Q : Exit → Act → World → Prop) : Prop :=
  if Region.wanted o (yielded ops a.tmps) then o.wp P a w K Q ∨ (o.asks P a w ∧ LetsOut Q) else K (a.put o.dst undef) w

def StepOK (P : Program) (ops : Array Oper) (o : Oper) (S S' : St) (F : Foot) (ρ' : List DV) : Prop :=
  ∀ (ρf : List DV), Ext ρ' ρf → ∀ (w0 : W0) (ok0 : Nat → Prop) (fs : List (Array Value)) (stk : List Frm) (β : Bm) (tm : Nat → Option SV) (bl : Nat → Option Blk) (a : Act) (w : World),
    RM w0 ok0 fs stk ρf β S.fr.nt tm bl a w → (∀ t ∈ F.rt, tm t = S.fr.tm t) → (∀ k ∈ F.rb, bl k = S.bl k) → β S.nb = none → bl S.nb = none →
    ∀ (K : Act → World → Prop) (Q : Exit → Act → World → Prop),
      (∀ a' β' w', RM w0 ok0 fs stk ρf β' S.fr.nt (patch tm S'.fr.tm F.wt) (patch bl S'.bl F.wb) a' w' → (∀ k u, β k = some u → β' k = some u) → (∀ k, k ≠ S.nb → β' k = β k) → K a' w') →
      STEP P ops o a w K Q

structure Next (S S' : St) : Prop where
  stk : S'.stk = S.stk
  nt : S'.fr.nt = S.fr.nt
  fn : S'.fr.fn = S.fr.fn
  nb : S'.nb = S.nb + 1
  dp : S'.dp = S.dp
  bln : ∀ k, S.nb + 1 ≤ k → S'.bl k = none

def StepOut (P : Program) (ops : Array Oper) (o : Oper) (S : St) (K : Bool → St → Option IR) (As : List (List DV → Prop)) (ρ : List DV) (Q : List AV → Prop) : Prop :=
  ∃ ran ρ' S' ir', Ext ρ ρ' ∧ ρ'.length = S'.nv ∧ K ran S' = some ir' ∧ IRwp P As ρ' ir' Q ∧ KnOK S'.kn ρ' ∧ Next S S' ∧
    (∀ t, t ∉ (footOf ops o ran S.nb S).wt → S'.fr.tm t = S.fr.tm t) ∧ (∀ k, k ∉ (footOf ops o ran S.nb S).wb → S'.bl k = S.bl k) ∧ StepOK P ops o S S' (footOf ops o ran S.nb S) ρ'

section
variable {P : Program} {ops : Array Oper} {o : Oper} {S : St} {As : List (List DV → Prop)} {ρ : List DV} {Q : List AV → Prop} {ir : IR}

/-- The guard is as wanted, so long as its temporary is as S says. -/
def Guarded (ops : Array Oper) (o : Oper) (S : St) (ρ : List DV) (b : Bool) : Prop :=
  ∀ (ρf : List DV), Ext ρ ρf → ∀ (w0 : W0) (ok0 : Nat → Prop) (fs : List (Array Value)) (stk : List Frm) (β : Bm) (nt : Nat) (tm : Nat → Option SV) (bl : Nat → Option Blk) (a : Act) (w : World),
    RM w0 ok0 fs stk ρf β nt tm bl a w → (∀ t ∈ guardTs ops o, tm t = S.fr.tm t) → Region.wanted o (yielded ops a.tmps) = b

theorem setT_fr (S : St) (d : Option Tmp) (v : Option SV) : (S.setT d v).stk = S.stk ∧ (S.setT d v).fr.nt = S.fr.nt ∧ (S.setT d v).fr.fn = S.fr.fn ∧ (S.setT d v).nb = S.nb ∧ (S.setT d v).dp = S.dp ∧ (S.setT d v).bl = S.bl ∧ (S.setT d v).nv = S.nv ∧ (S.setT d v).kn = S.kn := by
  cases d <;> exact ⟨rfl, rfl, rfl, rfl, rfl, rfl, rfl, rfl⟩
theorem setT_tm (S : St) (d : Option Tmp) (v : Option SV) : (∀ t, t ∉ d.toList → (S.setT d v).fr.tm t = S.fr.tm t) ∧ ∀ t, d = some t → (S.setT d v).fr.tm t = v := by
  cases d with
  | none => exact ⟨fun _ _ => rfl, fun _ h => by cases h⟩
  | some d =>
    refine ⟨fun t ht => ?_, fun t ht => by cases ht; simp [St.setT, upd]⟩
    simp only [Option.toList_some, List.mem_singleton] at ht
    simp [St.setT, upd, ht]

theorem step_skip {K : Bool → St → Option IR} (hd : dstOk S o = true) (h : K false (({ S with nb := S.nb + 1 } : St).setT o.dst (some (.s (.one .und)))) = some ir) (hk : KnOK S.kn ρ) (hw : IRwp P As ρ ir Q) (hl : ρ.length = S.nv)
    (hnb : ∀ k, S.nb ≤ k → S.bl k = none) (hg : Guarded ops o S ρ false) : StepOut P ops o S K As ρ Q := by
  obtain ⟨e1, e2, e3, e4, e5, e6, e7, e8⟩ := setT_fr { S with nb := S.nb + 1 } o.dst (some (.s (.one .und)))
  obtain ⟨g1, g2⟩ := setT_tm { S with nb := S.nb + 1 } o.dst (some (.s (.one .und)))
  refine ⟨false, ρ, _, ir, Ext.refl _, by rw [e7]; exact hl, h, hw, by rw [e8]; exact hk, ⟨e1, e2, e3, e4, e5, fun k hk => by rw [e6]; exact hnb k (by omega)⟩, fun t ht => ?_, fun k hk => by rw [e6], ?_⟩
  · simp only [footOf] at ht
    exact g1 t ht
  intro ρf hE w0 ok0 fs stk β tm bl a w H hrt hrb hβ hbl K' Q' hk'
  unfold STEP
  rw [hg ρf hE w0 ok0 fs stk β S.fr.nt tm bl a w H (fun t ht => hrt t (by simpa [footOf] using ht))]
  simp only [Bool.false_eq_true, if_false]
  refine hk' _ β _ ?_ (fun _ _ h => h) fun _ _ => rfl
  simp only [footOf, Bool.false_eq_true, if_false]
  rw [e6, patch_same (ks := [S.nb]) (fun k hk => by
    rw [List.mem_singleton.1 hk]
    exact hbl.trans (hnb S.nb (Nat.le_refl _)).symm)]
  refine H.put (fun d hd' => ?_) fun d s hd' hs => ?_
  · simp only [dstOk, hd', decide_eq_true_eq] at hd; exact hd
  · rw [g2 d hd'] at hs; cases hs; rfl

theorem blind_turns {o : Op} (h : turnsOp o = true) : blind o = false := by
  cases o <;> first | rfl | cases h

theorem step_go {K : Bool → St → Option IR} (hd : (dstOk S o && (namedOf S o.op).all (fun k => decide (k < S.nb))) = true)
    (h : symOp P o (usedByCall S ops o) S.nb S (fun v S' => K true (({ S' with nb := S.nb + 1 } : St).setT o.dst v)) = some ir) (hk : KnOK S.kn ρ) (hw : IRwp P As ρ ir Q) (hl : ρ.length = S.nv)
    (hnb : ∀ k, S.nb ≤ k → S.bl k = none) (hg : Guarded ops o S ρ true) : StepOut P ops o S K As ρ Q := by
  simp only [Bool.and_eq_true, List.all_eq_true, decide_eq_true_eq] at hd
  obtain ⟨hd, hnm⟩ := hd
  obtain ⟨ρ', sv, S2, ir', hE, hl', hK, hw', hS, hfr, ⟨hN1, hN2⟩, hOK⟩ := symOp_sound (ks := if blind o.op then [] else namedOf S o.op) (fun hb k hk => by rw [hb]; exact hk) h hk hw hl (hnb _ (Nat.le_refl _))
  obtain ⟨s1, s2, s3, s4, s5⟩ := hS
  obtain ⟨e1, e2, e3, e4, e5, e6, e7, e8⟩ := setT_fr { S2 with nb := S.nb + 1 } o.dst sv
  obtain ⟨g1, g2⟩ := setT_tm { S2 with nb := S.nb + 1 } o.dst sv
  refine ⟨true, ρ', _, ir', hE, by rw [e7]; exact hl', hK, hw', by rw [e8]; show KnOK S2.kn ρ'; rw [s5]; exact hk.ext hE,
    ⟨by rw [e1]; exact s2, by rw [e2]; show S2.fr.nt = _; rw [s1], by rw [e3]; show S2.fr.fn = _; rw [s1], e4, by rw [e5]; exact s4, fun k hk => ?_⟩, fun t ht => ?_, fun k hk => ?_, ?_⟩
  · rw [e6]; exact hN2 k (by omega) (hnb k (by omega))
  · simp only [footOf, if_true] at ht
    rw [g1 t ht]; show S2.fr.tm t = _; rw [s1]
  · rw [e6]
    simp only [footOf, if_true] at hk
    cases ht : turnsOp o.op with
    | true => rw [ht] at hk; exact hfr k (by rw [blind_turns ht]; simpa using hk)
    | false => exact hN1 ht k fun he => hk (by simp [he])
  intro ρf hEf w0 ok0 fs stk β tm bl a w H hrt hrb hβ hbl K' Q' hk'
  simp only [footOf, if_true] at hrt hrb hk'
  unfold STEP
  rw [hg ρf (hE.trans hEf) w0 ok0 fs stk β S.fr.nt tm bl a w H (fun t ht => hrt t (by simp only [List.mem_append]; exact .inr ht))]
  simp only [if_true]
  refine .inl (hOK ρf hEf w0 ok0 fs stk β S.fr.nt tm bl a w H (fun x hx => ?_) hrb hβ hbl K' Q' fun v β' w' H' hβ1 hβ2 hv => hk' _ β' w' ?_ hβ1 hβ2)
  · rw [St.ev_eq]
    cases x with
    | tmp t => exact hrt t (List.mem_append.2 (.inl (by simp only [Op.tmps, List.mem_filterMap]; exact ⟨.tmp t, by simpa using hx, rfl⟩)))
    | _ => rfl
  · have hp : patch bl S2.bl (S.nb :: (if turnsOp o.op = true then namedOf S o.op else [])) = patch bl S2.bl (S.nb :: (if blind o.op = true then [] else namedOf S o.op)) := by
      cases ht : turnsOp o.op with
      | true => rw [blind_turns ht]; simp
      | false =>
        generalize (if blind o.op = true then [] else namedOf S o.op) = L at hrb ⊢
        funext k
        simp only [Bool.false_eq_true, if_false, patch, List.mem_cons, List.not_mem_nil, or_false]
        by_cases h1 : k = S.nb
        · simp [h1]
        · simp only [h1, if_false, false_or]
          by_cases h2 : k ∈ L
          · rw [if_pos h2, hN1 ht k h1, hrb k h2]
          · rw [if_neg h2]
    rw [e6, hp]
    refine H'.put (fun d hd' => ?_) fun d s hd' hs => ?_
    · simp only [dstOk, hd', decide_eq_true_eq] at hd; exact hd
    · rw [g2 d hd'] at hs; exact hv s hs

theorem guard_none (h : guardT ops o = none) : Guarded ops o S ρ true := by
  intro ρf hE w0 ok0 fs stk β nt tm bl a w H ht
  simp only [guardT, Option.map_eq_none_iff] at h
  simp [Region.wanted, h]

theorem guard_val {t : Tmp} {want b : Bool} {sv : SV} (h : guardT ops o = some (some t, want)) (ht : S.fr.tm t = some sv)
    (hv : ∀ (ρf : List DV), Ext ρ ρf → ∀ (β : Bm) (ok : Nat → Prop) (w : World) (v : Value), SVRep ρf β ok w sv v → ((match v with | .bool x => some x | _ => none) == some want) = b) : Guarded ops o S ρ b := by
  intro ρf hE w0 ok0 fs stk β nt tm bl a w H hT
  have hg : guardTs ops o = [t] := by simp [guardTs, h]
  have htt := hT t (by simp [hg])
  obtain ⟨v, hv1, hv2⟩ := H.htm t sv (by rw [htt]; exact ht)
  simp only [guardT, Option.map_eq_some_iff] at h
  obtain ⟨⟨j, b'⟩, h1, h2⟩ := h
  simp only [Prod.mk.injEq] at h2
  obtain ⟨h2, rfl⟩ := h2
  have := hv ρf hE _ _ _ _ hv2
  simp only [Region.wanted, h1, yielded, h2, Option.bind_some, hv1]
  rw [← this]
  cases v <;> rfl

theorem guard_at {t : Tmp} {want b : Bool} {x : A} (h : guardT ops o = some (some t, want)) (ht : S.fr.tm t = some (.s (.one (.at x)))) {c : Bool} (hx : x.rd ρ = some (.bool c)) (hb : (c == want) = b) : Guarded ops o S ρ b := by
  refine guard_val h ht fun ρf hE β ok w v hv => ?_
  obtain ⟨d, hd, hr⟩ := hv
  rw [A.rd_ext hE hx] at hd; cases hd
  rw [reads_bool hr]
  rw [← hb]; cases c <;> cases want <;> rfl

theorem guard_und {t : Tmp} {want : Bool} (h : guardT ops o = some (some t, want)) (ht : S.fr.tm t = some (.s (.one .und))) : Guarded ops o S ρ false := by
  refine guard_val h ht fun ρf hE β ok w v hv => ?_
  simp only [SVRep, S1Rep, CRep] at hv
  subst hv; rfl

/-- The same, but for what is known. -/
theorem StepOut.kn {K : Bool → St → Option IR} {kn : List (Nat × Bool)} (h : StepOut P ops o { S with kn := kn } K As ρ Q) : StepOut P ops o S K As ρ Q := by
  obtain ⟨ran, ρ', S', ir', h1, h2, h3, h4, h5, h6, h7, h8, h9⟩ := h
  have hf : ∀ r, footOf ops o r ({ S with kn := kn } : St).nb { S with kn := kn } = footOf ops o r S.nb S := fun r => by
    unfold footOf namedOf capsOf
    rfl
  rw [hf] at h7 h8 h9
  exact ⟨ran, ρ', S', ir', h1, h2, h3, h4, h5, ⟨h6.stk, h6.nt, h6.fn, h6.nb, h6.dp, h6.bln⟩, h7, h8, h9⟩

def goE (P : Program) (inl : Inl) (ops : Array Oper) (o : Oper) (K : Bool → St → Option IR) (S : St) : Option IR :=
  if dstOk S o && (namedOf S o.op).all (fun k => decide (k < S.nb)) then
    match inl o S with
    | some h => h fun v S' => K true (({ S' with nb := S'.nb + 1 } : St).setT o.dst v)
    | none => symOp P o (usedByCall S ops o) S.nb S fun v S' => K true (({ S' with nb := S.nb + 1 } : St).setT o.dst v)
  else none
def skipE (o : Oper) (K : Bool → St → Option IR) (S : St) : Option IR :=
  if dstOk S o then K false (({ S with nb := S.nb + 1 } : St).setT o.dst (some (.s (.one .und)))) else none

/-- The ways of a step. -/
theorem symStep_cases {inl : Inl} {K : Bool → St → Option IR} (h : symStep P inl ops o S K = some ir) (hk : KnOK S.kn ρ) (hw : IRwp P As ρ ir Q) (hl : ρ.length = S.nv) :
    ∃ kn ir1, KnOK kn ρ ∧ IRwp P As ρ ir1 Q ∧ (Guarded ops o S ρ true ∧ goE P inl ops o K { S with kn := kn } = some ir1 ∨ Guarded ops o S ρ false ∧ skipE o K { S with kn := kn } = some ir1) := by
  unfold symStep at h
  simp only at h
  split at h
  · rename_i hg
    exact ⟨S.kn, ir, hk, hw, .inl ⟨guard_none hg, h⟩⟩
  · rename_i t want hg
    split at h
    · rename_i ht
      exact ⟨S.kn, ir, hk, hw, .inr ⟨guard_und hg ht, h⟩⟩
    · rename_i x ht
      split at h
      · rename_i c hc
        have hx := tru_rd hk hc
        split at h
        · rename_i he
          exact ⟨S.kn, ir, hk, hw, .inl ⟨guard_at hg ht hx (by simp [he]), h⟩⟩
        · rename_i he
          exact ⟨S.kn, ir, hk, hw, .inr ⟨guard_at hg ht hx (by simpa using he), h⟩⟩
      · split at h
        · rename_i i _
          split at h
          · rename_i x y hx hy
            split at h
            · rename_i hi2
              cases h
              obtain ⟨b, hb, hb1, hb2⟩ := hw
              have hrd : (A.var i).rd ρ = some (.bool b) := by
                have hlt : i < ρ.length := by omega
                simp only [A.ev, List.getD_eq_getElem?_getD, List.getElem?_eq_getElem hlt, Option.getD_some] at hb
                simp [A.rd, List.getElem?_eq_getElem hlt, hb]
              have hkn : KnOK ((i, b) :: S.kn) ρ := fun j c hj => by
                rcases List.mem_cons.1 hj with he | hj
                · cases he; exact hrd
                · exact hk j c hj
              cases b with
              | true =>
                cases want with
                | true => exact ⟨(i, true) :: S.kn, x, hkn, hb1 rfl, .inl ⟨guard_at hg ht hrd rfl, hx⟩⟩
                | false => exact ⟨(i, true) :: S.kn, x, hkn, hb1 rfl, .inr ⟨guard_at hg ht hrd rfl, hx⟩⟩
              | false =>
                cases want with
                | true => exact ⟨(i, false) :: S.kn, y, hkn, hb2 rfl, .inr ⟨guard_at hg ht hrd rfl, hy⟩⟩
                | false => exact ⟨(i, false) :: S.kn, y, hkn, hb2 rfl, .inl ⟨guard_at hg ht hrd rfl, hy⟩⟩
            · cases h
          · cases h
        · cases h
    · cases h
  · cases h

/-- ONE STEP, no call being walked into. -/
theorem symStep_sound {inl : Inl} {K : Bool → St → Option IR} (hi : ∀ kn, inl o { S with kn := kn } = none) (h : symStep P inl ops o S K = some ir) (hk : KnOK S.kn ρ) (hw : IRwp P As ρ ir Q) (hl : ρ.length = S.nv)
    (hnb : ∀ k, S.nb ≤ k → S.bl k = none) : StepOut P ops o S K As ρ Q := by
  obtain ⟨kn, ir1, hkn, hw1, ⟨hg, h1⟩ | ⟨hg, h1⟩⟩ := symStep_cases h hk hw hl
  · unfold goE at h1
    split at h1
    · rename_i hd
      rw [hi kn] at h1
      exact StepOut.kn (step_go (S := { S with kn := kn }) hd h1 hkn hw1 hl hnb hg)
    · cases h1
  · unfold skipE at h1
    split at h1
    · rename_i hd
      exact StepOut.kn (step_skip (S := { S with kn := kn }) hd h1 hkn hw1 hl hnb hg)
    · cases h1

end
end Go.Px
/- Px16: regions in the order of their text. -/
set_option linter.unusedSimpArgs false
set_option linter.unusedVariables false
namespace Go.Px
open Go.RowKit

/-- The machine is where S is. -/
structure AtS (w0 : W0) (ok0 : Nat → Prop) (fs : List (Array Value)) (S : St) (ρ : List DV) (β : Bm) (a : Act) (w : World) : Prop where
  rm : RM w0 ok0 fs S.stk ρ β S.fr.nt S.fr.tm S.bl a w
  kn : KnOK S.kn ρ
  len : ρ.length = S.nv
  bln : ∀ k, S.nb ≤ k → S.bl k = none
  βn : ∀ k, S.nb ≤ k → β k = none

/-- From here the tree's rest tells what happens. -/
def Cont (P : Program) (Q : List AV → Prop) (w0 : W0) (ok0 : Nat → Prop) (fs : List (Array Value)) (nt : Nat) (As : List (List DV → Prop)) (K : St → Option IR) (a : Act) (w : World) : Prop :=
  ∃ S' ρ' β' ir' As', K S' = some ir' ∧ IRwp P As' ρ' ir' Q ∧ (∃ l, As' = As ++ l) ∧ As'.length = S'.dp ∧ S'.fr.nt = nt ∧ AtS w0 ok0 fs S' ρ' β' a w

section
variable {P : Program} {ops : Array Oper} {o : Oper} {S : St} {As : List (List DV → Prop)} {ρ : List DV} {Q : List AV → Prop} {ir : IR}
variable {w0 : W0} {ok0 : Nat → Prop} {fs : List (Array Value)} {β : Bm} {a : Act} {w : World}

/-- A call that is walked into (or a comparison with nil) is told rightly. -/
def InlOK (P : Program) (Q : List AV → Prop) (w0 : W0) (ok0 : Nat → Prop) (inl : Inl) : Prop :=
  ∀ (o : Oper) (S : St) (h : (Option SV → St → Option IR) → Option IR), inl o S = some h → ∀ (fs : List (Array Value)) (K : Option SV → St → Option IR) (ir : IR) (As : List (List DV → Prop)) (ρ : List DV) (β : Bm) (a : Act) (w : World), h K = some ir →
    IRwp P As ρ ir Q → As.length = S.dp → AtS w0 ok0 fs S ρ β a w → ∀ Qx, o.wp P a w (fun a' w' => ∃ v sv S' ρ' β' ir' As', a' = a.put o.dst v ∧ K sv S' = some ir' ∧ IRwp P As' ρ' ir' Q ∧ (∃ l, As' = As ++ l) ∧ As'.length = S'.dp ∧
      AtS w0 ok0 fs S' ρ' β' a w' ∧ S'.fr.nt = S.fr.nt ∧ ∀ s, sv = some s → SVRep ρ' β' (okS w0 ok0 S'.bl β') w' s v) Qx

theorem patch_all {α : Type} {b b' : Nat → Option α} {ks : List Nat} (h : ∀ k, k ∉ ks → b' k = b k) : patch b b' ks = b' := by
  funext k; unfold patch; split
  · rfl
  · rename_i hk; exact (h k hk).symm

/-- A step in its place. -/
theorem step_text {inl : Inl} (hinl : InlOK P Q w0 ok0 inl) {K : Bool → St → Option IR} (h : symStep P inl ops o S K = some ir) (hw : IRwp P As ρ ir Q) (hA : As.length = S.dp) (H : AtS w0 ok0 fs S ρ β a w)
    {Kx : Act → World → Prop} {Qx : Exit → Act → World → Prop} (hK : ∀ ran a w, Cont P Q w0 ok0 fs S.fr.nt As (K ran) a w → Kx a w) : STEP P ops o a w Kx Qx := by
  obtain ⟨kn, ir1, hkn, hw1, ⟨hg, h1⟩ | ⟨hg, h1⟩⟩ := symStep_cases h H.kn hw H.len
  · unfold goE at h1
    split at h1
    · rename_i hd
      have H1 : AtS w0 ok0 fs { S with kn := kn } ρ β a w := ⟨H.rm, hkn, H.len, H.bln, H.βn⟩
      split at h1
      · rename_i hh hi
        have hwp := hinl o _ hh hi fs _ ir1 As ρ β a w h1 hw1 hA H1 Qx
        unfold STEP
        rw [hg ρ (Ext.refl _) w0 ok0 fs S.stk β S.fr.nt S.fr.tm S.bl a w H.rm (fun _ _ => rfl)]
        simp only [if_true]
        refine .inl (Oper.wp_mono (fun a' w' hh => ?_) hwp)
        obtain ⟨v, sv, S', ρ', β', ir', As', rfl, hk2, hw2, hpre, hlen2, H2, hnt, hsv⟩ := hh
        obtain ⟨e1, e2, e3, e4, e5, e6, e7, e8⟩ := setT_fr { S' with nb := S'.nb + 1 } o.dst sv
        obtain ⟨g1, g2⟩ := setT_tm { S' with nb := S'.nb + 1 } o.dst sv
        refine hK true _ _ ⟨_, ρ', β', ir', As', hk2, hw2, hpre, by rw [e5]; exact hlen2, by rw [e2]; exact hnt, ?_, by rw [e8]; exact H2.kn, by rw [e7]; exact H2.len, fun k hk => ?_, fun k hk => ?_⟩
        · have := H2.rm.put (dst := o.dst) (v := v) (tm' := (({ S' with nb := S'.nb + 1 } : St).setT o.dst sv).fr.tm) (fun d hd' => by
            simp only [dstOk, hd', Bool.and_eq_true, decide_eq_true_eq] at hd; rw [hnt]; exact hd.1) (fun d s hd' hs => by
            rw [g2 d hd'] at hs; exact hsv s hs)
          rw [patch_all (b' := (({ S' with nb := S'.nb + 1 } : St).setT o.dst sv).fr.tm) g1] at this
          rw [e1, e2, e6]
          exact this
        · rw [e6]; rw [e4] at hk; exact H2.bln k (Nat.le_of_succ_le hk)
        · rw [e4] at hk; exact H2.βn k (Nat.le_of_succ_le hk)
      · rename_i hi
        obtain ⟨ran, ρ', S', ir', hE, hl', hk2, hw2, hkn2, hN, ht, hb, hOK⟩ := step_go (S := { S with kn := kn }) hd h1 hkn hw1 H.len H.bln hg
        refine hOK ρ' (Ext.refl _) w0 ok0 fs S.stk β S.fr.tm S.bl a w (H.rm.env hE) (fun _ _ => rfl) (fun _ _ => rfl) (H.βn _ (Nat.le_refl _)) (H.bln _ (Nat.le_refl _)) Kx Qx fun a' β' w' H' hβ1 hβ2 => ?_
        refine hK ran _ _ ⟨S', ρ', β', ir', As, hk2, hw2, ⟨[], by simp⟩, by rw [hN.dp]; exact hA, hN.nt, ?_, hkn2, hl', fun k hk => hN.bln k (by rw [hN.nb] at hk; exact hk), fun k hk => ?_⟩
        · rw [patch_all ht, patch_all hb] at H'
          rw [hN.stk, hN.nt]; exact H'
        · have := hN.nb
          simp only at this
          rw [this] at hk
          rw [hβ2 k (fun he => by simp only at he; omega)]
          exact H.βn k (by omega)
    · cases h1
  · unfold skipE at h1
    split at h1
    · rename_i hd
      obtain ⟨ran, ρ', S', ir', hE, hl', hk2, hw2, hkn2, hN, ht, hb, hOK⟩ := step_skip (S := { S with kn := kn }) (ops := ops) hd h1 hkn hw1 H.len H.bln hg
      refine hOK ρ' (Ext.refl _) w0 ok0 fs S.stk β S.fr.tm S.bl a w (H.rm.env hE) (fun _ _ => rfl) (fun _ _ => rfl) (H.βn _ (Nat.le_refl _)) (H.bln _ (Nat.le_refl _)) Kx Qx fun a' β' w' H' hβ1 hβ2 => ?_
      refine hK ran _ _ ⟨S', ρ', β', ir', As, hk2, hw2, ⟨[], by simp⟩, by rw [hN.dp]; exact hA, hN.nt, ?_, hkn2, hl', fun k hk => hN.bln k (by rw [hN.nb] at hk; exact hk), fun k hk => ?_⟩
      · rw [patch_all ht, patch_all hb] at H'
        rw [hN.stk, hN.nt]; exact H'
      · have := hN.nb
        simp only at this
        rw [this] at hk
        rw [hβ2 k (fun he => by simp only at he; omega)]
        exact H.βn k (by omega)
    · cases h1

theorem prefix_trans {α : Type} {a b c : List α} (h : ∃ l, b = a ++ l) (k : ∃ l, c = b ++ l) : ∃ l, c = a ++ l := by
  obtain ⟨l, rfl⟩ := h
  obtain ⟨m, rfl⟩ := k
  exact ⟨l ++ m, by simp⟩

theorem Cont.mono {K : St → Option IR} {nt : Nat} {As' : List (List DV → Prop)} (hp : ∃ l, As' = As ++ l) (h : Cont P Q w0 ok0 fs nt As' K a w) : Cont P Q w0 ok0 fs nt As K a w := by
  obtain ⟨S', ρ', β', ir', As2, h1, h2, h3, h4, h5⟩ := h
  exact ⟨S', ρ', β', ir', As2, h1, h2, prefix_trans hp h3, h4, h5⟩

/-- A region in the order of its text. -/
theorem ops_text {inl : Inl} (hinl : InlOK P Q w0 ok0 inl) {nt : Nat} {K : St → Option IR} {Qx : Exit → Act → World → Prop} (hK : ∀ a w, Cont P Q w0 ok0 fs nt As K a w → Qx .normal a w) :
    ∀ (l : List Oper) (S : St) (ir : IR) (As' : List (List DV → Prop)) (ρ : List DV) (β : Bm) (a : Act) (w : World), symOps P inl ops l S K = some ir → IRwp P As' ρ ir Q → (∃ l, As' = As ++ l) → As'.length = S.dp → S.fr.nt = nt → AtS w0 ok0 fs S ρ β a w → wpList P ops Qx l a w
  | [], S, ir, As', ρ, β, a, w, h, hw, hp, hA, hn, H => hK a w ⟨S, ρ, β, ir, As', h, hw, hp, hA, hn, H⟩
  | o :: r, S, ir, As', ρ, β, a, w, h, hw, hp, hA, hn, H => by
    unfold wpList
    refine step_text (K := fun _ S => symOps P inl ops r S K) hinl h hw hA H (Kx := wpList P ops Qx r) fun ran a w hc => ?_
    obtain ⟨S', ρ', β', ir', As2, h1, h2, h3, h4, h5, h6⟩ := hc
    exact ops_text hinl hK r S' ir' As2 ρ' β' a w h1 h2 (prefix_trans hp h3) h4 (h5.trans hn) h6

theorem region_text {id : Nat} {inl : Inl} (hinl : InlOK P Q w0 ok0 inl) {K : St → Option IR} {Qx : Exit → Act → World → Prop} (hK : ∀ a w, Cont P Q w0 ok0 fs S.fr.nt As K a w → Qx .normal a w)
    (h : symOps P inl ops ops.toList S K = some ir) (hw : IRwp P As ρ ir Q) (hA : As.length = S.dp) (H : AtS w0 ok0 fs S ρ β a w) : (Code.region id ops false).wp P Qx a w :=
  wp_region_list (ops_text hinl hK ops.toList S ir As ρ β a w h hw ⟨[], by simp⟩ hA rfl H)

end
end Go.Px
/- Px17: regions that draw their order. -/
set_option linter.unusedSimpArgs false
set_option linter.unusedVariables false
namespace Go.Px
open Go.RowKit

/-! ### A memory that is written in some order -/
section
variable {α : Type} {n : Nat} {σ : Nat → Nat → Option α} {R W : Nat → List Nat} {D : Nat → Nat → Prop} {L : Nat → Prop} {cur : Nat → Option α}

/-- What the memory is after the steps of L. -/
structure Mem (n : Nat) (σ : Nat → Nat → Option α) (W : Nat → List Nat) (L : Nat → Prop) (cur : Nat → Option α) : Prop where
  no : ∀ x, (∀ j, j < n → L j → x ∉ W j) → cur x = σ 0 x
  yes : ∀ x j, j < n → L j → x ∈ W j → (∀ k, j < k → k < n → L k → x ∉ W k) → cur x = σ (j + 1) x

theorem last_write (hW : ∀ i, i < n → ∀ x, x ∉ W i → σ (i + 1) x = σ i x) (x : Nat) : ∀ i, i ≤ n → ((∀ j, j < i → x ∉ W j) ∧ σ i x = σ 0 x) ∨ ∃ j, j < i ∧ x ∈ W j ∧ (∀ k, j < k → k < i → x ∉ W k) ∧ σ i x = σ (j + 1) x
  | 0, _ => .inl ⟨fun j hj => by omega, rfl⟩
  | i + 1, hi => by
    by_cases hx : x ∈ W i
    · exact .inr ⟨i, by omega, hx, fun k h1 h2 => by omega, rfl⟩
    · have hs := hW i (by omega) x hx
      rcases last_write hW x i (by omega) with ⟨h1, h2⟩ | ⟨j, h1, h2, h3, h4⟩
      · refine .inl ⟨fun j hj => ?_, by rw [hs, h2]⟩
        by_cases he : j = i
        · rw [he]; exact hx
        · exact h1 j (by omega)
      · refine .inr ⟨j, by omega, h2, fun k h5 h6 => ?_, by rw [hs, h4]⟩
        by_cases he : k = i
        · rw [he]; exact hx
        · exact h3 k h5 (by omega)

theorem Mem.look (hW : ∀ i, i < n → ∀ x, x ∉ W i → σ (i + 1) x = σ i x) (hWR : ∀ i j x, i < j → j < n → x ∈ W i → x ∈ R j ∨ x ∈ W j → D i j) (hRW : ∀ i j x, i < j → j < n → x ∈ W j → x ∈ R i ∨ x ∈ W i → D i j)
    (hc : ∀ j, j < n → L j → ∀ i, D i j → L i) (M : Mem n σ W L cur) {i : Nat} (hi : i < n) (hL : ¬ L i) (hr : ∀ j, D j i → L j) {x : Nat} (hx : x ∈ R i ∨ x ∈ W i) : cur x = σ i x := by
  have later : ∀ k, i < k → k < n → L k → x ∉ W k := fun k h1 h2 h3 h4 => hL (hc k h2 h3 i (hRW i k x h1 h2 h4 hx))
  rcases last_write hW x i (by omega) with ⟨h1, h2⟩ | ⟨j, h1, h2, h3, h4⟩
  · rw [h2]
    refine M.no x fun j hj hLj => ?_
    rcases Nat.lt_trichotomy j i with h | h | h
    · exact h1 j h
    · rw [h] at hLj; exact absurd hLj hL
    · exact later j h hj hLj
  · rw [h4]
    refine M.yes x j (by omega) (hr j (hWR j i x h1 hi h2 hx)) h2 fun k h5 h6 h7 => ?_
    rcases Nat.lt_trichotomy k i with h | h | h
    · exact h3 k h5 h
    · rw [h] at h7; exact absurd h7 hL
    · exact later k h h6 h7

theorem Mem.put (hRW : ∀ i j x, i < j → j < n → x ∈ W j → x ∈ R i ∨ x ∈ W i → D i j)
    (hc : ∀ j, j < n → L j → ∀ i, D i j → L i) (M : Mem n σ W L cur) {i : Nat} (hi : i < n) (hL : ¬ L i) {L' : Nat → Prop} (hL' : ∀ j, L' j ↔ (L j ∨ j = i)) : Mem n σ W L' (patch cur (σ (i + 1)) (W i)) where
  no := fun x h => by
    have hx : x ∉ W i := h i hi ((hL' i).2 (.inr rfl))
    simp only [patch, hx, if_false]
    exact M.no x fun j hj hLj => h j hj ((hL' j).2 (.inl hLj))
  yes := fun x j hj hLj hxj hmax => by
    by_cases hx : x ∈ W i
    · simp only [patch, hx, if_true]
      rcases (hL' j).1 hLj with h | h
      · rcases Nat.lt_trichotomy j i with h1 | h1 | h1
        · exact absurd hx (hmax i h1 hi ((hL' i).2 (.inr rfl)))
        · rw [h1]
        · exact absurd (hc j hj h i (hRW i j x h1 hj hxj (.inr hx))) hL
      · rw [h]
    · simp only [patch, hx, if_false]
      rcases (hL' j).1 hLj with h | h
      · exact M.yes x j hj h hxj fun k h1 h2 h3 => hmax k h1 h2 ((hL' k).2 (.inl h3))
      · rw [h] at hxj; exact absurd hxj hx

theorem Mem.done (hW : ∀ i, i < n → ∀ x, x ∉ W i → σ (i + 1) x = σ i x) (M : Mem n σ W L cur) (hL : ∀ j, j < n → L j) : cur = σ n := by
  funext x
  rcases last_write hW x n (Nat.le_refl _) with ⟨h1, h2⟩ | ⟨j, h1, h2, h3, h4⟩
  · rw [h2]; exact M.no x fun j hj _ => h1 j hj
  · rw [h4]; exact M.yes x j h1 (hL j h1) h2 fun k h5 h6 _ => h3 k h5 h6

theorem Mem.start (hL : ∀ j, j < n → ¬ L j) : Mem n σ W L (σ 0) where
  no := fun _ _ => rfl
  yes := fun x j hj hLj => absurd hLj (hL j hj)
end

/-! ### What waits for what -/
theorem fold_bits (f : Edge → Bool) (acc : List Nat) (i : Nat) : ∀ (l : List Edge) (s : Nat), (l.foldl (fun s e => if f e then s ||| (2 ^ e.on) ||| acc.getD e.on 0 else s) s).testBit i = true → s.testBit i = true ∨ ∃ e ∈ l, f e = true ∧ (i = e.on ∨ (acc.getD e.on 0).testBit i = true)
  | [], s, h => .inl h
  | e :: r, s, h => by
    simp only [List.foldl_cons] at h
    rcases fold_bits f acc i r _ h with h1 | ⟨e', he', h1⟩
    · split at h1
      · rename_i hf
        simp only [Nat.testBit_or, Nat.testBit_two_pow, Bool.or_eq_true, decide_eq_true_eq] at h1
        rcases h1 with (h1 | h1) | h1
        · exact .inl h1
        · exact .inr ⟨e, by simp, hf, .inl h1.symm⟩
        · exact .inr ⟨e, by simp, hf, .inr h1⟩
      · exact .inl h1
    · exact .inr ⟨e', by simp [he'], h1⟩

theorem ancs_spec : ∀ (l : List Oper) (acc : List Nat), (∀ k, k < acc.length → (ancs l acc).getD k 0 = acc.getD k 0) ∧
    ∀ (j : Nat) (o : Oper), l[j]? = some o → ∀ i, ((ancs l acc).getD (acc.length + j) 0).testBit i = true → ∃ e ∈ o.after, Region.binds .any e = true ∧ (i = e.on ∨ ((ancs l acc).getD e.on 0).testBit i = true)
  | [], acc => ⟨fun k _ => rfl, fun j o h => by simp at h⟩
  | o :: r, acc => by
    simp only [ancs]
    generalize hv : (o.after.toList.foldl (fun s e => if Region.binds .any e then s ||| (2 ^ e.on) ||| acc.getD e.on 0 else s) 0) = v
    obtain ⟨h1, h2⟩ := ancs_spec r (acc ++ [v])
    have h1' : ∀ k, k < acc.length → (ancs r (acc ++ [v])).getD k 0 = acc.getD k 0 := fun k hk => by
      rw [h1 k (by simp; omega)]
      simp [List.getD_eq_getElem?_getD, List.getElem?_append_left hk]
    refine ⟨h1', fun j o' hj i hi => ?_⟩
    cases j with
    | zero =>
      simp at hj; subst hj
      rw [Nat.add_zero, h1 acc.length (by simp)] at hi
      simp only [List.getD_eq_getElem?_getD, List.getElem?_append_right (Nat.le_refl _), Nat.sub_self, List.getElem?_cons_zero, Option.getD_some] at hi
      rw [← hv] at hi
      rcases fold_bits _ acc i _ _ hi with h3 | ⟨e, he, hf, h3⟩
      · simp at h3
      · refine ⟨e, by simpa using he, hf, ?_⟩
        rcases h3 with h3 | h3
        · exact .inl h3
        · refine .inr ?_
          by_cases hlt : e.on < acc.length
          · rw [h1' _ hlt]; exact h3
          · rw [List.getD_eq_getElem?_getD, List.getElem?_eq_none (by omega)] at h3
            simp at h3
    | succ j =>
      have := h2 j o' (by simpa using hj) i (by simpa [Nat.add_assoc, Nat.add_comm 1 j] using hi)
      exact this

theorem meet_of {a b : List Nat} {x : Nat} (h1 : x ∈ a) (h2 : x ∈ b) : meet a b = true :=
  List.any_eq_true.2 ⟨x, h1, List.any_eq_true.2 ⟨x, h2, by simp⟩⟩

theorem apartAll_spec {an : List Nat} {n : Nat} {F : Nat → Foot} (h : apartAll an ((List.range n).map F) = true) {i j : Nat} (hij : i < j) (hj : j < n) (hc : (F i).clash (F j) = true) : (an.getD j 0).testBit i = true := by
  have hz : ∀ k, k < n → (F k, k) ∈ ((List.range n).map F).zipIdx := fun k hk => by
    rw [List.mem_zipIdx_iff_getElem?]
    simp [hk]
  have h1 := List.all_eq_true.1 h (F j, j) (hz j hj)
  have h2 := List.all_eq_true.1 h1 (F i, i) (hz i (by omega))
  simp only [hij, decide_true, Bool.not_true, Bool.false_or, hc] at h2
  exact h2

theorem backward_spec {ops : List Oper} (h : backward ops = true) {i : Nat} {o : Oper} (ho : ops[i]? = some o) {e : Edge} (he : e ∈ o.after) (hb : Region.binds .any e = true) : e.on < i := by
  have h1 := List.all_eq_true.1 h (o, i) (by rw [List.mem_zipIdx_iff_getElem?]; simpa using ho)
  have h2 := (Array.all_eq_true_iff_forall_mem.1 h1) e he
  simpa [hb] using h2

end Go.Px
/- Px18: regions that draw their order: whatever the order, the state is the one of the text. -/
set_option linter.unusedSimpArgs false
set_option linter.unusedVariables false
namespace Go.Px
open Go.RowKit

theorem StepOK.ext {P : Program} {ops : Array Oper} {o : Oper} {S S' : St} {F : Foot} {ρ ρ' : List DV} (hE : Ext ρ ρ') (h : StepOK P ops o S S' F ρ) : StepOK P ops o S S' F ρ' :=
  fun ρf hf => h ρf (hE.trans hf)

/-- A step's facts. -/
structure Stp (P : Program) (ops : Array Oper) (o : Oper) (S S' : St) (F : Foot) (ρ' : List DV) : Prop where
  nx : Next S S'
  ft : ∀ t, t ∉ F.wt → S'.fr.tm t = S.fr.tm t
  fb : ∀ k, k ∉ F.wb → S'.bl k = S.bl k
  ok : StepOK P ops o S S' F ρ'
  me : S.nb ∈ F.wb

section
variable {P : Program} {ops : Array Oper} {As : List (List DV → Prop)} {Q : List AV → Prop}

theorem symDraw_path {K : List Foot → St → Option IR} : ∀ (l : List Oper) (S : St) (fs : List Foot) (ir : IR) (ρ : List DV), symDraw P ops l S fs K = some ir → IRwp P As ρ ir Q → KnOK S.kn ρ → ρ.length = S.nv → (∀ k, S.nb ≤ k → S.bl k = none) →
    ∃ (σ : Nat → St) (F : Nat → Foot) (ρ' : List DV) (ir' : IR), σ 0 = S ∧ (∀ i o, l[i]? = some o → Stp P ops o (σ i) (σ (i + 1)) (F i) ρ') ∧ K (fs ++ (List.range l.length).map F) (σ l.length) = some ir' ∧
      IRwp P As ρ' ir' Q ∧ KnOK (σ l.length).kn ρ' ∧ ρ'.length = (σ l.length).nv ∧ Ext ρ ρ' ∧ (∀ k, (σ l.length).nb ≤ k → (σ l.length).bl k = none)
  | [], S, fs, ir, ρ, h, hw, hk, hl, hb => ⟨fun _ => S, fun _ => default, ρ, ir, rfl, fun i o ho => by simp at ho, by simpa [symDraw] using h, hw, hk, hl, Ext.refl _, hb⟩
  | o :: r, S, fs, ir, ρ, h, hw, hk, hl, hb => by
    simp only [symDraw] at h
    obtain ⟨ran, ρ1, S1, ir1, hE, hl1, hK, hw1, hk1, hN, ht, hb1, hOK⟩ := symStep_sound (fun _ => rfl) h hk hw hl hb
    obtain ⟨σ, F, ρ', ir', h0, hs, hK', hw', hk', hl', hE', hb'⟩ := symDraw_path r S1 _ ir1 ρ1 hK hw1 hk1 hl1 (fun k hk => hN.bln k (by rw [hN.nb] at hk; exact hk))
    have hme : S.nb ∈ (footOf ops o ran S.nb S).wb := by cases ran <;> simp [footOf]
    refine ⟨fun i => match i with | 0 => S | i + 1 => σ i, fun i => match i with | 0 => footOf ops o ran S.nb S | i + 1 => F i, ρ', ir', rfl, fun i o' ho => ?_, ?_, hw', hk', hl', hE.trans hE', hb'⟩
    · cases i with
      | zero =>
        simp at ho; subst ho
        simp only [h0]
        exact ⟨hN, ht, hb1, hOK.ext hE', hme⟩
      | succ i => exact hs i o' (by simpa using ho)
    · simp only [List.length_cons, List.range_succ_eq_map, List.map_cons, List.map_map]
      have e1 : fs ++ (footOf ops o ran S.nb S :: (List.range r.length).map ((fun i => match i with | 0 => footOf ops o ran S.nb S | i + 1 => F i) ∘ Nat.succ)) = fs ++ [footOf ops o ran S.nb S] ++ (List.range r.length).map F := by
        simp only [List.append_assoc, List.singleton_append]
        rfl
      rw [e1]; exact hK'

theorem countP_lt {α : Type} {p q : α → Bool} : ∀ {l : List α}, (∀ x ∈ l, p x = true → q x = true) → (∃ x ∈ l, q x = true ∧ p x = false) → l.countP p < l.countP q
  | [], _, ⟨x, hx, _⟩ => by cases hx
  | y :: r, h, ⟨x, hx, h1, h2⟩ => by
    have hr : r.countP p ≤ r.countP q := List.countP_mono_left fun z hz => h z (List.mem_cons_of_mem _ hz)
    rcases List.mem_cons.1 hx with rfl | hx
    · simp only [List.countP_cons, h1, h2, if_true, Bool.false_eq_true, if_false]; omega
    · have := countP_lt (fun z hz => h z (List.mem_cons_of_mem _ hz)) ⟨x, hx, h1, h2⟩
      have hy := h y (by simp)
      simp only [List.countP_cons]
      cases hp : p y <;> cases hq : q y <;> simp_all <;> omega

def open_ (n : Nat) (listed : Array Bool) : Nat := (List.range n).countP fun i => !listed.getD i true

theorem run_draw {w0 : W0} {ok0 : Nat → Prop} {fs : List (Array Value)} {stk : List Frm} {nt base : Nat} {σ : Nat → St} {F : Nat → Foot} {ρ : List DV} {Qx : Exit → Act → World → Prop}
    (hs : ∀ i o, ops[i]? = some o → Stp P ops o (σ i) (σ (i + 1)) (F i) ρ) (hnt : ∀ i, i ≤ ops.size → (σ i).fr.nt = nt) (hid : ∀ i, i ≤ ops.size → (σ i).nb = base + i) (hbl0 : ∀ i, i ≤ ops.size → ∀ k, (σ i).nb ≤ k → (σ i).bl k = none)
    (hback : backward ops.toList = true) (hap : apartAll (ancs ops.toList []) ((List.range ops.size).map F) = true)
    (hQ : ∀ β a w, RM w0 ok0 fs stk ρ β nt (σ ops.size).fr.tm (σ ops.size).bl a w → (∀ k, base + ops.size ≤ k → β k = none) → Qx .normal a w) :
    ∀ (fuel : Nat) (listed : Array Bool) (β : Bm) (tm : Nat → Option SV) (bl : Nat → Option Blk) (a : Act) (w : World), listed.size = ops.size → open_ ops.size listed ≤ fuel →
      (∀ j, j < ops.size → listed.getD j false = true → ∀ o e, ops[j]? = some o → e ∈ o.after → Region.binds .any e = true → listed.getD e.on false = true) →
      RM w0 ok0 fs stk ρ β nt tm bl a w → Mem ops.size (fun i => (σ i).fr.tm) (fun i => (F i).wt) (fun j => listed.getD j false = true) tm → Mem ops.size (fun i => (σ i).bl) (fun i => (F i).wb) (fun j => listed.getD j false = true) bl →
      (∀ j, j < ops.size → listed.getD j false = false → β (base + j) = none) → (∀ k, base + ops.size ≤ k → β k = none) → wpAny P .any ops Qx fuel listed a w := by
  have hop : ∀ i, i < ops.size → ∃ o, ops[i]? = some o := fun i hi => ⟨ops[i], by simp [hi]⟩
  have hD : ∀ i j, i < j → j < ops.size → (F i).clash (F j) = true → ((ancs ops.toList []).getD j 0).testBit i = true := fun i j h1 h2 h3 => apartAll_spec hap h1 h2 h3
  have hWt : ∀ i, i < ops.size → ∀ x, x ∉ (F i).wt → (σ (i + 1)).fr.tm x = (σ i).fr.tm x := fun i hi x hx => by
    obtain ⟨o, ho⟩ := hop i hi
    exact (hs i o ho).ft x hx
  have hWb : ∀ i, i < ops.size → ∀ x, x ∉ (F i).wb → (σ (i + 1)).bl x = (σ i).bl x := fun i hi x hx => by
    obtain ⟨o, ho⟩ := hop i hi
    exact (hs i o ho).fb x hx
  have ct1 : ∀ i j x, i < j → j < ops.size → x ∈ (F i).wt → x ∈ (F j).rt ∨ x ∈ (F j).wt → ((ancs ops.toList []).getD j 0).testBit i = true := fun i j x h1 h2 h3 h4 => hD i j h1 h2 (by
    simp only [Foot.clash, Bool.or_eq_true]
    rcases h4 with h4 | h4
    · exact .inl (.inl (.inl (.inl (.inl (meet_of h3 h4)))))
    · exact .inl (.inl (.inl (.inl (.inr (meet_of h3 h4))))))
  have ct2 : ∀ i j x, i < j → j < ops.size → x ∈ (F j).wt → x ∈ (F i).rt ∨ x ∈ (F i).wt → ((ancs ops.toList []).getD j 0).testBit i = true := fun i j x h1 h2 h3 h4 => hD i j h1 h2 (by
    simp only [Foot.clash, Bool.or_eq_true]
    rcases h4 with h4 | h4
    · exact .inl (.inl (.inl (.inr (meet_of h3 h4))))
    · exact .inl (.inl (.inl (.inl (.inr (meet_of h4 h3))))))
  have cb1 : ∀ i j x, i < j → j < ops.size → x ∈ (F i).wb → x ∈ (F j).rb ∨ x ∈ (F j).wb → ((ancs ops.toList []).getD j 0).testBit i = true := fun i j x h1 h2 h3 h4 => hD i j h1 h2 (by
    simp only [Foot.clash, Bool.or_eq_true]
    rcases h4 with h4 | h4
    · exact .inl (.inl (.inr (meet_of h3 h4)))
    · exact .inl (.inr (meet_of h3 h4)))
  have cb2 : ∀ i j x, i < j → j < ops.size → x ∈ (F j).wb → x ∈ (F i).rb ∨ x ∈ (F i).wb → ((ancs ops.toList []).getD j 0).testBit i = true := fun i j x h1 h2 h3 h4 => hD i j h1 h2 (by
    simp only [Foot.clash, Bool.or_eq_true]
    rcases h4 with h4 | h4
    · exact .inr (meet_of h3 h4)
    · exact .inl (.inr (meet_of h4 h3)))
  -- what an operation waits for is listed, if its edges are
  have closed : ∀ (listed : Array Bool), (∀ j, j < ops.size → listed.getD j false = true → ∀ o e, ops[j]? = some o → e ∈ o.after → Region.binds .any e = true → listed.getD e.on false = true) →
      ∀ j, j < ops.size → (∀ o e, ops[j]? = some o → e ∈ o.after → Region.binds .any e = true → listed.getD e.on false = true) → ∀ i, ((ancs ops.toList []).getD j 0).testBit i = true → listed.getD i false = true := by
    intro listed hcl j
    induction j using Nat.strongRecOn with
    | _ j ih =>
      intro hj hr i hi
      obtain ⟨o, ho⟩ := hop j hj
      obtain ⟨e, he, hb, h1⟩ := (ancs_spec ops.toList []).2 j o (by simpa using ho) i (by simpa using hi)
      have hle := hr o e ho he hb
      rcases h1 with rfl | h1
      · exact hle
      · have hlt := backward_spec hback (by simpa using ho) he hb
        exact ih e.on hlt (by omega) (hcl e.on (by omega) hle) i h1
  have allDone : ∀ (listed : Array Bool), listed.size = ops.size → Region.ready .any ops listed = [] → ∀ i, i < ops.size → listed.getD i false = true := by
    intro listed hsz hr i
    induction i using Nat.strongRecOn with
    | _ i ih =>
      intro hi
      cases hb : listed.getD i false with
      | true => rfl
      | false =>
        exfalso
        obtain ⟨o, ho⟩ := hop i hi
        have hb2 : listed.getD i true = false := by
          have hlt : i < listed.size := by omega
          simp only [Array.getD_eq_getD_getElem?, Array.getElem?_eq_getElem hlt, Option.getD_some] at hb ⊢
          exact hb
        have : i ∈ Region.ready .any ops listed := mem_ready.2 ⟨hb2, o, ho, fun e he hbe => ih e.on (backward_spec hback (by simpa using ho) he hbe) (by have := backward_spec hback (ops := ops.toList) (i := i) (o := o) (by simpa using ho) he hbe; omega)⟩
        rw [hr] at this; cases this
  have fin : ∀ (listed : Array Bool) (β : Bm) (tm : Nat → Option SV) (bl : Nat → Option Blk) (a : Act) (w : World), (∀ i, i < ops.size → listed.getD i false = true) → RM w0 ok0 fs stk ρ β nt tm bl a w →
      Mem ops.size (fun i => (σ i).fr.tm) (fun i => (F i).wt) (fun j => listed.getD j false = true) tm → Mem ops.size (fun i => (σ i).bl) (fun i => (F i).wb) (fun j => listed.getD j false = true) bl → (∀ k, base + ops.size ≤ k → β k = none) → Qx .normal a w := by
    intro listed β tm bl a w hall H Mt Mb hβ
    have e1 : tm = (σ ops.size).fr.tm := Mt.done hWt (fun j hj => hall j hj)
    have e2 : bl = (σ ops.size).bl := Mb.done hWb (fun j hj => hall j hj)
    rw [e1, e2] at H
    exact hQ β a w H hβ
  intro fuel
  induction fuel with
  | zero =>
    intro listed β tm bl a w hsz ho hcl H Mt Mb hβ1 hβ2
    have hnone : Region.ready .any ops listed = [] := by
      cases hr : Region.ready .any ops listed with
      | nil => rfl
      | cons i r =>
        exfalso
        have hi : i ∈ Region.ready .any ops listed := by rw [hr]; simp
        obtain ⟨h1, o, ho2, _⟩ := mem_ready.1 hi
        have hlt : i < ops.size := (Array.getElem?_eq_some_iff.1 ho2).1
        have h0 : open_ ops.size listed = 0 := by omega
        have := List.countP_eq_zero.1 h0 i (by simp [hlt])
        simp [h1] at this
    exact ⟨hnone, fin listed β tm bl a w (allDone listed hsz hnone) H Mt Mb hβ2⟩
  | succ fuel ih =>
    intro listed β tm bl a w hsz ho hcl H Mt Mb hβ1 hβ2
    refine ⟨fun hr => fin listed β tm bl a w (allDone listed hsz hr) H Mt Mb hβ2, fun i hi => ?_⟩
    obtain ⟨h1, o, ho2, hedge⟩ := mem_ready.1 hi
    have hlt : i < ops.size := (Array.getElem?_eq_some_iff.1 ho2).1
    have hL : listed.getD i false = false := by
      have hlt2 : i < listed.size := by omega
      simp only [Array.getD_eq_getD_getElem?, Array.getElem?_eq_getElem hlt2, Option.getD_some] at h1 ⊢
      exact h1
    have hnL : ¬ listed.getD i false = true := by rw [hL]; simp
    have hr : ∀ o' e, ops[i]? = some o' → e ∈ o'.after → Region.binds .any e = true → listed.getD e.on false = true := fun o' e h2 h3 h4 => by
      rw [ho2] at h2; cases h2; exact hedge e h3 h4
    have hri := closed listed hcl i hlt hr
    have hcl2 : ∀ j, j < ops.size → listed.getD j false = true → ∀ i', ((ancs ops.toList []).getD j 0).testBit i' = true → listed.getD i' false = true := fun j hj hLj => closed listed hcl j hj (hcl j hj hLj)
    have lookT : ∀ x, x ∈ (F i).rt ∨ x ∈ (F i).wt → tm x = (σ i).fr.tm x := fun x hx =>
      Mt.look (R := fun i => (F i).rt) (D := fun i j => ((ancs ops.toList []).getD j 0).testBit i = true) hWt ct1 ct2 hcl2 hlt hnL hri hx
    have lookB : ∀ x, x ∈ (F i).rb ∨ x ∈ (F i).wb → bl x = (σ i).bl x := fun x hx =>
      Mb.look (R := fun i => (F i).rb) (D := fun i j => ((ancs ops.toList []).getD j 0).testBit i = true) hWb cb1 cb2 hcl2 hlt hnL hri hx
    have hst := hs i o ho2
    have hnb := hid i (by omega)
    have hset : ∀ j, (listed.setIfInBounds i true).getD j false = true ↔ (listed.getD j false = true ∨ j = i) := fun j => by
      by_cases he : j = i
      · subst he
        have hlt2 : j < listed.size := by omega
        simp [hlt2]
      · rw [getD_set_ne false (Ne.symm he)]; simp [he]
    have hstep : STEP P ops o a w (wpAny P .any ops Qx fuel (listed.setIfInBounds i true)) Qx := by
      refine hst.ok ρ (Ext.refl _) w0 ok0 fs stk β tm bl a w (by rw [hnt i (by omega)]; exact H) (fun t ht => lookT t (.inl ht)) (fun k hk => lookB k (.inl hk)) (by rw [hnb]; exact hβ1 i hlt hL) ?_ _ Qx fun a' β' w' H' hβ3 hβ4 => ?_
      · rw [lookB _ (.inr hst.me)]; exact hbl0 i (by omega) _ (Nat.le_refl _)
      rw [hnt i (by omega)] at H'
      refine ih (listed.setIfInBounds i true) β' _ _ a' w' (by simp [hsz]) ?_ ?_ H' (Mt.put (R := fun i => (F i).rt) (D := fun i j => ((ancs ops.toList []).getD j 0).testBit i = true) ct2 hcl2 hlt hnL hset)
        (Mb.put (R := fun i => (F i).rb) (D := fun i j => ((ancs ops.toList []).getD j 0).testBit i = true) cb2 hcl2 hlt hnL hset) (fun j hj hLj => ?_) (fun k hk => ?_)
      · have : open_ ops.size (listed.setIfInBounds i true) < open_ ops.size listed := by
          refine countP_lt (fun j hj hp => ?_) ⟨i, by simp [hlt], by simp [h1], ?_⟩
          · by_cases he : j = i
            · rw [he]; simp [h1]
            · rw [getD_set_ne true (Ne.symm he)] at hp; exact hp
          · have hlt2 : i < listed.size := by omega
            simp [hlt2]
        omega
      · intro j hj hLj o' e h2 h3 h4
        rcases (hset j).1 hLj with h5 | h5
        · exact (hset _).2 (.inl (hcl j hj h5 o' e h2 h3 h4))
        · rw [h5] at h2; exact (hset _).2 (.inl (hr o' e h2 h3 h4))
      · have hne : j ≠ i := fun he => by
          have := (hset j).2 (.inr he)
          rw [hLj] at this; cases this
        rw [hβ4 _ (by rw [hnb]; omega)]
        refine hβ1 j hj ?_
        cases hb : listed.getD j false with
        | false => rfl
        | true => have := (hset j).2 (.inl hb); rw [hLj] at this; cases this
      · rw [hβ4 _ (by rw [hnb]; omega)]; exact hβ2 k hk
    unfold wpOp
    simp only [ho2]
    exact hstep

/-- A region that draws its order. -/
theorem region_draw {id : Nat} {S : St} {ρ : List DV} {ir : IR} {w0 : W0} {ok0 : Nat → Prop} {fs : List (Array Value)} {β : Bm} {a : Act} {w : World} (hm : P.follows .mixedOrders = true) {K : St → Option IR} {Qx : Exit → Act → World → Prop}
    (hback : backward ops.toList = true) (h : symDraw P ops ops.toList S [] (fun fs S => if apartAll (ancs ops.toList []) fs then K S else none) = some ir) (hw : IRwp P As ρ ir Q) (hA : As.length = S.dp) (H : AtS w0 ok0 fs S ρ β a w)
    (hK : ∀ a w, Cont P Q w0 ok0 fs S.fr.nt As K a w → Qx .normal a w) : (Code.region id ops true).wp P Qx a w := by
  obtain ⟨σ, F, ρ', ir', h0, hs, hK', hw', hk', hl', hE', hb'⟩ := symDraw_path ops.toList S [] ir ρ h hw H.kn H.len H.bln
  simp only [Array.length_toList, List.nil_append] at hK' hk' hl' hb'
  have hs' : ∀ i o, ops[i]? = some o → Stp P ops o (σ i) (σ (i + 1)) (F i) ρ' := fun i o ho => hs i o (by simpa using ho)
  have hop : ∀ i, i < ops.size → ∃ o, ops[i]? = some o := fun i hi => ⟨ops[i], by simp [hi]⟩
  split at hK'
  · rename_i hap
    have hfix : ∀ i, i ≤ ops.size → (σ i).fr.nt = S.fr.nt ∧ (σ i).nb = S.nb + i ∧ (σ i).stk = S.stk ∧ (σ i).dp = S.dp ∧ ∀ k, (σ i).nb ≤ k → (σ i).bl k = none := by
      intro i
      induction i with
      | zero => intro _; rw [h0]; exact ⟨rfl, rfl, rfl, rfl, H.bln⟩
      | succ i ih =>
        intro hi
        obtain ⟨i1, i2, i3, i4, i5⟩ := ih (by omega)
        obtain ⟨o, ho⟩ := hop i (by omega)
        have hn := (hs' i o ho).nx
        exact ⟨by rw [hn.nt, i1], by rw [hn.nb, i2]; omega, by rw [hn.stk, i3], by rw [hn.dp, i4], fun k hk => hn.bln k (by rw [hn.nb] at hk; exact hk)⟩
    obtain ⟨n1, n2, n3, n4, n5⟩ := hfix ops.size (Nat.le_refl _)
    have hrep : ∀ j, (Array.replicate ops.size false).getD j false = false := fun j => by
      by_cases hj : j < ops.size <;> simp [Array.getD_eq_getD_getElem?, hj]
    refine wp_region_any hm (run_draw (w0 := w0) (ok0 := ok0) (fs := fs) (stk := S.stk) (nt := S.fr.nt) (base := S.nb) (σ := σ) (F := F) (ρ := ρ') hs' (fun i hi => (hfix i hi).1) (fun i hi => (hfix i hi).2.1) (fun i hi => (hfix i hi).2.2.2.2) hback hap ?_
      ops.size (Array.replicate ops.size false) β S.fr.tm S.bl a _ (by simp) ?_ ?_ ?_ ?_ ?_ (fun j hj _ => H.βn _ (by omega)) (fun k hk => H.βn k (by omega)))
    · intro β' a' w' H' hβ'
      refine hK a' w' ⟨_, ρ', β', ir', As, hK', hw', ⟨[], by simp⟩, by rw [n4]; exact hA, n1, ?_, hk', hl', n5, fun k hk => hβ' k (by rw [n2] at hk; exact hk)⟩
      rw [n1, n3]; exact H'
    · refine Nat.le_trans (List.countP_le_length) (by simp)
    · intro j hj hl; rw [hrep] at hl; cases hl
    · exact (H.rm.env hE').grow ⟨⟨rfl, rfl, rfl, Nat.le_refl _, fun _ _ => rfl⟩, Nat.le_succ _⟩
    · have : (fun i => (σ i).fr.tm) 0 = S.fr.tm := by simp only [h0]
      rw [← this]
      exact Mem.start fun j hj hl => by rw [hrep] at hl; cases hl
    · have : (fun i => (σ i).bl) 0 = S.bl := by simp only [h0]
      rw [← this]
      exact Mem.start fun j hj hl => by rw [hrep] at hl; cases hl
  · cases hK'

theorem STEP.mono {o : Oper} {a : Act} {w : World} {K K' : Act → World → Prop} {Q : Exit → Act → World → Prop} (h : ∀ a w, K a w → K' a w) (hh : STEP P ops o a w K Q) : STEP P ops o a w K' Q := by
  unfold STEP at *
  split
  · rename_i hw; simp only [hw, if_true] at hh; exact hh.imp (Oper.wp_mono h) id
  · rename_i hw; simp only [hw] at hh; exact h _ _ hh

/-- As 'run_draw'; a last operation waits for all others, and is carried out by itself. -/
theorem run_drawL {w0 : W0} {ok0 : Nat → Prop} {fs : List (Array Value)} {stk : List Frm} {nt base : Nat} {σ : Nat → St} {F : Nat → Foot} {ρ : List DV} {Qx : Exit → Act → World → Prop}
    {n : Nat} (hnn : n < ops.size) (hall : ∀ j, n ≤ j → j < ops.size → lastAll (ancs ops.toList []) j = true) (hs : ∀ i o, i < n → ops[i]? = some o → Stp P ops o (σ i) (σ (i + 1)) (F i) ρ) (hnt : ∀ i, i ≤ n → (σ i).fr.nt = nt) (hid : ∀ i, i ≤ n → (σ i).nb = base + i) (hbl0 : ∀ i, i ≤ n → ∀ k, (σ i).nb ≤ k → (σ i).bl k = none)
    (hback : backward ops.toList = true) (hap : apartAll (ancs ops.toList []) ((List.range n).map F) = true)
    (hQ : ∀ β a w, RM w0 ok0 fs stk ρ β nt (σ n).fr.tm (σ n).bl a w → (∀ k, base + n ≤ k → β k = none) → wpList P ops Qx (ops.toList.drop n) a w) :
    ∀ (fuel : Nat) (listed : Array Bool) (β : Bm) (tm : Nat → Option SV) (bl : Nat → Option Blk) (a : Act) (w : World), listed.size = ops.size → open_ ops.size listed ≤ fuel → (∀ j, n ≤ j → j < ops.size → listed.getD j false = false) →
      (∀ j, j < n → listed.getD j false = true → ∀ o e, ops[j]? = some o → e ∈ o.after → Region.binds .any e = true → listed.getD e.on false = true) →
      RM w0 ok0 fs stk ρ β nt tm bl a w → Mem n (fun i => (σ i).fr.tm) (fun i => (F i).wt) (fun j => listed.getD j false = true) tm → Mem n (fun i => (σ i).bl) (fun i => (F i).wb) (fun j => listed.getD j false = true) bl →
      (∀ j, j < n → listed.getD j false = false → β (base + j) = none) → (∀ k, base + n ≤ k → β k = none) → wpAny P .any ops Qx fuel listed a w := by
  have hop : ∀ i, i < ops.size → ∃ o, ops[i]? = some o := fun i hi => ⟨ops[i], by simp [hi]⟩
  have hD : ∀ i j, i < j → j < n → (F i).clash (F j) = true → ((ancs ops.toList []).getD j 0).testBit i = true := fun i j h1 h2 h3 => apartAll_spec hap h1 h2 h3
  have hWt : ∀ i, i < n → ∀ x, x ∉ (F i).wt → (σ (i + 1)).fr.tm x = (σ i).fr.tm x := fun i hi x hx => by
    obtain ⟨o, ho⟩ := hop i (by omega)
    exact (hs i o hi ho).ft x hx
  have hWb : ∀ i, i < n → ∀ x, x ∉ (F i).wb → (σ (i + 1)).bl x = (σ i).bl x := fun i hi x hx => by
    obtain ⟨o, ho⟩ := hop i (by omega)
    exact (hs i o hi ho).fb x hx
  have ct1 : ∀ i j x, i < j → j < n → x ∈ (F i).wt → x ∈ (F j).rt ∨ x ∈ (F j).wt → ((ancs ops.toList []).getD j 0).testBit i = true := fun i j x h1 h2 h3 h4 => hD i j h1 h2 (by
    simp only [Foot.clash, Bool.or_eq_true]
    rcases h4 with h4 | h4
    · exact .inl (.inl (.inl (.inl (.inl (meet_of h3 h4)))))
    · exact .inl (.inl (.inl (.inl (.inr (meet_of h3 h4))))))
  have ct2 : ∀ i j x, i < j → j < n → x ∈ (F j).wt → x ∈ (F i).rt ∨ x ∈ (F i).wt → ((ancs ops.toList []).getD j 0).testBit i = true := fun i j x h1 h2 h3 h4 => hD i j h1 h2 (by
    simp only [Foot.clash, Bool.or_eq_true]
    rcases h4 with h4 | h4
    · exact .inl (.inl (.inl (.inr (meet_of h3 h4))))
    · exact .inl (.inl (.inl (.inl (.inr (meet_of h4 h3))))))
  have cb1 : ∀ i j x, i < j → j < n → x ∈ (F i).wb → x ∈ (F j).rb ∨ x ∈ (F j).wb → ((ancs ops.toList []).getD j 0).testBit i = true := fun i j x h1 h2 h3 h4 => hD i j h1 h2 (by
    simp only [Foot.clash, Bool.or_eq_true]
    rcases h4 with h4 | h4
    · exact .inl (.inl (.inr (meet_of h3 h4)))
    · exact .inl (.inr (meet_of h3 h4)))
  have cb2 : ∀ i j x, i < j → j < n → x ∈ (F j).wb → x ∈ (F i).rb ∨ x ∈ (F i).wb → ((ancs ops.toList []).getD j 0).testBit i = true := fun i j x h1 h2 h3 h4 => hD i j h1 h2 (by
    simp only [Foot.clash, Bool.or_eq_true]
    rcases h4 with h4 | h4
    · exact .inr (meet_of h3 h4)
    · exact .inl (.inr (meet_of h4 h3)))
  -- what an operation waits for is listed, if its edges are
  have closed : ∀ (listed : Array Bool), (∀ j, j < n → listed.getD j false = true → ∀ o e, ops[j]? = some o → e ∈ o.after → Region.binds .any e = true → listed.getD e.on false = true) →
      (∀ j, n ≤ j → j < ops.size → listed.getD j false = false) → ∀ j, j < ops.size → (∀ o e, ops[j]? = some o → e ∈ o.after → Region.binds .any e = true → listed.getD e.on false = true) → ∀ i, ((ancs ops.toList []).getD j 0).testBit i = true → listed.getD i false = true := by
    intro listed hcl hun j
    induction j using Nat.strongRecOn with
    | _ j ih =>
      intro hj hr i hi
      obtain ⟨o, ho⟩ := hop j hj
      obtain ⟨e, he, hb, h1⟩ := (ancs_spec ops.toList []).2 j o (by simpa using ho) i (by simpa using hi)
      have hle := hr o e ho he hb
      rcases h1 with rfl | h1
      · exact hle
      · have hlt := backward_spec hback (by simpa using ho) he hb
        have hen : e.on < n := by
          rcases Nat.lt_or_ge e.on n with h2 | h2
          · exact h2
          · rw [hun e.on h2 (by omega)] at hle; cases hle
        exact ih e.on hlt (by omega) (hcl e.on hen hle) i h1
  have allDone : ∀ (listed : Array Bool), listed.size = ops.size → Region.ready .any ops listed = [] → ∀ i, i < ops.size → listed.getD i false = true := by
    intro listed hsz hr i
    induction i using Nat.strongRecOn with
    | _ i ih =>
      intro hi
      cases hb : listed.getD i false with
      | true => rfl
      | false =>
        exfalso
        obtain ⟨o, ho⟩ := hop i hi
        have hb2 : listed.getD i true = false := by
          have hlt : i < listed.size := by omega
          simp only [Array.getD_eq_getD_getElem?, Array.getElem?_eq_getElem hlt, Option.getD_some] at hb ⊢
          exact hb
        have : i ∈ Region.ready .any ops listed := mem_ready.2 ⟨hb2, o, ho, fun e he hbe => ih e.on (backward_spec hback (by simpa using ho) he hbe) (by have := backward_spec hback (ops := ops.toList) (i := i) (o := o) (by simpa using ho) he hbe; omega)⟩
        rw [hr] at this; cases this
  -- the operations behind, one by one
  have hset0 : ∀ (listed : Array Bool) (i j : Nat), listed.size = ops.size → i < ops.size → ((listed.setIfInBounds i true).getD j false = true ↔ (listed.getD j false = true ∨ j = i)) := fun listed i j hsz hlt => by
    by_cases he : j = i
    · subst he
      have hlt2 : j < listed.size := by omega
      simp [hlt2]
    · rw [getD_set_ne false (Ne.symm he)]; simp [he]
  have hready : ∀ (listed : Array Bool) (i : Nat), listed.size = ops.size → i ∈ Region.ready .any ops listed → i < ops.size ∧ listed.getD i false = false ∧ ∃ o, ops[i]? = some o ∧ ∀ e ∈ o.after, Region.binds .any e = true → listed.getD e.on false = true := fun listed i hsz hi => by
    obtain ⟨h1, o, ho2, hedge⟩ := mem_ready.1 hi
    have hlt : i < ops.size := (Array.getElem?_eq_some_iff.1 ho2).1
    refine ⟨hlt, ?_, o, ho2, fun e he hb => hedge e he hb⟩
    have hlt2 : i < listed.size := by omega
    simp only [Array.getD_eq_getD_getElem?, Array.getElem?_eq_getElem hlt2, Option.getD_some] at h1 ⊢
    exact h1
  have phT : ∀ (fuel m : Nat) (listed : Array Bool) (a : Act) (w : World), listed.size = ops.size → n ≤ m → m ≤ ops.size → (∀ j, j < m → listed.getD j false = true) → (∀ j, m ≤ j → j < ops.size → listed.getD j false = false) → ops.size - m ≤ fuel →
      wpList P ops Qx (ops.toList.drop m) a w → wpAny P .any ops Qx fuel listed a w := by
    intro fuel
    induction fuel with
    | zero =>
      intro m listed a w hsz hnm hm hL hU hf hq
      have hme : m = ops.size := by omega
      subst hme
      have hnil : ops.toList.drop ops.size = [] := List.drop_eq_nil_of_le (by simp)
      rw [hnil] at hq
      refine ⟨?_, hq⟩
      cases hr : Region.ready .any ops listed with
      | nil => rfl
      | cons i r =>
        exfalso
        obtain ⟨h1, h2, _⟩ := hready listed i hsz (by rw [hr]; simp)
        rw [hL i h1] at h2; cases h2
    | succ fuel ih =>
      intro m listed a w hsz hnm hm hL hU hf hq
      refine ⟨fun hr => ?_, fun i hi => ?_⟩
      · have hme : m = ops.size := by
          rcases Nat.lt_or_ge m ops.size with h1 | h1
          · have h2 := allDone listed hsz hr m h1
            rw [hU m (Nat.le_refl _) h1] at h2; cases h2
          · omega
        subst hme
        have hnil : ops.toList.drop ops.size = [] := List.drop_eq_nil_of_le (by simp)
        rw [hnil] at hq
        exact hq
      · obtain ⟨hlt, h2, o, ho, hedge⟩ := hready listed i hsz hi
        have hmi : m ≤ i := by
          rcases Nat.lt_or_ge i m with h1 | h1
          · rw [hL i h1] at h2; cases h2
          · exact h1
        have him : i = m := by
          rcases Nat.lt_or_ge m i with h1 | h1
          · exfalso
            have h5 := List.all_eq_true.1 (hall i (by omega) hlt) m (by simp [h1])
            obtain ⟨e, he, hb, h6⟩ := (ancs_spec ops.toList []).2 i o (by simpa using ho) m (by simpa using h5)
            have hle := hedge e he hb
            have hlt3 := backward_spec hback (by simpa using ho) he hb
            rcases h6 with h6 | h6
            · rw [← h6, hU m (Nat.le_refl _) (by omega)] at hle; cases hle
            · rcases Nat.lt_or_ge e.on m with h7 | h7
              · obtain ⟨o2, ho2⟩ := hop e.on (by omega)
                have : ∀ (x y : Nat), ((ancs ops.toList []).getD x 0).testBit y = true → x < ops.size → y < x := by
                  intro x
                  induction x using Nat.strongRecOn with
                  | _ x ihx =>
                    intro y hy hx
                    obtain ⟨o3, ho3⟩ := hop x hx
                    obtain ⟨e3, he3, hb3, h8⟩ := (ancs_spec ops.toList []).2 x o3 (by simpa using ho3) y (by simpa using hy)
                    have h9 := backward_spec hback (by simpa using ho3) he3 hb3
                    rcases h8 with rfl | h8
                    · exact h9
                    · have := ihx e3.on h9 y h8 (by omega); omega
                have := this e.on m h6 (by omega)
                omega
              · rw [hU e.on h7 (by omega)] at hle; cases hle
          · omega
        subst him
        have hdrop : ops.toList.drop i = o :: ops.toList.drop (i + 1) := by
          have h8 : i < ops.toList.length := by simpa using hlt
          rw [List.drop_eq_getElem_cons h8]
          congr 1
          have : ops[i]? = some ops.toList[i] := by simp
          rw [ho] at this; exact (Option.some.inj this).symm
        rw [hdrop] at hq
        unfold wpOp
        simp only [ho]
        have hq2 : STEP P ops o a w (wpList P ops Qx (ops.toList.drop (i + 1))) Qx := hq
        refine STEP.mono (fun a w hq => ih (i + 1) _ a w (by simp [hsz]) (by omega) (by omega) (fun j hj => ?_) (fun j hj hjl => ?_) (by omega) hq) hq2
        · rcases Nat.lt_or_ge j i with h1 | h1
          · exact (hset0 listed i j hsz hlt).2 (.inl (hL j h1))
          · exact (hset0 listed i j hsz hlt).2 (.inr (by omega))
        · rw [getD_set_ne false (by omega)]; exact hU j (by omega) hjl
  intro fuel
  induction fuel with
  | zero =>
    intro listed β tm bl a w hsz ho hLn hcl H Mt Mb hβ1 hβ2
    exfalso
    have h0 : open_ ops.size listed = 0 := by omega
    have h3 := List.countP_eq_zero.1 h0 n (by simp [hnn])
    have hlt2 : n < listed.size := by omega
    have hLn2 := hLn n (Nat.le_refl _) hnn
    simp only [Array.getD_eq_getD_getElem?, Array.getElem?_eq_getElem hlt2, Option.getD_some] at hLn2 h3
    simp [hLn2] at h3
  | succ fuel ih =>
    intro listed β tm bl a w hsz ho hLn hcl H Mt Mb hβ1 hβ2
    refine ⟨fun hr => absurd (allDone listed hsz hr n hnn) (by rw [hLn n (Nat.le_refl _) hnn]; decide), fun i hi => ?_⟩
    obtain ⟨h1, o, ho2, hedge⟩ := mem_ready.1 hi
    have hlt : i < ops.size := (Array.getElem?_eq_some_iff.1 ho2).1
    have hL : listed.getD i false = false := by
      have hlt2 : i < listed.size := by omega
      simp only [Array.getD_eq_getD_getElem?, Array.getElem?_eq_getElem hlt2, Option.getD_some] at h1 ⊢
      exact h1
    have hnL : ¬ listed.getD i false = true := by rw [hL]; simp
    have hr : ∀ o' e, ops[i]? = some o' → e ∈ o'.after → Region.binds .any e = true → listed.getD e.on false = true := fun o' e h2 h3 h4 => by
      rw [ho2] at h2; cases h2; exact hedge e h3 h4
    have hri := closed listed hcl hLn i hlt hr
    have hcl2 : ∀ j, j < n → listed.getD j false = true → ∀ i', ((ancs ops.toList []).getD j 0).testBit i' = true → listed.getD i' false = true := fun j hj hLj => closed listed hcl hLn j (by omega) (hcl j hj hLj)
    by_cases hgt : n < i
    · exfalso
      have h5 := List.all_eq_true.1 (hall i (by omega) hlt) n (by simp [hgt])
      have h6 := hri n h5
      rw [hLn n (Nat.le_refl _) hnn] at h6; cases h6
    by_cases hin : i = n
    · subst hin
      have hall2 : ∀ j, j < i → listed.getD j false = true := fun j hj => hri j (by
        have h5 := List.all_eq_true.1 (hall i (Nat.le_refl _) hlt) j (by simp [hj]); exact h5)
      have e1 : tm = (σ i).fr.tm := Mt.done hWt hall2
      have e2 : bl = (σ i).bl := Mb.done hWb hall2
      rw [e1, e2] at H
      have hst := hQ β a w H hβ2
      exact phT (fuel + 1) i listed a w hsz (Nat.le_refl _) (by omega) hall2 hLn (by
        have : ops.size - i ≤ open_ ops.size listed := by
          have hsub : (List.range' i (ops.size - i)).Sublist (List.range ops.size) := by
            have h8 := @List.range'_append_1 0 i (ops.size - i)
            rw [Nat.zero_add] at h8
            rw [List.range_eq_range']
            have h9 : i + (ops.size - i) = ops.size := by omega
            rw [h9] at h8
            rw [← h8]; exact List.sublist_append_right _ _
          have hcnt : (List.range' i (ops.size - i)).countP (fun j => !(listed.getD j true)) = ops.size - i := by
            rw [List.countP_eq_length.2, List.length_range']
            intro j hj
            obtain ⟨k, hk1, hk2⟩ := List.mem_range'.1 hj
            have hji : i ≤ j := by omega
            have hjl : j < ops.size := by omega
            have h7 := hLn j hji hjl
            have hlt2 : j < listed.size := by omega
            simp only [Array.getD_eq_getD_getElem?, Array.getElem?_eq_getElem hlt2, Option.getD_some] at h7 ⊢
            simp [h7]
          have := hsub.countP_le (p := fun j => !(listed.getD j true))
          rw [hcnt] at this
          exact this
        omega) hst |> fun h => h.2 i hi
    have hltn : i < n := by omega
    have lookT : ∀ x, x ∈ (F i).rt ∨ x ∈ (F i).wt → tm x = (σ i).fr.tm x := fun x hx =>
      Mt.look (R := fun i => (F i).rt) (D := fun i j => ((ancs ops.toList []).getD j 0).testBit i = true) hWt ct1 ct2 hcl2 hltn hnL hri hx
    have lookB : ∀ x, x ∈ (F i).rb ∨ x ∈ (F i).wb → bl x = (σ i).bl x := fun x hx =>
      Mb.look (R := fun i => (F i).rb) (D := fun i j => ((ancs ops.toList []).getD j 0).testBit i = true) hWb cb1 cb2 hcl2 hltn hnL hri hx
    have hst := hs i o hltn ho2
    have hnb := hid i (by omega)
    have hset : ∀ j, (listed.setIfInBounds i true).getD j false = true ↔ (listed.getD j false = true ∨ j = i) := fun j => by
      by_cases he : j = i
      · subst he
        have hlt2 : j < listed.size := by omega
        simp [hlt2]
      · rw [getD_set_ne false (Ne.symm he)]; simp [he]
    have hstep : STEP P ops o a w (wpAny P .any ops Qx fuel (listed.setIfInBounds i true)) Qx := by
      refine hst.ok ρ (Ext.refl _) w0 ok0 fs stk β tm bl a w (by rw [hnt i (by omega)]; exact H) (fun t ht => lookT t (.inl ht)) (fun k hk => lookB k (.inl hk)) (by rw [hnb]; exact hβ1 i hltn hL) ?_ _ Qx fun a' β' w' H' hβ3 hβ4 => ?_
      · rw [lookB _ (.inr hst.me)]; exact hbl0 i (by omega) _ (Nat.le_refl _)
      rw [hnt i (by omega)] at H'
      refine ih (listed.setIfInBounds i true) β' _ _ a' w' (by simp [hsz]) ?_ (fun j hj hjl => by rw [getD_set_ne false (by omega)]; exact hLn j hj hjl) ?_ H' (Mt.put (R := fun i => (F i).rt) (D := fun i j => ((ancs ops.toList []).getD j 0).testBit i = true) ct2 hcl2 hltn hnL hset)
        (Mb.put (R := fun i => (F i).rb) (D := fun i j => ((ancs ops.toList []).getD j 0).testBit i = true) cb2 hcl2 hltn hnL hset) (fun j hj hLj => ?_) (fun k hk => ?_)
      · have : open_ ops.size (listed.setIfInBounds i true) < open_ ops.size listed := by
          refine countP_lt (fun j hj hp => ?_) ⟨i, by simp [hlt], by simp [h1], ?_⟩
          · by_cases he : j = i
            · rw [he]; simp [h1]
            · rw [getD_set_ne true (Ne.symm he)] at hp; exact hp
          · have hlt2 : i < listed.size := by omega
            simp [hlt2]
        omega
      · intro j hj hLj o' e h2 h3 h4
        rcases (hset j).1 hLj with h5 | h5
        · exact (hset _).2 (.inl (hcl j hj h5 o' e h2 h3 h4))
        · rw [h5] at h2; exact (hset _).2 (.inl (hr o' e h2 h3 h4))
      · have hne : j ≠ i := fun he => by
          have := (hset j).2 (.inr he)
          rw [hLj] at this; cases this
        rw [hβ4 _ (by rw [hnb]; omega)]
        refine hβ1 j hj ?_
        cases hb : listed.getD j false with
        | false => rfl
        | true => have := (hset j).2 (.inl hb); rw [hLj] at this; cases this
      · rw [hβ4 _ (by rw [hnb]; omega)]; exact hβ2 k hk
    unfold wpOp
    simp only [ho2]
    exact hstep

/-- A region that draws its order, with a call at its end that is walked into. -/
theorem region_drawL {id : Nat} {S : St} {ρ : List DV} {ir : IR} {w0 : W0} {ok0 : Nat → Prop} {fs : List (Array Value)} {β : Bm} {a : Act} {w : World} (hm : P.follows .mixedOrders = true) {K : St → Option IR} {Qx : Exit → Act → World → Prop} {inl : Inl} (hinl : InlOK P Q w0 ok0 inl) {n : Nat}
    (hback : backward ops.toList = true) (hnn : n < ops.size) (hlast : ∀ j, n ≤ j → j < ops.size → lastAll (ancs ops.toList []) j = true)
    (h : symDraw P ops (ops.toList.take n) S [] (fun fs S => if apartAll (ancs ops.toList []) fs then symOps P inl ops (ops.toList.drop n) S K else none) = some ir) (hw : IRwp P As ρ ir Q) (hA : As.length = S.dp) (H : AtS w0 ok0 fs S ρ β a w)
    (hK : ∀ a w, Cont P Q w0 ok0 fs S.fr.nt As K a w → Qx .normal a w) : (Code.region id ops true).wp P Qx a w := by
  obtain ⟨σ, F, ρ', ir', h0, hs, hK', hw', hk', hl', hE', hb'⟩ := symDraw_path (ops.toList.take n) S [] ir ρ h hw H.kn H.len H.bln
  have hld : (ops.toList.take n).length = n := by simp; omega
  rw [hld] at hK' hk' hl' hb'
  simp only [List.nil_append] at hK'
  have hs' : ∀ i o, i < n → ops[i]? = some o → Stp P ops o (σ i) (σ (i + 1)) (F i) ρ' := fun i o hi ho => hs i o (by
    rw [List.getElem?_take]; simp [hi]; simpa using ho)
  have hop : ∀ i, i < ops.size → ∃ o, ops[i]? = some o := fun i hi => ⟨ops[i], by simp [hi]⟩
  split at hK'
  · rename_i hap
    have hfix : ∀ i, i ≤ n → (σ i).fr.nt = S.fr.nt ∧ (σ i).nb = S.nb + i ∧ (σ i).stk = S.stk ∧ (σ i).dp = S.dp ∧ ∀ k, (σ i).nb ≤ k → (σ i).bl k = none := by
      intro i
      induction i with
      | zero => intro _; rw [h0]; exact ⟨rfl, rfl, rfl, rfl, H.bln⟩
      | succ i ih =>
        intro hi
        obtain ⟨i1, i2, i3, i4, i5⟩ := ih (by omega)
        obtain ⟨o, ho⟩ := hop i (by omega)
        have hn := (hs' i o (by omega) ho).nx
        exact ⟨by rw [hn.nt, i1], by rw [hn.nb, i2]; omega, by rw [hn.stk, i3], by rw [hn.dp, i4], fun k hk => hn.bln k (by rw [hn.nb] at hk; exact hk)⟩
    obtain ⟨n1, n2, n3, n4, n5⟩ := hfix n (Nat.le_refl _)
    have hrep : ∀ j, (Array.replicate ops.size false).getD j false = false := fun j => by
      by_cases hj : j < ops.size <;> simp [Array.getD_eq_getD_getElem?, hj]
    refine wp_region_any hm (run_drawL (w0 := w0) (ok0 := ok0) (fs := fs) (stk := S.stk) (nt := S.fr.nt) (base := S.nb) (σ := σ) (F := F) (ρ := ρ') hnn hlast hs' (fun i hi => (hfix i hi).1) (fun i hi => (hfix i hi).2.1) (fun i hi => (hfix i hi).2.2.2.2) hback hap ?_
      ops.size (Array.replicate ops.size false) β S.fr.tm S.bl a _ (by simp) ?_ (fun j _ _ => hrep j) ?_ ?_ ?_ ?_ (fun j hj _ => H.βn _ (by omega)) (fun k hk => H.βn k (by omega)))
    · intro β' a' w' H' hβ'
      have HA : AtS w0 ok0 fs (σ n) ρ' β' a' w' := ⟨by rw [n1, n3]; exact H', hk', hl', n5, fun k hk => hβ' k (by rw [n2] at hk; exact hk)⟩
      exact ops_text hinl (nt := S.fr.nt) (As := As) (fun a w hc => hK a w hc) _ _ ir' As ρ' β' a' w' hK' hw' ⟨[], by simp⟩ (by rw [n4]; exact hA) n1 HA
    · refine Nat.le_trans (List.countP_le_length) (by simp)
    · intro j hj hl; rw [hrep] at hl; cases hl
    · exact (H.rm.env hE').grow ⟨⟨rfl, rfl, rfl, Nat.le_refl _, fun _ _ => rfl⟩, Nat.le_succ _⟩
    · have : (fun i => (σ i).fr.tm) 0 = S.fr.tm := by simp only [h0]
      rw [← this]
      exact Mem.start fun j hj hl => by rw [hrep] at hl; cases hl
    · have : (fun i => (σ i).bl) 0 = S.bl := by simp only [h0]
      rw [← this]
      exact Mem.start fun j hj hl => by rw [hrep] at hl; cases hl
  · cases hK'

end
end Go.Px
/- Px19: templates: a state that fits one is as it says. -/
set_option linter.unusedSimpArgs false
set_option linter.unusedVariables false
namespace Go.Px
open Go.RowKit

structure Mt.le (m M : Mt) : Prop where
  vals : ∀ i a, alook m.vals i = some a → alook M.vals i = some a
  ren : ∀ k j, alook m.ren k = some j → alook M.ren k = some j
theorem Mt.le.refl (m : Mt) : m.le m := ⟨fun _ _ h => h, fun _ _ h => h⟩
theorem Mt.le.trans {a b c : Mt} (h : a.le b) (k : b.le c) : a.le c := ⟨fun i x hx => k.vals i x (h.vals i x hx), fun i x hx => k.ren i x (h.ren i x hx)⟩

def Mt.inj (m : Mt) : Prop := ∀ k k' j, alook m.ren k = some (some j) → alook m.ren k' = some (some j) → k = k'

def AF (M : Mt) (t a : A) : Prop := match t with | .var i => alook M.vals i = some a | t => t = a
def BF (M : Mt) (k : Nat) (j : Option Nat) : Prop := alook M.ren k = some j
def CF (M : Mt) : C → C → Prop
  | .unk, _ => True
  | .at a, .at b => AF M a b
  | .at a, .nils => AF M a .nil
  | .at a, .ful b => AF M a b
  | .nils, .nils => True
  | .ful a, .ful b => AF M a b
  | .ful a, .nils => AF M a .nil
  | .lp k o, .lp j o' => o = o' ∧ BF M k (some j)
  | .fp x i s o, .fp y j s' o' => s = s' ∧ o = o' ∧ AF M x y ∧ AF M i j
  | .own k, .own j => BF M k (some j)
  | .own k, .nils => BF M k none
  | .op k i s o, .op l j s' o' => s = s' ∧ o = o' ∧ BF M k (some l) ∧ AF M i j
  | .sub k x n s, .sub l y q s' => s = s' ∧ BF M k (some l) ∧ AF M x y ∧ AF M n q
  | .fn f ks, .fn g js => f = g ∧ ks.length = js.length ∧ ∀ (n k : Nat), ks[n]? = some k → ∃ j, js[n]? = some j ∧ BF M k (some j)
  | .np, .np => True
  | .und, .und => True
  | _, _ => False
def CsF (M : Mt) (ts cs : List C) : Prop := ts.length = cs.length ∧ ∀ (n : Nat) (t : C), ts[n]? = some t → ∃ c, cs[n]? = some c ∧ CF M t c
def S1F (M : Mt) : S1 → S1 → Prop
  | .one t, .one c => CF M t c
  | .agg ts, .agg cs => CsF M ts cs
  | _, _ => False
def SVF (M : Mt) : SV → SV → Prop
  | .s t, .s c => S1F M t c
  | .tup ts, .tup cs => ts.length = cs.length ∧ ∀ (n : Nat) (t : S1), ts[n]? = some t → ∃ c, cs[n]? = some c ∧ S1F M t c
  | _, _ => False

/-- A step of the matching. -/
structure Mok (m m' : Mt) (F : Mt → Prop) : Prop where
  le : m.le m'
  inj : m.inj → m'.inj
  fit : ∀ M, m'.le M → F M

theorem Mok.two {m m1 m2 : Mt} {F G : Mt → Prop} (h : Mok m m1 F) (k : Mok m1 m2 G) : Mok m m2 (fun M => F M ∧ G M) :=
  ⟨h.le.trans k.le, fun hi => k.inj (h.inj hi), fun M hM => ⟨h.fit M (k.le.trans hM), k.fit M hM⟩⟩
theorem Mok.imp {m m1 : Mt} {F G : Mt → Prop} (h : Mok m m1 F) (k : ∀ M, F M → G M) : Mok m m1 G := ⟨h.le, h.inj, fun M hM => k M (h.fit M hM)⟩
theorem Mok.refl (m : Mt) {F : Mt → Prop} (h : ∀ M, F M) : Mok m m F := ⟨Mt.le.refl m, id, fun M _ => h M⟩

theorem Mt.atom_ok {m m' : Mt} {t a : A} (h : m.atom t a = some m') : Mok m m' (fun M => AF M t a) := by
  cases t with
  | var i =>
    simp only [Mt.atom] at h
    split at h
    · rename_i b hb
      split at h
      · rename_i he
        cases h
        exact ⟨Mt.le.refl m, id, fun M hM => hM.vals _ _ (by rw [hb, he])⟩
      · cases h
    · rename_i hb
      cases h
      refine ⟨⟨fun j b hj => ?_, fun _ _ h => h⟩, id, fun M hM => hM.vals i a (by simp [alook])⟩
      simp only [alook]
      split
      · rename_i he; rw [he, hb] at hj; cases hj
      · exact hj
  | _ =>
    simp only [Mt.atom] at h
    split at h
    · rename_i he
      cases h
      exact Mok.refl m fun M => he
    · cases h

theorem Mt.blk_ok {m m' : Mt} {k : Nat} {j : Option Nat} (h : m.blk k j = some m') : Mok m m' (fun M => BF M k j) := by
  simp only [Mt.blk] at h
  split at h
  · rename_i b hb
    split at h
    · rename_i he
      cases h
      exact ⟨Mt.le.refl m, id, fun M hM => hM.ren _ _ (by rw [hb, he])⟩
    · cases h
  · rename_i hb
    split at h
    · cases h
    · rename_i hno
      cases h
      refine ⟨⟨fun _ _ h => h, fun i x hi => ?_⟩, fun hinj => ?_, fun M hM => hM.ren k j (by simp [alook])⟩
      · simp only [alook]
        split
        · rename_i he; rw [he, hb] at hi; cases hi
        · exact hi
      · have hmem : ∀ (l : List (Nat × Option Nat)) i x, alook l i = some x → (i, x) ∈ l := by
          intro l
          induction l with
          | nil => intro i x h; cases h
          | cons p r ih =>
            intro i x h
            obtain ⟨p1, p2⟩ := p
            simp only [alook] at h
            split at h
            · rename_i he; cases h; rw [he]; simp
            · exact List.mem_cons_of_mem _ (ih i x h)
        have hfresh : ∀ i x, alook m.ren i = some (some x) → j ≠ some x := by
          intro i x hi he
          refine hno (List.any_eq_true.2 ⟨(i, some x), hmem _ _ _ hi, ?_⟩)
          simp [he]
        intro i i' x h1 h2
        simp only [alook] at h1 h2
        split at h1
        · rename_i e1
          split at h2
          · rename_i e2; rw [e1, e2]
          · simp only [Option.some.injEq] at h1
            exact absurd h1 (hfresh _ _ h2)
        · split at h2
          · simp only [Option.some.injEq] at h2
            exact absurd h2 (hfresh _ _ h1)
          · exact hinj i i' x h1 h2

theorem Mt.blks_ok : ∀ {ks js : List Nat} {m m' : Mt}, m.blks ks js = some m' → Mok m m' (fun M => ks.length = js.length ∧ ∀ (n k : Nat), ks[n]? = some k → ∃ j, js[n]? = some j ∧ BF M k (some j))
  | [], [], m, m', h => by simp only [Mt.blks] at h; cases h; exact Mok.refl m fun M => ⟨rfl, fun n k hk => by simp at hk⟩
  | [], _ :: _, m, m', h => by simp only [Mt.blks] at h; cases h
  | _ :: _, [], m, m', h => by simp only [Mt.blks] at h; cases h
  | k :: r, j :: q, m, m', h => by
    simp only [Mt.blks, Option.bind_eq_some_iff] at h
    obtain ⟨m1, h1, h2⟩ := h
    refine ((Mt.blk_ok h1).two (Mt.blks_ok h2)).imp fun M ⟨a, b, c⟩ => ⟨by simp [b], fun n k' hk => ?_⟩
    cases n with
    | zero => simp at hk; subst hk; exact ⟨j, by simp, a⟩
    | succ n => simpa using c n k' (by simpa using hk)

theorem Mt.cell_ok {m m' : Mt} {t c : C} (h : m.cell t c = some m') : Mok m m' (fun M => CF M t c) := by
  unfold Mt.cell at h
  split at h
  · cases h; exact Mok.refl m fun M => by simp [CF]
  · exact (Mt.atom_ok h).imp fun M hM => by simpa [CF] using hM
  · exact (Mt.atom_ok h).imp fun M hM => by simpa [CF] using hM
  · exact (Mt.atom_ok h).imp fun M hM => by simpa [CF] using hM
  · cases h; exact Mok.refl m fun M => by simp [CF]
  · exact (Mt.atom_ok h).imp fun M hM => by simpa [CF] using hM
  · exact (Mt.atom_ok h).imp fun M hM => by simpa [CF] using hM
  · split at h
    · rename_i he
      exact (Mt.blk_ok h).imp fun M hM => ⟨he, hM⟩
    · cases h
  · split at h
    · rename_i he
      simp only [Option.bind_eq_some_iff] at h
      obtain ⟨m1, h1, h2⟩ := h
      exact ((Mt.atom_ok h1).two (Mt.atom_ok h2)).imp fun M ⟨a, b⟩ => ⟨he.1, he.2, a, b⟩
    · cases h
  · exact (Mt.blk_ok h).imp fun M hM => hM
  · exact (Mt.blk_ok h).imp fun M hM => hM
  · split at h
    · rename_i he
      simp only [Option.bind_eq_some_iff] at h
      obtain ⟨m1, h1, h2⟩ := h
      exact ((Mt.blk_ok h1).two (Mt.atom_ok h2)).imp fun M ⟨a, b⟩ => ⟨he.1, he.2, a, b⟩
    · cases h
  · split at h
    · rename_i he
      simp only [Option.bind_eq_some_iff] at h
      obtain ⟨m1, h1, m2, h2, h3⟩ := h
      exact ((Mt.blk_ok h1).two ((Mt.atom_ok h2).two (Mt.atom_ok h3))).imp fun M ⟨a, b, c⟩ => ⟨he, a, b, c⟩
    · cases h
  · split at h
    · rename_i he
      exact (Mt.blks_ok h).imp fun M ⟨a, b⟩ => ⟨he, a, b⟩
    · cases h
  · cases h; exact Mok.refl m fun M => by simp [CF]
  · cases h; exact Mok.refl m fun M => by simp [CF]
  · cases h

theorem Mt.cells_ok : ∀ {ts cs : List C} {m m' : Mt}, m.cells ts cs = some m' → Mok m m' (fun M => CsF M ts cs)
  | [], [], m, m', h => by simp only [Mt.cells] at h; cases h; exact Mok.refl m fun M => ⟨rfl, fun n k hk => by simp at hk⟩
  | [], _ :: _, m, m', h => by simp only [Mt.cells] at h; cases h
  | _ :: _, [], m, m', h => by simp only [Mt.cells] at h; cases h
  | k :: r, j :: q, m, m', h => by
    simp only [Mt.cells, Option.bind_eq_some_iff] at h
    obtain ⟨m1, h1, h2⟩ := h
    refine ((Mt.cell_ok h1).two (Mt.cells_ok h2)).imp fun M ⟨a, b, c⟩ => ⟨by simp [b], fun n k' hk => ?_⟩
    cases n with
    | zero => simp at hk; subst hk; exact ⟨j, by simp, a⟩
    | succ n => simpa using c n k' (by simpa using hk)

theorem Mt.s1_ok {m m' : Mt} {t c : S1} (h : m.s1 t c = some m') : Mok m m' (fun M => S1F M t c) := by
  cases t <;> cases c <;> simp only [Mt.s1] at h
  · exact Mt.cell_ok h
  · cases h
  · cases h
  · exact Mt.cells_ok h

theorem Mt.s1s_ok : ∀ {ts cs : List S1} {m m' : Mt}, m.s1s ts cs = some m' → Mok m m' (fun M => ts.length = cs.length ∧ ∀ (n : Nat) (t : S1), ts[n]? = some t → ∃ c, cs[n]? = some c ∧ S1F M t c)
  | [], [], m, m', h => by simp only [Mt.s1s] at h; cases h; exact Mok.refl m fun M => ⟨rfl, fun n k hk => by simp at hk⟩
  | [], _ :: _, m, m', h => by simp only [Mt.s1s] at h; cases h
  | _ :: _, [], m, m', h => by simp only [Mt.s1s] at h; cases h
  | k :: r, j :: q, m, m', h => by
    simp only [Mt.s1s, Option.bind_eq_some_iff] at h
    obtain ⟨m1, h1, h2⟩ := h
    refine ((Mt.s1_ok h1).two (Mt.s1s_ok h2)).imp fun M ⟨a, b, c⟩ => ⟨by simp [b], fun n k' hk => ?_⟩
    cases n with
    | zero => simp at hk; subst hk; exact ⟨j, by simp, a⟩
    | succ n => simpa using c n k' (by simpa using hk)

theorem Mt.sv_ok {m m' : Mt} {t c : SV} (h : m.sv t c = some m') : Mok m m' (fun M => SVF M t c) := by
  cases t <;> cases c <;> simp only [Mt.sv] at h
  · exact Mt.s1_ok h
  · cases h
  · cases h
  · exact Mt.s1s_ok h

def FrF (M : Mt) (tm : Nat → Option SV) (l : List (Nat × SV)) : Prop := ∀ t v, alook l t = some v → ∃ v', tm t = some v' ∧ SVF M v v'

theorem Mt.frame_ok : ∀ {l : List (Nat × SV)} {tm : Nat → Option SV} {m m' : Mt}, m.frame tm l = some m' → Mok m m' (fun M => FrF M tm l)
  | [], tm, m, m', h => by simp only [Mt.frame] at h; cases h; exact Mok.refl m fun M t v hv => by cases hv
  | (t, v) :: r, tm, m, m', h => by
    simp only [Mt.frame] at h
    split at h
    · rename_i v' hv'
      simp only [Option.bind_eq_some_iff] at h
      obtain ⟨m1, h1, h2⟩ := h
      refine ((Mt.sv_ok h1).two (Mt.frame_ok h2)).imp fun M ⟨a, b⟩ t' u hu => ?_
      simp only [alook] at hu
      split at hu
      · rename_i he; cases hu; rw [he]; exact ⟨v', hv', a⟩
      · exact b t' u hu
    · cases h

def FrsF (M : Mt) : List (List (Nat × SV)) → List Frm → Prop
  | [], [] => True
  | t :: r, f :: q => FrF M f.tm t ∧ FrsF M r q
  | _, _ => False

theorem Mt.frames_ok : ∀ {l : List (List (Nat × SV))} {q : List Frm} {m m' : Mt}, m.frames l q = some m' → Mok m m' (fun M => FrsF M l q)
  | [], [], m, m', h => by simp only [Mt.frames] at h; cases h; exact Mok.refl m fun M => trivial
  | [], _ :: _, m, m', h => by simp only [Mt.frames] at h; cases h
  | _ :: _, [], m, m', h => by simp only [Mt.frames] at h; cases h
  | k :: r, j :: q, m, m', h => by
    simp only [Mt.frames, Option.bind_eq_some_iff] at h
    obtain ⟨m1, h1, h2⟩ := h
    exact (Mt.frame_ok h1).two (Mt.frames_ok h2)

/-- How a template's block lies in the state. -/
def BkF (M : Mt) (bl : Nat → Option Blk) (k : Nat) (b : Blk) : Prop :=
  (∃ j, BF M k (some j) ∧ match b, bl j with
    | .box ts T ro, some (.box cs U ro') => T = U ∧ ro = ro' ∧ CsF M ts cs
    | .own x s E, some (.own y s' E') => s = s' ∧ E = E' ∧ AF M x y
    | .fro x, some (.fro y) => AF M x y
    | _, _ => False) ∨
  (BF M k none ∧ ∃ x s E, b = .own x s E ∧ AF M x .nil)

theorem Mt.bls_ok {bl : Nat → Option Blk} : ∀ {l : List (Nat × Blk)} {m m' : Mt}, m.bls bl l = some m' → Mok m m' (fun M => ∀ p ∈ l, BkF M bl p.1 p.2)
  | [], m, m', h => by simp only [Mt.bls] at h; cases h; exact Mok.refl m fun M p hp => by cases hp
  | (k, b) :: r, m, m', h => by
    simp only [Mt.bls] at h
    split at h
    · rename_i j hj
      simp only [Option.bind_eq_some_iff] at h
      obtain ⟨m1, h1, h2⟩ := h
      have h1' : Mok m m1 (fun M => BkF M bl k b) := by
        have hk : ∀ M, m1.le M → m.le m1 → BF M k (some j) := fun M h3 h4 => h3.ren _ _ (h4.ren _ _ hj)
        split at h1
        · split at h1
          · rename_i hb he
            have hh := Mt.cells_ok h1
            exact ⟨hh.le, hh.inj, fun M hM => .inl ⟨j, hk M hM hh.le, by rw [hb]; exact ⟨he.1, he.2, hh.fit M hM⟩⟩⟩
          · cases h1
        · split at h1
          · rename_i hb he
            have hh := Mt.atom_ok h1
            exact ⟨hh.le, hh.inj, fun M hM => .inl ⟨j, hk M hM hh.le, by rw [hb]; exact ⟨he.1, he.2, hh.fit M hM⟩⟩⟩
          · cases h1
        · rename_i hb
          have hh := Mt.atom_ok h1
          exact ⟨hh.le, hh.inj, fun M hM => .inl ⟨j, hk M hM hh.le, by rw [hb]; exact hh.fit M hM⟩⟩
        · cases h1
      refine (h1'.two (Mt.bls_ok h2)).imp fun M ⟨a, c⟩ p hp => ?_
      rcases List.mem_cons.1 hp with rfl | hp
      · exact a
      · exact c p hp
    · rename_i hj
      simp only [Option.bind_eq_some_iff] at h
      obtain ⟨m1, h1, h2⟩ := h
      have h1' : Mok m m1 (fun M => BkF M bl k b) := by
        split at h1
        · have hh := Mt.atom_ok h1
          exact ⟨hh.le, hh.inj, fun M hM => .inr ⟨hM.ren _ _ (hh.le.ren _ _ hj), _, _, _, rfl, hh.fit M hM⟩⟩
        · cases h1
      refine (h1'.two (Mt.bls_ok h2)).imp fun M ⟨a, c⟩ p hp => ?_
      rcases List.mem_cons.1 hp with rfl | hp
      · exact a
      · exact c p hp
    · cases h

end Go.Px
/- Px20: a state that fits a template is as the template says. -/
set_option linter.unusedSimpArgs false
set_option linter.unusedVariables false
namespace Go.Px
open Go.RowKit

/-- The places, renamed. -/
def renB (M : Mt) (β : Bm) (k : Nat) : Option Value :=
  match alook M.ren k with
  | some (some j) => β j
  | some none => some (.slice none 0 0)
  | none => none

theorem alook_mem {α : Type} : ∀ {l : List (Nat × α)} {i : Nat} {x : α}, alook l i = some x → (i, x) ∈ l
  | [], i, x, h => by cases h
  | (j, y) :: r, i, x, h => by
    simp only [alook] at h
    split at h
    · rename_i he; cases h; rw [he]; simp
    · exact List.mem_cons_of_mem _ (alook_mem h)

section
variable {w0 : W0} {ok0 : Nat → Prop} {fs : List (Array Value)} {stk : List Frm} {ρ ds : List DV} {β : Bm} {nt : Nat} {tm : Nat → Option SV} {bl bl' : Nat → Option Blk} {a : Act} {w : World} {M : Mt} {ok ok' : Nat → Prop}

/-- The new environment says of a template's atom what the old one said of the state's. -/
def Env (M : Mt) (ρ ds : List DV) : Prop := ∀ t a d, AF M t a → a.rd ρ = some d → t.rd ds = some d

theorem CF.rep (hE : Env M ρ ds) (hok : ∀ b, ok b → ok' b) (hna : ∀ k v, β k = some v → v.notAgg) {t c : C} {v : Value} (hf : CF M t c) (h : CRep ρ β ok w c v) : CRep ds (renB M β) ok' w t v := by
  have hm : ∀ {d : DV} {v : Value}, Reads ok w d v → Reads ok' w d v := fun h => h.mono hok
  have nilr : ∀ {x : A}, AF M x .nil → ∃ d, x.rd ds = some d ∧ Reads ok' w d (.slice none 0 0) := fun hx =>
    ⟨.list 0 [], hE _ _ _ hx rfl, .list 0 [] none 0 (fun _ => undef) (Nat.le_refl _) (fun h => absurd rfl h) (fun j d hj => by simp at hj)⟩
  cases t with
  | unk => exact CRep.notAgg h hna
  | «at» x =>
    cases c <;> simp only [CF] at hf
    case «at» y => obtain ⟨d, hd, hr⟩ := h; exact ⟨d, hE _ _ _ hf hd, hm hr⟩
    case nils => simp only [CRep] at h; subst h; exact nilr hf
    case ful y => obtain ⟨d, hd, hr, _⟩ := h; exact ⟨d, hE _ _ _ hf hd, hm hr⟩
  | nils => cases c <;> simp only [CF] at hf; exact h
  | ful x =>
    cases c <;> simp only [CF] at hf
    case nils =>
      simp only [CRep] at h; subst h
      obtain ⟨d, h1, h2⟩ := nilr hf
      exact ⟨d, h1, h2, none, 0, rfl⟩
    case ful y => obtain ⟨d, hd, hr, hh⟩ := h; exact ⟨d, hE _ _ _ hf hd, hm hr, hh⟩
  | lp k o =>
    cases c <;> simp only [CF] at hf
    case lp j o' =>
      obtain ⟨rfl, hk⟩ := hf
      obtain ⟨b, hb, hv⟩ := h
      exact ⟨b, by simp only [renB]; rw [hk]; exact hb, hv⟩
  | fp x i s o =>
    cases c <;> simp only [CF] at hf
    case fp y j s' o' =>
      obtain ⟨rfl, rfl, h1, h2⟩ := hf
      obtain ⟨n, cells, kI, iv, ad, cap, g1, g2, g3, g4, g5, g6, g7⟩ := h
      exact ⟨n, cells, kI, iv, ad, cap, hE _ _ _ h1 g1, hE _ _ _ h2 g2, g3, g4, g5, hm g6, g7⟩
  | own k =>
    cases c <;> simp only [CF] at hf
    case own j => simp only [CRep, renB] at h ⊢; rw [hf]; exact h
    case nils => simp only [CRep, renB] at h ⊢; rw [hf, h]
  | op k i s o =>
    cases c <;> simp only [CF] at hf
    case op j i' s' o' =>
      obtain ⟨rfl, rfl, h1, h2⟩ := hf
      obtain ⟨b, n, cap, kI, iv, g1, g2, g3, g4, g5⟩ := h
      exact ⟨b, n, cap, kI, iv, by simp only [renB]; rw [h1]; exact g1, hE _ _ _ h2 g2, g3, g4, g5⟩
  | sub k lo n s =>
    cases c <;> simp only [CF] at hf
    case sub j lo' n' s' =>
      obtain ⟨rfl, h1, h2, h3⟩ := hf
      obtain ⟨adk, nk, capk, kI, lv, kJ, nv, ad, cap, g1, g2, g3, g4⟩ := h
      exact ⟨adk, nk, capk, kI, lv, kJ, nv, ad, cap, by simp only [renB]; rw [h1]; exact g1, hE _ _ _ h2 g2, hE _ _ _ h3 g3, g4⟩
  | fn f ks =>
    cases c <;> simp only [CF] at hf
    case fn g js =>
      obtain ⟨rfl, h1, h2⟩ := hf
      obtain ⟨caps, g1, g2, g3⟩ := h
      refine ⟨caps, g1, by rw [g2, h1], fun n k hk => ?_⟩
      obtain ⟨j, hj, hb⟩ := h2 n k hk
      obtain ⟨b, e1, e2⟩ := g3 n j hj
      exact ⟨b, by simp only [renB]; rw [hb]; exact e1, e2⟩
  | np => cases c <;> simp only [CF] at hf; exact h
  | und => cases c <;> simp only [CF] at hf; exact h

theorem CsF.rep (hE : Env M ρ ds) (hok : ∀ b, ok b → ok' b) (hna : ∀ k v, β k = some v → v.notAgg) {ts cs : List C} {arr : Array Value} (hf : CsF M ts cs) (h : CsRep ρ β ok w cs arr) : CsRep ds (renB M β) ok' w ts arr :=
  ⟨by rw [h.1, hf.1], fun n t ht => let ⟨c, hc, hcf⟩ := hf.2 n t ht; let ⟨u, hu, hr⟩ := h.2 n c hc; ⟨u, hu, hcf.rep hE hok hna hr⟩⟩

theorem S1F.rep (hE : Env M ρ ds) (hok : ∀ b, ok b → ok' b) (hna : ∀ k v, β k = some v → v.notAgg) {t c : S1} {v : Value} (hf : S1F M t c) (h : S1Rep ρ β ok w c v) : S1Rep ds (renB M β) ok' w t v := by
  cases t <;> cases c <;> simp only [S1F] at hf
  · exact CF.rep hE hok hna hf h
  · obtain ⟨vs, hv, hr⟩ := h; exact ⟨vs, hv, hf.rep hE hok hna hr⟩

theorem SVF.rep (hE : Env M ρ ds) (hok : ∀ b, ok b → ok' b) (hna : ∀ k v, β k = some v → v.notAgg) {t c : SV} {v : Value} (hf : SVF M t c) (h : SVRep ρ β ok w c v) : SVRep ds (renB M β) ok' w t v := by
  cases t <;> cases c <;> simp only [SVF] at hf
  · exact S1F.rep hE hok hna hf h
  · obtain ⟨vs, hv, hs, hr⟩ := h
    exact ⟨vs, hv, by rw [hs, hf.1], fun n t ht => let ⟨c, hc, hcf⟩ := hf.2 n t ht; let ⟨u, hu, hq⟩ := hr n c hc; ⟨u, hu, hcf.rep hE hok hna hq⟩⟩

theorem FrF.rep (hE : Env M ρ ds) (hok : ∀ b, ok b → ok' b) (hna : ∀ k v, β k = some v → v.notAgg) {l : List (Nat × SV)} {arr : Array Value} (hf : FrF M tm l) (h : TmRep ρ β ok w tm arr) : TmRep ds (renB M β) ok' w (alook l) arr :=
  fun t sv ht => let ⟨v', hv', hs⟩ := hf t sv ht; let ⟨u, hu, hr⟩ := h t v' hv'; ⟨u, hu, hs.rep hE hok hna hr⟩

theorem FrsF.rep (hE : Env M ρ ds) (hok : ∀ b, ok b → ok' b) (hna : ∀ k v, β k = some v → v.notAgg) : ∀ {l : List (List (Nat × SV))} {q q0 : List Frm} {fs : List (Array Value)}, FrsF M l q → StkRep ρ β ok w q fs → (q0.map (·.nt) = q.map (·.nt)) →
    StkRep ds (renB M β) ok' w (List.zipWith (fun l f => { f with tm := alook l }) l q0) fs
  | [], [], q0, [], _, _, hq => by
    cases q0 with
    | nil => trivial
    | cons f r => simp at hq
  | [], [], _, _ :: _, _, h, _ => h.elim
  | [], _ :: _, _, _, hf, _, _ => hf.elim
  | _ :: _, [], _, _, hf, _, _ => hf.elim
  | t :: r, f :: q, q0, [], _, h, _ => h.elim
  | t :: r, f :: q, q0, x :: xs, ⟨hf1, hf2⟩, ⟨h1, h2, h3⟩, hq => by
    cases q0 with
    | nil => simp at hq
    | cons f0 q0 =>
      simp only [List.map_cons, List.cons.injEq] at hq
      exact ⟨hf1.rep hE hok hna h1, by rw [h2, ← hq.1], FrsF.rep hE hok hna hf2 h3 hq.2⟩

theorem bkF_mut {k : Nat} {b : Blk} {j : Nat} (h : BkF M bl k b) (hk : alook M.ren k = some (some j)) : ∃ b', bl j = some b' ∧ b'.mut = b.mut := by
  rcases h with ⟨j', hj', hm⟩ | ⟨h1, _⟩
  · have : j' = j := by have := hj'.symm.trans hk; simpa using this
    subst this
    split at hm
    · rename_i hb; exact ⟨_, hb, by simp [Blk.mut, hm.2.1]⟩
    · rename_i hb; exact ⟨_, hb, rfl⟩
    · rename_i hb; exact ⟨_, hb, rfl⟩
    · exact hm.elim
  · have := h1.symm.trans hk; simp at this

theorem fit_rm (H : RM w0 ok0 fs stk ρ β nt tm bl a w) (hE : Env M ρ ds) (hinj : M.inj) {lt : List (Nat × SV)} {ls : List (List (Nat × SV))} {lb : List (Nat × Blk)} {stk0 : List Frm} (h1 : FrF M tm lt) (h2 : FrsF M ls stk) (h3 : ∀ p ∈ lb, BkF M bl p.1 p.2)
    (hst : stk0.map (·.nt) = stk.map (·.nt)) :
    RM w0 ok0 fs (List.zipWith (fun l f => { f with tm := alook l }) ls stk0) ds (renB M β) nt (alook lt) (alook lb) a w := by
  have hna : ∀ k v, β k = some v → v.notAgg := fun k v h => notAgg_of_one (H.na k v h)
  have hren : ∀ k v, renB M β k = some v → (∃ j, alook M.ren k = some (some j) ∧ β j = some v) ∨ v = .slice none 0 0 := fun k v hk => by
    simp only [renB] at hk
    split at hk
    · rename_i j hj; exact .inl ⟨j, hj, hk⟩
    · cases hk; exact .inr rfl
    · cases hk
  have hok : ∀ b, okS w0 ok0 bl β b → okS w0 ok0 (alook lb) (renB M β) b := fun b hb => ⟨hb.1, fun k blk v hk hm hv he => by
    rcases hren k v hv with ⟨j, hj, hβj⟩ | rfl
    · obtain ⟨b', hb', hm'⟩ := bkF_mut (h3 _ (alook_mem hk)) hj
      exact hb.2 j b' v hb' (by rw [hm']; exact hm) hβj he
    · cases he⟩
  refine { sz := H.sz, df := H.df, htm := h1.rep hE hok hna H.htm, hst := h2.rep hE hok hna H.hst hst, hbl := fun k b hk => ?_, inj := fun k k' b b' v v' m e1 m1 e2 m2 f1 f2 g1 g2 => ?_, bel := H.bel, na := fun k v hk => ?_ }
  · rcases h3 _ (alook_mem hk) with ⟨j, hj, hm⟩ | ⟨hj, x, s, E, rfl, hx⟩
    · have hrk : renB M β k = β j := by simp only [renB]; rw [hj]
      cases b with
      | box ts T ro =>
        simp only at hm
        split at hm
        · rename_i e1 e2; cases e1
          obtain ⟨rfl, rfl, hcs⟩ := hm
          obtain ⟨b, arr, T', fz, g1, g2, g3, g4, g5⟩ := H.hbl j _ e2
          exact ⟨b, arr, T', fz, by rw [hrk]; exact g1, g2, hcs.rep hE hok hna g3, g4, g5⟩
        · rename_i e1 _; cases e1
        · rename_i e1 _; cases e1
        · exact hm.elim
      | own y s E =>
        simp only at hm
        split at hm
        · rename_i e1 _; cases e1
        · rename_i e1 e2; cases e1
          obtain ⟨rfl, rfl, hx⟩ := hm
          obtain ⟨v, n, cells, g1, g2, xs, g3, g4, g5⟩ := H.hbl j _ e2
          exact ⟨v, n, cells, by rw [hrk]; exact g1, hE _ _ _ hx g2, xs, g3, g4, fun i d hi => let ⟨u, hu, hr⟩ := g5 i d hi; ⟨u, hu, hr.mono hok⟩⟩
        · rename_i e1 _; cases e1
        · exact hm.elim
      | fro y =>
        simp only at hm
        split at hm
        · rename_i e1 _; cases e1
        · rename_i e1 _; cases e1
        · rename_i e1 e2; cases e1
          obtain ⟨v, n, cells, g1, g2, g3, g4⟩ := H.hbl j _ e2
          exact ⟨v, n, cells, by rw [hrk]; exact g1, hE _ _ _ hm g2, g3.mono hok, g4⟩
        · exact hm.elim
    · have hrk : renB M β k = some (.slice none 0 0) := by simp only [renB]; rw [hj]
      exact ⟨_, 0, [], hrk, hE _ _ _ hx rfl, [], World.ownsR_nil w _ _ _, rfl, fun j d hj => by simp at hj⟩
  · rcases hren k v f1 with ⟨j, hj, hβj⟩ | rfl
    · rcases hren k' v' f2 with ⟨j', hj', hβj'⟩ | rfl
      · obtain ⟨x, hx, hmx⟩ := bkF_mut (h3 _ (alook_mem e1)) hj
        obtain ⟨x', hx', hmx'⟩ := bkF_mut (h3 _ (alook_mem e2)) hj'
        have := H.inj j j' x x' v v' m hx (by rw [hmx]; exact m1) hx' (by rw [hmx']; exact m2) hβj hβj' g1 g2
        subst this
        exact hinj k k' j hj hj'
      · cases g2
    · cases g1
  · rcases hren k v hk with ⟨j, _, hβj⟩ | rfl
    · exact H.na j v hβj
    · rfl

end

theorem stk_nts {w0 : W0} {ρ : List DV} {β : Bm} {ok : Nat → Prop} {w : World} : ∀ {q : List Frm} {fs : List (Array Value)}, StkRep ρ β ok w q fs → q.map (·.nt) = fs.map (·.size)
  | [], [], _ => rfl
  | [], _ :: _, h => h.elim
  | _ :: _, [], h => h.elim
  | f :: q, x :: xs, ⟨_, h2, h3⟩ => by simp [h2, stk_nts (w0 := w0) h3]

/-- A state that fits. -/
theorem fit0_sound {w0 : W0} {ok0 : Nat → Prop} {fs : List (Array Value)} {S S0 : St} {ρ : List DV} {β : Bm} {a : Act} {w : World} {T : Tmpl} {l : List A} {dp : Nat} (h : T.fit0 S = some l) (hc : T.closed = true) (hl : l.all (A.lt S.nv) = true)
    (H : AtS w0 ok0 fs S ρ β a w) (hnt : S0.fr.nt = S.fr.nt) (hst : S0.stk.map (·.nt) = fs.map (·.size)) : ∃ β', AtS w0 ok0 fs (T.st S0 dp) (l.map (A.ev ρ)) β' a w := by
  simp only [Tmpl.fit0, Option.bind_eq_bind, Option.bind_eq_some_iff] at h
  obtain ⟨m1, h1, m2, h2, m3, h3, h4⟩ := h
  split at h4
  · rename_i hcl
    simp only [Bool.and_eq_true, List.all_eq_true, decide_eq_true_eq] at hcl
    have k1 := Mt.frame_ok h1
    have k2 := Mt.frames_ok h2
    have k3 := Mt.bls_ok h3
    have hinj : m3.inj := k3.inj (k2.inj (k1.inj fun k k' j hk => by cases hk))
    have hout := mapM_get _ _ _ h4
    simp only [List.length_range] at hout
    have hE : Env m3 ρ (l.map (A.ev ρ)) := by
      intro t x d hf hd
      cases t with
      | var i =>
        simp only [AF] at hf
        have hi : i < T.n := hcl.2 _ (alook_mem hf)
        obtain ⟨y, hy, hfy⟩ := hout.2 i i (by simp [hi])
        rw [hf] at hfy; cases hfy
        simp [A.rd, hy, A.ev_of_rd hd]
      | _ =>
        simp only [AF] at hf
        subst hf
        exact hd
    have hR := fit_rm H.rm hE hinj (k1.fit m3 (k2.le.trans k3.le)) (k2.fit m3 k3.le) (k3.fit m3 (Mt.le.refl _)) (stk0 := S0.stk) (by rw [hst, stk_nts (w0 := w0) H.rm.hst])
    refine ⟨renB m3 β, ⟨?_, fun i b hi => (by cases hi), ?_, fun k hk => ?_, fun k hk => ?_⟩⟩
    · show RM w0 ok0 fs _ _ _ S0.fr.nt _ _ a w
      rw [hnt]; exact hR
    · simp [Tmpl.st, hout.1]
    · show alook T.bl k = none
      cases hb : alook T.bl k with
      | none => rfl
      | some b =>
        have := List.all_eq_true.1 hc _ (alook_mem hb)
        simp only [decide_eq_true_eq] at this
        have hk' : T.nb ≤ k := hk
        omega
    · show renB m3 β k = none
      simp only [renB]
      split
      · rename_i j hj
        have := hcl.1 _ (alook_mem hj)
        have hk' : T.nb ≤ k := hk
        simp only at this
        omega
      · rename_i hj
        have := hcl.1 _ (alook_mem hj)
        have hk' : T.nb ≤ k := hk
        simp only at this
        omega
      · rfl
  · cases h4

theorem soft1_sound {w0 : W0} {ok0 : Nat → Prop} {fs : List (Array Value)} {S : St} {ρ : List DV} {β : Bm} {a : Act} {w : World} (t : Nat) (H : AtS w0 ok0 fs S ρ β a w) :
    AtS w0 ok0 fs (S.soft1 t) ρ β a w ∧ (S.soft1 t).fr.nt = S.fr.nt ∧ (S.soft1 t).nv = S.nv := by
  unfold St.soft1
  split
  · rename_i k ht
    split
    · rename_i x S1 hx
      obtain ⟨u, hu, hr⟩ := H.rm.htm t _ ht
      obtain ⟨e1, e2, e3⟩ := toA_sound (w0 := w0) (ok0 := ok0) (fs := fs) (stk := S.stk) (ρ := ρ) (β := β) (nt := S.fr.nt) (tm := S.fr.tm) (bl := S.bl) (a := a) (w := w) hx
      obtain ⟨R, _, d, hd, hrd⟩ := e3 H.rm (fun _ _ => rfl) u hr
      have hp : patch S.bl S1.bl (C.blocks (.own k)) = S1.bl := by
        funext j
        unfold patch
        split
        · rfl
        · rename_i hj; exact (e2 j hj).symm
      rw [hp] at R hrd
      have f1 : S1.fr = S.fr := by rw [e1]
      have f2 : S1.stk = S.stk := by rw [e1]
      have f3 : S1.nv = S.nv := by rw [e1]
      have f4 : S1.nb = S.nb := by rw [e1]
      have f5 : S1.kn = S.kn := by rw [e1]
      refine ⟨⟨?_, by show KnOK S1.kn ρ; rw [f5]; exact H.kn, by show ρ.length = S1.nv; rw [f3]; exact H.len, fun j hj => ?_, fun j hj => H.βn j (by rw [← f4]; exact hj)⟩, by show S1.fr.nt = _; rw [f1], f3⟩
      · show RM w0 ok0 fs S1.stk ρ β S1.fr.nt (upd S1.fr.tm t _) S1.bl a w
        rw [f1, f2]
        have hh : TmRep ρ β (okS w0 ok0 S1.bl β) w (upd S.fr.tm t (some (.s (.one (.at x))))) a.tmps := by
          intro t' sv ht'
          unfold upd at ht'
          split at ht'
          · rename_i he
            cases ht'
            rw [he]
            exact ⟨u, hu, d, hd, hrd⟩
          · exact R.htm t' sv ht'
        exact { R with htm := hh }
      · show S1.bl j = none
        have hj' : S.nb ≤ j := by rw [← f4]; exact hj
        have hn := H.bln j hj'
        by_cases hjk : j ∈ C.blocks (.own k)
        · simp only [C.blocks, List.mem_singleton] at hjk
          subst hjk
          simp [St.toA, hn] at hx
        · rw [e2 j hjk]; exact hn
    · exact ⟨H, rfl, rfl⟩
  · exact ⟨H, rfl, rfl⟩

theorem softs_sound {w0 : W0} {ok0 : Nat → Prop} {fs : List (Array Value)} {ρ : List DV} {β : Bm} {a : Act} {w : World} : ∀ {l : List (Nat × SV)} {S : St}, AtS w0 ok0 fs S ρ β a w →
    AtS w0 ok0 fs (S.softs l) ρ β a w ∧ (S.softs l).fr.nt = S.fr.nt ∧ (S.softs l).nv = S.nv
  | [], S, H => ⟨H, rfl, rfl⟩
  | (t, v) :: r, S, H => by
    unfold St.softs
    split
    · obtain ⟨h1, h2, h3⟩ := soft1_sound t H
      obtain ⟨g1, g2, g3⟩ := softs_sound (l := r) h1
      exact ⟨g1, g2.trans h2, g3.trans h3⟩
    · exact softs_sound (l := r) H

/-- A STATE THAT FITS. -/
theorem fit_sound {w0 : W0} {ok0 : Nat → Prop} {fs : List (Array Value)} {S S0 : St} {ρ : List DV} {β : Bm} {a : Act} {w : World} {T : Tmpl} {l : List A} {dp : Nat} (h : T.fit S = some l) (hc : T.closed = true) (hl : l.all (A.lt S.nv) = true)
    (H : AtS w0 ok0 fs S ρ β a w) (hnt : S0.fr.nt = S.fr.nt) (hst : S0.stk.map (·.nt) = fs.map (·.size)) : ∃ β', AtS w0 ok0 fs (T.st S0 dp) (l.map (A.ev ρ)) β' a w := by
  obtain ⟨h1, h2, h3⟩ := softs_sound (l := T.tm) H
  exact fit0_sound h hc (by rw [h3]; exact hl) h1 (by rw [h2]; exact hnt) hst

end Go.Px
/- Px21: code: the tree tells what the machine does. -/
set_option linter.unusedSimpArgs false
set_option linter.unusedVariables false
namespace Go.Px
open Go.RowKit

/-! ### Loops -/
def LoopAt (P : Program) (c : Code) (Q : Exit → Act → World → Prop) (a : Act) (w : World) : Prop :=
  ∀ (b : Frame) (k : List Item) (cs : List Frame), ∃ e a' w', Q e a' w' ∧ Arrives P (lone (b.at a (.code c :: .inLoop c :: k)) cs w) b k cs e a' w'

section
variable {P : Program} {Q : Exit → Act → World → Prop} {a : Act} {w : World} {c : Code}

theorem LoopAt.wp (h : LoopAt P c Q a w) : (Code.loop c).wp P Q a w := fun b k cs =>
  let ⟨e, a', w', hq, harr⟩ := h b k cs
  ⟨e, a', w', hq, .of_steps (.one step_loop) harr⟩

theorem LoopAt.unroll (h : c.wp P (Exit.then (LoopAt P c Q) Q) a w) : LoopAt P c Q a w := by
  intro b k cs
  obtain ⟨e, a₁, w₁, hq, harr⟩ := h b (.inLoop c :: k) cs
  cases e with
  | normal =>
    obtain ⟨e₂, a₂, w₂, hq₂, harr₂⟩ := hq b k cs
    exact ⟨e₂, a₂, w₂, hq₂, .of_steps (Steps.trans harr (.one step_inLoop)) harr₂⟩
  | exit id => exact ⟨_, a₁, w₁, hq, .pass (x := .inLoop c) rfl (fun _ _ => .inl (by simp)) harr⟩
  | goto l => exact ⟨_, a₁, w₁, hq, .pass (x := .inLoop c) rfl (fun _ _ => .inl (by simp)) harr⟩
  | ret => exact ⟨_, a₁, w₁, hq, .pass (x := .inLoop c) rfl (fun _ _ => .inl (by simp)) harr⟩
  | panic ch => exact ⟨_, a₁, w₁, hq, .pass (x := .inLoop c) rfl (fun _ _ => .inl (by simp)) harr⟩
  | outgrown => exact ⟨_, a₁, w₁, hq, .pass (x := .inLoop c) rfl (fun _ _ => .inl (by simp)) harr⟩

theorem LoopAt.rel (I : Nat → Act → World → Prop) (round : ∀ m a w, I m a w → c.wp P (Exit.then (fun a' w' => ∃ m', m' < m ∧ I m' a' w') Q) a w) : ∀ (m : Nat) (a : Act) (w : World), I m a w → LoopAt P c Q a w := by
  intro m
  induction m using Nat.strongRecOn with
  | _ m ih =>
    intro a w hI
    exact LoopAt.unroll (wp_mono (round m a w hI) fun e a w h => by
      cases e with
      | normal => obtain ⟨m', hlt, hI'⟩ := h; exact ih m' hlt a w hI'
      | _ => exact h)
end

/-- A loop stands at a round's beginning. -/
def wpL (P : Program) (c : Code) (Q : Exit → Act → World → Prop) (a : Act) (w : World) : Prop :=
  match c with
  | .loop b => LoopAt P b Q a w
  | c => c.wp P Q a w
theorem wpL.wp {P : Program} {c : Code} {Q : Exit → Act → World → Prop} {a : Act} {w : World} (h : wpL P c Q a w) : c.wp P Q a w := by
  cases c <;> first | exact h | exact LoopAt.wp h

/-! ### A function's results -/
def resV (tmps : Array Value) : ResultVar → Sem Value
  | .tmp t => pure (tmps.getD t undef)
  | .cell b t => do loadVar t (← asAddr (tmps.getD b undef))
theorem results_eq (fn : Func) (tmps : Array Value) : results fn tmps = (do let vs ← fn.results.mapM (resV tmps); pure (if h : vs.size = 1 then vs[0] else .tuple vs)) := by
  unfold results
  have : (fun | .tmp t => pure (tmps.getD t undef) | .cell a t => do loadVar t (← asAddr (tmps.getD a undef)) : ResultVar → Sem Value) = resV tmps := by
    funext x; cases x <;> rfl
  rw [← this]
  rfl
section
variable {P : Program} {w0 : W0} {ok0 : Nat → Prop} {fs : List (Array Value)} {S : St} {ρ : List DV} {β : Bm} {a : Act} {w : World}

theorem resCells_sound (H : AtS w0 ok0 fs S ρ β a w) : ∀ (l : List ResultVar) (r : List S1), resCells P S l = some r →
    ∃ vs : List Value, (l.mapM (resV a.tmps)).run P w = .ok vs w ∧ vs.length = r.length ∧
      ∀ (j : Nat) (x : S1), r[j]? = some x → ∃ u, vs[j]? = some u ∧ S1Rep ρ β (okS w0 ok0 S.bl β) w x u
  | [], r, h => by simp only [resCells] at h; cases h; exact ⟨[], rfl, rfl, fun j x hj => by simp at hj⟩
  | .tmp t :: l, r, h => by
    simp only [resCells] at h
    split at h
    · rename_i v l' ht hl'
      cases h
      obtain ⟨vs, h1, h2, h3⟩ := resCells_sound H l l' hl'
      obtain ⟨u, hu, hr⟩ := H.rm.htm t _ ht
      refine ⟨u :: vs, ?_, by simp [h2], fun j x hj => ?_⟩
      · have : a.tmps.getD t undef = u := by simp [Array.getD_eq_getD_getElem?, hu]
        simp only [List.mapM_cons, resV, Sem.run_bind, Sem.run_pure, Result.andThen_ok, this, h1]
      · cases j with
        | zero => simp at hj; subst hj; exact ⟨u, by simp, hr⟩
        | succ j => simpa using h3 j x (by simpa using hj)
    · cases h
  | .cell b T :: l, r, h => by
    simp only [resCells] at h
    split at h
    · rename_i k off m l' ht hs hl'
      split at h
      · rename_i cs T' ro hk
        split at h
        · rename_i hle
          simp only [Option.map_eq_some_iff] at h
          obtain ⟨v, hv, rfl⟩ := h
          obtain ⟨vs, h1, h2, h3⟩ := resCells_sound H l l' hl'
          obtain ⟨u, hu, b', hb1, hb2⟩ := H.rm.htm b _ ht
          obtain ⟨b2, arr, T2, fz, g1, g2, g3, _⟩ := H.rm.hbl k _ hk
          rw [hb1] at g1; cases g1
          have hcr : ∀ (j : Nat) (c : C), ((cs.drop off).take m)[j]? = some c → CRep ρ β (okS w0 ok0 S.bl β) w c (arr.getD (off + j) undef) := fun j c hj => by
            obtain ⟨hg, _⟩ := sub_get hj
            obtain ⟨u', hu', hq⟩ := g3.2 _ c hg
            simpa [Array.getD_eq_getD_getElem?, hu'] using hq
          obtain ⟨e1, e2⟩ := S1_mk_rep (m := m) hv (by simp; omega) hcr
          have hld := run_loadVar_cells (P := P) (ad := ⟨b', off, none⟩) (w := w) (f := fun j => arr.getD (off + j) undef) hs (fun j hj => by
            rw [Addr_off]
            have : off + j < arr.size := by rw [g3.1]; omega
            simp [World.cell?, g2, Array.getD_eq_getD_getElem?, this]) e1
          obtain ⟨u2, hld, e2⟩ : ∃ u2, (loadVar T ⟨b', off, none⟩).run P w = .ok u2 w ∧ S1Rep ρ β (okS w0 ok0 S.bl β) w v u2 := ⟨_, hld, e2⟩
          refine ⟨u2 :: vs, ?_, by simp [h2], fun j x hj => ?_⟩
          · have : a.tmps.getD b undef = .pointer (some ⟨b', off, none⟩) := by simp [Array.getD_eq_getD_getElem?, hu, hb2]
            simp only [List.mapM_cons, resV, Sem.run_bind, Sem.run_pure, Result.andThen_ok, this, asAddr, hld, h1]
          · cases j with
            | zero => simp at hj; subst hj; exact ⟨_, by simp, e2⟩
            | succ j => simpa using h3 j x (by simpa using hj)
        · cases h
      · cases h
    · cases h

theorem results_sound (H : AtS w0 ok0 fs S ρ β a w) {fn : Func} {r : List S1} (h : resCells P S fn.results.toList = some r) : ∃ v, (results fn a.tmps).run P w = .ok v w ∧ SVRep ρ β (okS w0 ok0 S.bl β) w (svOf r) v := by
  obtain ⟨vs, h1, h2, h3⟩ := resCells_sound H _ _ h
  refine ⟨if h : vs.toArray.size = 1 then vs.toArray[0] else .tuple vs.toArray, ?_, ?_⟩
  · rw [results_eq, Array.mapM_eq_mapM_toList]
    rw [Sem.run_bind, Sem.run_map, h1]
    rfl
  · match r, h2, h3 with
    | [x], h2, h3 =>
      have hl : vs.length = 1 := h2
      obtain ⟨u, hu, hr⟩ := h3 0 x rfl
      obtain ⟨y, rfl⟩ := List.length_eq_one_iff.1 hl
      simp at hu; subst hu
      simpa [svOf, SVRep] using hr
    | [], h2, h3 =>
      have hl : vs = [] := List.eq_nil_of_length_eq_zero h2
      subst hl
      exact ⟨#[], by simp, rfl, fun j x hj => by simp at hj⟩
    | x :: y :: r, h2, h3 =>
      have hl : ¬ vs.length = 1 := by rw [h2]; simp
      exact ⟨vs.toArray, by simp [hl], by simpa using h2, fun j z hj => let ⟨u, hu, hq⟩ := h3 j z hj; ⟨u, by simpa using hu, hq⟩⟩
end

theorem paramTm_get : ∀ (l : List (Option SV)) (i t : Nat) (sv : SV), paramTm l i t = some sv → i ≤ t ∧ l[t - i]? = some (some sv)
  | [], i, t, sv, h => by cases h
  | v :: r, i, t, sv, h => by
    simp only [paramTm, upd] at h
    split at h
    · rename_i he
      subst he
      exact ⟨Nat.le_refl _, by simp [h]⟩
    · rename_i he
      obtain ⟨h1, h2⟩ := paramTm_get r (i + 1) t sv h
      refine ⟨by omega, ?_⟩
      rw [show t - i = (t - (i + 1)) + 1 by omega]
      simpa using h2

end Go.Px
/- Px22: code, the main induction. -/
set_option linter.unusedSimpArgs false
set_option linter.unusedVariables false
namespace Go.Px
open Go.RowKit

def ExM : Ex → Exit → Prop
  | .nor, .normal => True
  | .exit i, .exit j => i = j
  | .ret, .ret => True
  | _, _ => False

def PostK (P : Program) (Q : List AV → Prop) (w0 : W0) (ok0 : Nat → Prop) (fs : List (Array Value)) (nt : Nat) (As : List (List DV → Prop)) (K : Ex → St → Option IR) : Exit → Act → World → Prop :=
  fun e a w => ∃ ex, ExM ex e ∧ Cont P Q w0 ok0 fs nt As (K ex) a w

/-- What a way through code must show. -/
def GoOK (P : Program) (Q : List AV → Prop) (w0 : W0) (ok0 : Nat → Prop) (go : Code → St → (Ex → St → Option IR) → Option IR) : Prop :=
  ∀ (c : Code) (S : St) (K : Ex → St → Option IR) (ir : IR) (fs : List (Array Value)) (As : List (List DV → Prop)) (ρ : List DV) (β : Bm) (a : Act) (w : World), go c S K = some ir → IRwp P As ρ ir Q → As.length = S.dp → AtS w0 ok0 fs S ρ β a w →
    wpL P c (PostK P Q w0 ok0 fs S.fr.nt As K) a w

section
variable {P : Program} {H : Hints} {Q : List AV → Prop} {w0 : W0} {ok0 : Nat → Prop} {go : Code → St → (Ex → St → Option IR) → Option IR}

theorem run_eqnil {t e : TypeId} {X Y : Operand} {ad : Option Addr} {n cap : Nat} {w : World} (hu : P.underlying t = some (.slice e)) :
    (do eqGuard .eql t X Y (.slice ad n cap) (.slice none 0 0); binOp .eql t (.slice ad n cap) (.slice none 0 0) : Sem Value).run P w = .ok (.bool ad.isNone) w := by
  simp only [eqGuard, Sem.run_bind, binOp, run_equal_slice_nil w t e ad n cap hu, Result.andThen_ok, Sem.run_pure]
  simp [run_equal_slice_nil w t e ad n cap hu]

/-- What a slice holds, read off the state. -/
theorem listOf_sound {S : St} {ρ : List DV} {β : Bm} {fs : List (Array Value)} {a : Act} {w : World} (H : AtS w0 ok0 fs S ρ β a w) {c : C} {x : A} (h : S.listOf c = some x) {v : Value} (hv : CRep ρ β (okS w0 ok0 S.bl β) w c v) :
    ∃ d, x.rd ρ = some d ∧ ∀ n cells, d = .list n cells → ∃ ad cap, v = .slice ad n cap ∧ (ad = none → cells = []) := by
  have rl : ∀ {d : DV}, Reads (okS w0 ok0 S.bl β) w d v → ∀ n cells, d = .list n cells → ∃ ad cap, v = .slice ad n cap ∧ (ad = none → cells = []) := by
    intro d hr n cells hd
    subst hd
    obtain ⟨ad, cap, e, _, f, hm, _⟩ := reads_list hr
    refine ⟨ad, cap, e, fun hn => ?_⟩
    by_cases hc : cells = []
    · exact hc
    · obtain ⟨a0, ha, _⟩ := hm hc
      rw [hn] at ha; cases ha
  cases c <;> simp only [St.listOf] at h
  case «at» y => cases h; obtain ⟨d, hd, hr⟩ := hv; exact ⟨d, hd, rl hr⟩
  case ful y => cases h; obtain ⟨d, hd, hr, _⟩ := hv; exact ⟨d, hd, rl hr⟩
  case own k =>
    split at h
    · rename_i y s E hk
      cases h
      obtain ⟨v', n, cells, h1, h2, xs, ho, hl, _⟩ := H.rm.hbl k _ hk
      simp only [CRep] at hv
      rw [hv] at h1; cases h1
      refine ⟨_, h2, fun n' cells' he => ?_⟩
      cases he
      rcases ho.2 with ⟨rfl, rfl⟩ | ⟨g, cap, cur, rfl, _⟩
      · refine ⟨none, 0, rfl, fun _ => List.eq_nil_of_length_eq_zero ?_⟩
        rw [← hl, ho.1]; simp
      · exact ⟨_, cap, rfl, fun hn => by cases hn⟩
    · rename_i y hk
      cases h
      obtain ⟨v', n, cells, h1, h2, h3, _⟩ := H.rm.hbl k _ hk
      simp only [CRep] at hv
      rw [hv] at h1; cases h1
      exact ⟨_, h2, rl h3⟩
    · cases h
  all_goals cases h

theorem nilq_ok {o : Oper} {S : St} {t : TypeId} {x : Operand} {ty : TypeId} {e : TypeId} {c : C} {y : A} (ho : o.op = .binOp .eql t x (.const (.slice none 0 0)) ty) (hu : P.underlying t = some (.slice e)) (hx : S.ev x = some (.s (.one c))) (hy : S.listOf c = some y)
    {fs : List (Array Value)} {K : Option SV → St → Option IR} {ir : IR} {As : List (List DV → Prop)} {ρ : List DV} {β : Bm} {a : Act} {w : World}
    (h : (if y.lt S.nv then (K (some (.s (.one (.at (.var S.nv))))) { S with nv := S.nv + 1 }).map (IR.nilq y) else none) = some ir) (hw : IRwp P As ρ ir Q) (hA : As.length = S.dp) (H : AtS w0 ok0 fs S ρ β a w) (Qx : Exit → Act → World → Prop) :
    o.wp P a w (fun a' w' => ∃ v sv S' ρ' β' ir' As', a' = a.put o.dst v ∧ K sv S' = some ir' ∧ IRwp P As' ρ' ir' Q ∧ (∃ l, As' = As ++ l) ∧ As'.length = S'.dp ∧
      AtS w0 ok0 fs S' ρ' β' a w' ∧ S'.fr.nt = S.fr.nt ∧ ∀ s, sv = some s → SVRep ρ' β' (okS w0 ok0 S'.bl β') w' s v) Qx := by
  split at h
  · rename_i hlt
    simp only [Option.map_eq_some_iff] at h
    obtain ⟨ir', hK, rfl⟩ := h
    obtain ⟨⟨n, cells, hd⟩, hb⟩ := hw
    obtain ⟨d, hd', hl⟩ := listOf_sound H hy (H.rm.one (x := x) (by rw [← St.ev_eq]; exact hx))
    rw [A.ev_of_rd hd'] at hd
    obtain ⟨ad, cap, hv, hn⟩ := hl n cells hd
    have hrun : (execOp a.eval o).run P w = .ok (.value (.bool ad.isNone)) w := by
      have := run_eqnil (P := P) (X := x) (Y := .const (.slice none 0 0)) (ad := ad) (n := n) (cap := cap) (w := w) hu
      have hc : a.eval (.const (.slice none 0 0)) = .slice none 0 0 := rfl
      simp only [execOp, ho, hv, hc]
      rw [Sem.run_bind, this]; rfl
    refine wp_value hrun ⟨_, _, _, ρ ++ [.bool ad.isNone], β, ir', As, rfl, hK, hb ad.isNone (fun ht => ⟨n, ?_⟩), ⟨[], by simp⟩, hA, ?_, rfl, fun s hs => ?_⟩
    · rw [A.ev_of_rd hd', hd]
      have : ad = none := by simpa using ht
      rw [hn this]
    · exact ⟨H.rm.env (Ext.app _ _), H.kn.ext (Ext.app _ _), by simp [H.len], H.bln, H.βn⟩
    · cases hs
      exact ⟨.bool ad.isNone, by simp [A.rd, ← H.len], .bool _⟩
  · cases h

/-- A call that is walked into. -/
theorem inl_ok (hgo : GoOK P Q w0 ok0 go) {o : Oper} {S : St} {x : Operand} {args : Array Operand} {argTypes : Array TypeId} {f : FuncId} {ks : List Nat} {fn : Func} {body : Code} (ho : o.op = .call { callee := .value x, args := args, argTypes := argTypes })
    (hx : S.ev x = some (.s (.one (.fn f ks)))) (hfn : P.funcs[f]? = some fn) (hb : fn.body = some body)
    {fs : List (Array Value)} {K : Option SV → St → Option IR} {ir : IR} {As : List (List DV → Prop)} {ρ : List DV} {β : Bm} {a : Act} {w : World}
    (h : (if (fn.name == "runtime.NumGoroutine") then none else
              go body { S with fr := { tm := paramTm (args.toList.map S.ev ++ capSVs ks) 0, nt := max fn.ntmps (args.size + ks.length), fn := f }, stk := S.fr :: S.stk } fun ex S' =>
                match ex with
                | .exit _ => none
                | _ =>
                  match resCells P S' fn.results.toList, S'.stk with
                  | some l, fr :: stk => K (some (svOf l)) { S' with fr := fr, stk := stk }
                  | _, _ => none) = some ir) (hw : IRwp P As ρ ir Q) (hA : As.length = S.dp) (H : AtS w0 ok0 fs S ρ β a w) (Qx : Exit → Act → World → Prop) :
    o.wp P a w (fun a' w' => ∃ v sv S' ρ' β' ir' As', a' = a.put o.dst v ∧ K sv S' = some ir' ∧ IRwp P As' ρ' ir' Q ∧ (∃ l, As' = As ++ l) ∧ As'.length = S'.dp ∧
      AtS w0 ok0 fs S' ρ' β' a w' ∧ S'.fr.nt = S.fr.nt ∧ ∀ s, sv = some s → SVRep ρ' β' (okS w0 ok0 S'.bl β') w' s v) Qx := by
  split at h
  · cases h
  · rename_i hname
    have hname' : (fn.name == "runtime.NumGoroutine") = false := by simpa using hname
    obtain ⟨capv, hfv, hcs, hcap⟩ := H.rm.one (x := x) (by rw [← St.ev_eq]; exact hx)
    have hrun : (execOp a.eval o).run P w = .ok (.enter f (args.map a.eval ++ capv)) w := by
      simp only [execOp, ho, resolve, hfv, Deferred.ofValue, invoke, callFunc, Sem.run_bind, Sem.run_pure, Result.andThen_ok, program, Sem.run, hfn, Array.empty_append, hname', hb, Option.isNone_some, Bool.false_eq_true, if_false]
    have hvals : ∀ (j : Nat) (v : SV), (args.toList.map S.ev ++ capSVs ks)[j]? = some (some v) → ∃ u, (args.map a.eval ++ capv)[j]? = some u ∧ SVRep ρ β (okS w0 ok0 S.bl β) w v u := by
      intro j v hj
      by_cases hja : j < args.size
      · rw [List.getElem?_append_left (by simpa using hja), List.getElem?_map] at hj
        have hj2 : args.toList[j]? = some args[j] := by simp [hja]
        rw [hj2] at hj
        simp only [Option.map_some, Option.some.injEq] at hj
        refine ⟨a.eval args[j], ?_, H.rm.eval (by rw [← St.ev_eq]; exact hj)⟩
        rw [Array.getElem?_append_left (by simpa using hja)]
        simp [hja]
      · rw [List.getElem?_append_right (by simpa using hja)] at hj
        simp only [capSVs, List.getElem?_map, List.length_map, Array.length_toList] at hj
        cases hk : ks[j - args.size]? with
        | none => rw [hk] at hj; cases hj
        | some k =>
          rw [hk] at hj
          simp only [Option.map_some, Option.some.injEq] at hj
          subst hj
          obtain ⟨b, hb1, hb2⟩ := hcap _ k hk
          refine ⟨.pointer (some ⟨b, 0, none⟩), ?_, b, hb1, rfl⟩
          rw [Array.getElem?_append_right (by simp; omega)]
          simpa using hb2
    unfold Oper.wp
    rw [hrun]
    have hvsz : (args.map a.eval ++ capv).size = args.size + ks.length := by simp [hcs]
    have H0 : AtS w0 ok0 (a.tmps :: fs) { S with fr := { tm := paramTm (args.toList.map S.ev ++ capSVs ks) 0, nt := max fn.ntmps (args.size + ks.length), fn := f }, stk := S.fr :: S.stk } ρ β
        { tmps := (args.map a.eval ++ capv) ++ Array.replicate (fn.ntmps - (args.map a.eval ++ capv).size) undef, defers := [] } w := by
      refine ⟨{ sz := ?_, df := rfl, htm := fun t sv ht => ?_, hst := ⟨H.rm.htm, H.rm.sz, H.rm.hst⟩, hbl := H.rm.hbl, inj := H.rm.inj, bel := H.rm.bel, na := H.rm.na }, H.kn, H.len, H.bln, H.βn⟩
      · simp only [Array.size_append, Array.size_replicate, hcs, Array.size_map]; omega
      · obtain ⟨_, hg⟩ := paramTm_get _ _ _ _ ht
        obtain ⟨u, hu, hr⟩ := hvals _ _ hg
        refine ⟨u, ?_, hr⟩
        rw [Array.getElem?_append_left (by have := (Array.getElem?_eq_some_iff.1 hu).1; simpa using this)]
        simpa using hu
    have hwp := (hgo body _ _ ir (a.tmps :: fs) As ρ β _ w h hw hA H0).wp
    refine calls_of_wp hfn hb (wp_mono hwp fun e a' w' hpost => ?_)
    obtain ⟨ex, hex, S', ρ', β', ir', As', hK, hw', hpre, hlen, hnt, H'⟩ := hpost
    have fin : ∀ l, resCells P S' fn.results.toList = some l → ∀ fr stk, S'.stk = fr :: stk → K (some (svOf l)) { S' with fr := fr, stk := stk } = some ir' →
        a'.defers = [] ∧ ∃ v, (results fn a'.tmps).run P w' = .ok v w' ∧ ∃ u sv S'' ρ'' β'' ir'' As'', a.put o.dst v = a.put o.dst u ∧ K sv S'' = some ir'' ∧ IRwp P As'' ρ'' ir'' Q ∧ (∃ l, As'' = As ++ l) ∧ As''.length = S''.dp ∧
          AtS w0 ok0 fs S'' ρ'' β'' a w' ∧ S''.fr.nt = S.fr.nt ∧ ∀ s, sv = some s → SVRep ρ'' β'' (okS w0 ok0 S''.bl β'') w' s u := by
      intro l hl fr stk hstk hK
      obtain ⟨v, hv, hr⟩ := results_sound H' hl
      refine ⟨H'.rm.df, v, hv, v, _, _, ρ', β', ir', As', rfl, hK, hw', hpre, hlen, ?_, ?_, fun s hs => by cases hs; exact hr⟩
      · have hst := H'.rm.hst
        rw [hstk] at hst
        obtain ⟨s1, s2, s3⟩ := hst
        exact ⟨{ sz := s2, df := H.rm.df, htm := s1, hst := s3, hbl := H'.rm.hbl, inj := H'.rm.inj, bel := H'.rm.bel, na := H'.rm.na }, H'.kn, H'.len, H'.bln, H'.βn⟩
      · have hst := H'.rm.hst
        rw [hstk] at hst
        exact hst.2.1.symm.trans H.rm.sz
    cases ex with
    | exit id => simp only at hK; cases hK
    | nor =>
      cases e <;> simp only [ExM] at hex
      simp only at hK
      split at hK
      · rename_i l fr stk hl hstk
        exact fin l hl fr stk hstk hK
      · cases hK
    | ret =>
      cases e <;> simp only [ExM] at hex
      simp only at hK
      split at hK
      · rename_i l fr stk hl hstk
        exact fin l hl fr stk hstk hK
      · cases hK

/-- A block of the call's own is written; the world grows, perhaps. -/
theorem RM.writeG {w0 : W0} {ok0 : Nat → Prop} {fs : List (Array Value)} {stk : List Frm} {ρ : List DV} {β : Bm} {nt : Nat} {tm : Nat → Option SV} {bl : Nat → Option Blk} {a : Act} {w w' : World}
    (H : RM w0 ok0 fs stk ρ β nt tm bl a w) {k : Nat} {b b' : Blk} {v : Value} (hk : bl k = some b) (hm : b.mut = true) (hm' : b'.mut = true) (hv : β k = some v)
    (hg : GrowsBy w w' (blockOf v))
    (hrep : (∀ b o, okS w0 ok0 bl β b → w.heap[b]? = some o → okS w0 ok0 (upd bl k (some b')) β b ∧ w'.heap[b]? = some o) → BlkRep w0 ρ β (okS w0 ok0 (upd bl k (some b')) β) w' k b') :
    RM w0 ok0 fs stk ρ β nt tm (upd bl k (some b')) a w' := by
  have hoth : ∀ j, j < w.heap.size → blockOf v ≠ some j → w'.heap[j]? = w.heap[j]? := fun j h1 h2 => hg.block j h1 fun e => h2 e.symm
  have hokeq : ∀ j, okS w0 ok0 bl β j → okS w0 ok0 (upd bl k (some b')) β j := fun j hj => ⟨hj.1, fun k' blk u hb2 hm2 hu he => by
    unfold upd at hb2
    split at hb2
    · rename_i hkk; subst hkk
      exact hj.2 k' b u hk hm hu he
    · exact hj.2 k' blk u hb2 hm2 hu he⟩
  have hmono : ∀ b o, okS w0 ok0 bl β b → w.heap[b]? = some o → okS w0 ok0 (upd bl k (some b')) β b ∧ w'.heap[b]? = some o := fun j o hj ho => by
    refine ⟨hokeq j hj, ?_⟩
    rw [hoth j (Array.getElem?_eq_some_iff.1 ho).1 fun he => hj.2 k b v hk hm hv he]
    exact ho
  refine H.step (Ext.refl _) (fun _ _ h => h) hmono (fun k' b2 hb2 => ?_) (fun k1 k2 b1 b2 v1 v2 m' e1 m1 e2 m2 f1 f2 g1 g2 => ?_) ?_ H.na
  · unfold upd at hb2
    split at hb2
    · rename_i hkk; subst hkk; cases hb2
      exact .inr (hrep hmono)
    · rename_i hne
      refine .inl ⟨hb2, fun u m' hu hbo' hor => hoth m' ?_ fun he => ?_⟩
      · rcases hor with hmut | hlt
        · exact (H.lt_of_mut hb2 hmut hu hbo').2
        · exact Nat.lt_of_lt_of_le hlt.1 H.bel.size
      · rcases hor with hmut | hlt'
        · exact hne (H.inj k' k b2 b u v m' hb2 hmut hk hm hu hv hbo' he)
        · exact W0.old_not hlt' (H.lt_of_mut hk hm hv he).1
  · unfold upd at e1 e2
    split at e1
    · split at e2
      · rename_i h1 h2; rw [h1, h2]
      · rename_i h1 h2; subst h1
        exact H.inj k1 k2 b b2 v1 v2 m' hk hm e2 m2 f1 f2 g1 g2
    · split at e2
      · rename_i h1 h2; subst h2
        exact H.inj k1 k2 b1 b v1 v2 m' e1 m1 hk hm f1 f2 g1 g2
      · exact H.inj k1 k2 b1 b2 v1 v2 m' e1 m1 e2 m2 f1 f2 g1 g2
  · exact H.bel.then hg.os hg.tape hg.output hg.drawn hg.size fun i hi => hoth i (Nat.lt_of_lt_of_le hi.1 H.bel.size) fun he => W0.old_not hi (H.lt_of_mut hk hm hv he).1

theorem ownsR_base {w : World} {b0 b1 : Nat → Prop} {E : TypeId} {s : Nat} {v : Value} {n : Nat} {xs : List Value} (h : w.ownsR b0 E s v n xs) (hb : ∀ g, blockOf v = some g → b1 g) : w.ownsR b1 E s v n xs := by
  refine ⟨h.1, ?_⟩
  rcases h.2 with h1 | ⟨g, cap, cur, rfl, _, rest⟩
  · exact .inl h1
  · exact .inr ⟨g, cap, cur, rfl, hb g rfl, rest⟩
theorem int_cells {zs : List Int} {xs : List Value} {ok : Nat → Prop} {w : World} (hl : xs.length = zs.length) (h : ∀ (j : Nat) (d : DV), (zs.map (DV.int .i64))[j]? = some d → ∃ u, xs[j]? = some u ∧ Reads ok w d u) : xs = zs.map (Value.int .i64) := by
  refine List.ext_getElem? fun j => ?_
  by_cases hj : j < zs.length
  · obtain ⟨u, hu, hr⟩ := h j _ (by rw [List.getElem?_map, List.getElem?_eq_getElem hj]; rfl)
    rw [hu, List.getElem?_map, List.getElem?_eq_getElem hj, reads_int hr]; rfl
  · rw [List.getElem?_eq_none (by omega), List.getElem?_eq_none (by simp; omega)]
theorem int_reads {zs : List Int} {ok : Nat → Prop} {w : World} (j : Nat) (d : DV) (h : (zs.map (DV.int .i64))[j]? = some d) : ∃ u, (zs.map (Value.int .i64))[j]? = some u ∧ Reads ok w d u := by
  rw [List.getElem?_map] at h ⊢
  cases hz : zs[j]? with
  | none => rw [hz] at h; cases h
  | some z => rw [hz] at h; cases h; exact ⟨_, rfl, .int _ _⟩

/-- A row of whole numbers that a call turns. -/
theorem rowc_ok {o : Oper} {S : St} {x : Operand} {args : Array Operand} {argTypes : Array TypeId} {f : FuncId} {cut : Bool} {k : Nat} {y : A} {E : TypeId} (ho : o.op = .call { callee := .value x, args := args, argTypes := argTypes })
    (hx : S.ev x = some (.s (.one (.fn f [])))) (hr : oneRow S (args.toList.map S.ev) = some (k, y, E))
    {fs : List (Array Value)} {K : Option SV → St → Option IR} {ir : IR} {As : List (List DV → Prop)} {ρ : List DV} {β : Bm} {a : Act} {w : World}
    (h : (if y.lt S.nv then
              (if cut then K (some (.s (.one (.own S.nb)))) ((({ S with nv := S.nv + 1, nb := S.nb + 1 } : St).dropB k).setB S.nb (.own (.var S.nv) 1 E))
               else K (some (.tup [])) (({ S with nv := S.nv + 1 } : St).setB k (.own (.var S.nv) 1 E))).map (IR.rowc f cut E y)
            else none) = some ir) (hw : IRwp P As ρ ir Q) (hA : As.length = S.dp) (H : AtS w0 ok0 fs S ρ β a w) (Qx : Exit → Act → World → Prop) :
    o.wp P a w (fun a' w' => ∃ v sv S' ρ' β' ir' As', a' = a.put o.dst v ∧ K sv S' = some ir' ∧ IRwp P As' ρ' ir' Q ∧ (∃ l, As' = As ++ l) ∧ As'.length = S'.dp ∧
      AtS w0 ok0 fs S' ρ' β' a w' ∧ S'.fr.nt = S.fr.nt ∧ ∀ s, sv = some s → SVRep ρ' β' (okS w0 ok0 S'.bl β') w' s v) Qx := by
  split at h
  · rename_i hlt
    simp only [Option.map_eq_some_iff] at h
    obtain ⟨ir', hK, rfl⟩ := h
    obtain ⟨zs, zs', hz, ⟨⟨fn, hfn, hname, hbody⟩, hcalls⟩, hw'⟩ := hw
    -- the row
    unfold oneRow at hr
    split at hr
    · rename_i k' hargs
      split at hr
      · rename_i y' s' E' hk
        split at hr
        · rename_i hs
          subst hs
          simp only [Option.some.injEq, Prod.mk.injEq] at hr
          obtain ⟨rfl, rfl, rfl⟩ := hr
          obtain ⟨x0, hx0, hx1⟩ := args1 hargs
          subst hx0
          obtain ⟨v, n, cells, g1, g2, xs, g3, g4, g5⟩ := H.rm.hbl _ _ hk
          rw [A.ev_of_rd g2] at hz
          have hz1 : n = zs.length ∧ cells = zs.map (DV.int .i64) := by simp only [ints, DV.list.injEq] at hz; exact hz
          obtain ⟨rfl, rfl⟩ := hz1
          have hxs : xs = zs.map (Value.int .i64) := int_cells (by simpa using g4) g5
          subst hxs
          have hv : a.eval x0 = v := by
            have := H.rm.one (x := x0) (by rw [← St.ev_eq]; exact hx1)
            simp only [CRep] at this
            rw [g1] at this; exact (Option.some.inj this).symm
          obtain ⟨capv, hfv, hcs, _⟩ := H.rm.one (x := x) (by rw [← St.ev_eq]; exact hx)
          have hc0 : capv = #[] := Array.eq_empty_of_size_eq_zero (by simpa using hcs)
          have hrun : (execOp a.eval o).run P w = .ok (.enter f #[v]) w := by
            simp only [execOp, ho, resolve, hfv, hc0, Deferred.ofValue, invoke, callFunc, Sem.run_bind, Sem.run_pure, Result.andThen_ok, program, Sem.run, hfn, Array.empty_append, hname, hbody, Bool.false_eq_true, if_false, List.map_toArray, List.map_cons, List.map_nil, hv, Array.append_empty]
          unfold Oper.wp
          rw [hrun]
          refine (hcalls w v (ownsR_base g3 fun _ _ => trivial)).mono fun e w' => ?_
          rintro ⟨v', rfl, hvv, hg, hown, hbo⟩
          have hold : ∀ b, blockOf v' = some b → w0.own b := fun b hb => (H.rm.lt_of_mut hk rfl g1 (hbo b hb)).1
          have H1 := H.rm.env (Ext.app ρ [ints zs'])
          have hxn : (A.var S.nv).rd (ρ ++ [ints zs']) = some (ints zs') := by simp [A.rd, ← H.len]
          cases cut with
          | false =>
            obtain rfl := hvv rfl
            refine ⟨_, _, _, ρ ++ [ints zs'], β, ir', As, rfl, hK, hw', ⟨[], by simp⟩, hA, ⟨?_, H.kn.ext (Ext.app _ _), by simp [St.setB, H.len], fun j hj => ?_, H.βn⟩, rfl, fun s hs => ?_⟩
            · exact H1.writeG hk rfl rfl g1 hg fun _ => ⟨v', zs'.length, zs'.map (DV.int .i64), g1, hxn, zs'.map (Value.int .i64), ownsR_base hown hold, by simp, int_reads⟩
            · have hj' : S.nb ≤ j := hj
              have hne : j ≠ k' := fun e => by have := H.bln j hj'; rw [e] at this; rw [this] at hk; cases hk
              simp only [St.setB, upd, hne, if_false]; exact H.bln j hj'
            · cases hs; exact ⟨#[], rfl, rfl, fun j x hj => by simp at hj⟩
          | true =>
            refine ⟨_, _, _, ρ ++ [ints zs'], upd β S.nb (some v'), ir', As, rfl, hK, hw', ⟨[], by simp⟩, hA, ⟨?_, H.kn.ext (Ext.app _ _), by simp [St.setB, St.dropB, H.len], fun j hj => ?_, fun j hj => ?_⟩, rfl, fun s hs => ?_⟩
            · exact H1.own_turn (k0 := some k') (id := S.nb) (v := v) (v' := v') (H.βn _ (Nat.le_refl _)) (H.bln _ (Nat.le_refl _)) hxn hg (fun b hb => .inr (hbo b hb)) (.inr ⟨k', _, rfl, hk, rfl, g1⟩) (ownsR_base hown hold) (by simp) int_reads
            · have hj' : S.nb + 1 ≤ j := hj
              have hne : j ≠ S.nb := by omega
              simp only [St.setB, St.dropB, upd, hne, if_false]
              split
              · rfl
              · exact H.bln j (by omega)
            · have hj' : S.nb + 1 ≤ j := hj
              have hne : j ≠ S.nb := by omega
              simp only [upd, hne, if_false]
              exact H.βn j (by omega)
            · cases hs; simp [SVRep, S1Rep, CRep, upd]
        · cases hr
      · cases hr
    · cases hr
  · cases h

/-- Blocks of the call's own are handed over, and others are given back. -/
theorem RM.swap {w0 : W0} {ok0 : Nat → Prop} {fs : List (Array Value)} {stk : List Frm} {ρ ρ' : List DV} {β β' : Bm} {nt : Nat} {tm : Nat → Option SV} {bl bl' : Nat → Option Blk} {a : Act} {w w' : World}
    (H : RM w0 ok0 fs stk ρ β nt tm bl a w) (hρ : Ext ρ ρ') {D N : List Nat} (hD : ∀ k ∈ D, ∃ b v, bl k = some b ∧ b.mut = true ∧ β k = some v)
    (hβ : ∀ k v, β k = some v → β' k = some v) (hβ2 : ∀ k, k ∉ N → β' k = β k)
    (hos : w'.os = w.os) (ht : w'.tape = w.tape) (hout : w'.output = w.output) (hdr : w.drawn ≤ w'.drawn) (hsz : w.heap.size ≤ w'.heap.size)
    (hblk : ∀ m, m < w.heap.size → (∀ k ∈ D, ∀ v, β k = some v → blockOf v ≠ some m) → w'.heap[m]? = w.heap[m]?)
    (hbl : ∀ k b, bl' k = some b → k ∉ N → bl k = some b ∧ k ∉ D)
    (hN : ∀ k ∈ N, ∀ v m, β' k = some v → blockOf v = some m → w.heap.size ≤ m ∨ ∃ j ∈ D, ∃ u, β j = some u ∧ blockOf u = some m)
    (hNi : ∀ k ∈ N, ∀ k' ∈ N, ∀ v v' m, β' k = some v → β' k' = some v' → blockOf v = some m → blockOf v' = some m → k = k')
    (hrep : (∀ b o, okS w0 ok0 bl β b → w.heap[b]? = some o → okS w0 ok0 bl' β' b ∧ w'.heap[b]? = some o) → ∀ k ∈ N, ∀ b, bl' k = some b → BlkRep w0 ρ' β' (okS w0 ok0 bl' β') w' k b)
    (hna : ∀ k ∈ N, ∀ v, β' k = some v → v.oneCell' = true) :
    RM w0 ok0 fs stk ρ' β' nt tm bl' a w' ∧ (∀ b o, okS w0 ok0 bl β b → w.heap[b]? = some o → okS w0 ok0 bl' β' b ∧ w'.heap[b]? = some o) := by
  have hmono : ∀ b o, okS w0 ok0 bl β b → w.heap[b]? = some o → okS w0 ok0 bl' β' b ∧ w'.heap[b]? = some o := fun b o hb ho => by
    have hlt := (Array.getElem?_eq_some_iff.1 ho).1
    refine ⟨⟨hb.1, fun k blk v hk hm hv he => ?_⟩, ?_⟩
    · by_cases hkN : k ∈ N
      · rcases hN k hkN v b hv he with h1 | ⟨j, hj, u, hu, he2⟩
        · omega
        · obtain ⟨b', v', h1, h2, h3⟩ := hD j hj
          rw [hu] at h3; cases h3
          exact hb.2 j b' u h1 h2 hu he2
      · rw [hβ2 k hkN] at hv
        exact hb.2 k blk v (hbl k blk hk hkN).1 hm hv he
    · rw [hblk b hlt fun k hk v hv he => ?_]
      · exact ho
      · obtain ⟨b', v', h1, h2, h3⟩ := hD k hk
        exact hb.2 k b' v h1 h2 hv he
  refine ⟨H.step hρ hβ hmono (fun k b hb => ?_) (fun k1 k2 b1 b2 v1 v2 m e1 m1 e2 m2 f1 f2 g1 g2 => ?_) ?_ (fun k v hk => ?_), hmono⟩
  · by_cases hkN : k ∈ N
    · exact .inr (hrep hmono k hkN b hb)
    · obtain ⟨h1, h2⟩ := hbl k b hb hkN
      refine .inl ⟨h1, fun v m hv hm hor => ?_⟩
      have hlt : m < w.heap.size := by
        rcases hor with hmu | hold
        · exact (H.lt_of_mut h1 hmu hv hm).2
        · exact Nat.lt_of_lt_of_le hold.1 H.bel.size
      refine hblk m hlt fun j hj u hu he => ?_
      obtain ⟨b', v', g1, g2, g3⟩ := hD j hj
      rcases hor with hmu | hold
      · exact h2 ((H.inj k j b b' v u m h1 hmu g1 g2 hv hu hm he) ▸ hj)
      · exact W0.old_not hold (H.lt_of_mut g1 g2 hu he).1
  · by_cases hk1 : k1 ∈ N
    · by_cases hk2 : k2 ∈ N
      · exact hNi k1 hk1 k2 hk2 v1 v2 m f1 f2 g1 g2
      · obtain ⟨h1, h2⟩ := hbl k2 b2 e2 hk2
        rw [hβ2 k2 hk2] at f2
        exfalso
        rcases hN k1 hk1 v1 m f1 g1 with h3 | ⟨j, hj, u, hu, he⟩
        · have := (H.lt_of_mut h1 m2 f2 g2).2; omega
        · obtain ⟨b', v', d1, d2, d3⟩ := hD j hj
          exact h2 ((H.inj k2 j b2 b' v2 u m h1 m2 d1 d2 f2 hu g2 he) ▸ hj)
    · obtain ⟨h1, h2⟩ := hbl k1 b1 e1 hk1
      rw [hβ2 k1 hk1] at f1
      by_cases hk2 : k2 ∈ N
      · exfalso
        rcases hN k2 hk2 v2 m f2 g2 with h3 | ⟨j, hj, u, hu, he⟩
        · have := (H.lt_of_mut h1 m1 f1 g1).2; omega
        · obtain ⟨b', v', d1, d2, d3⟩ := hD j hj
          exact h2 ((H.inj k1 j b1 b' v1 u m h1 m1 d1 d2 f1 hu g1 he) ▸ hj)
      · obtain ⟨h3, _⟩ := hbl k2 b2 e2 hk2
        rw [hβ2 k2 hk2] at f2
        exact H.inj k1 k2 b1 b2 v1 v2 m h1 m1 h3 m2 f1 f2 g1 g2
  · refine H.bel.then hos ht hout hdr hsz fun i hi => hblk i (Nat.lt_of_lt_of_le hi.1 H.bel.size) fun k hk v hv he => ?_
    obtain ⟨b', v', g1, g2, g3⟩ := hD k hk
    exact W0.old_not hi (H.lt_of_mut g1 g2 hv he).1
  · by_cases hkN : k ∈ N
    · exact hna k hkN v hk
    · rw [hβ2 k hkN] at hk; exact H.na k v hk

theorem apart_inj : ∀ {l : List (A × Option Nat)}, apart (l.filterMap (·.2)) = true → ∀ {i i' : Nat} {a a' : A} {j : Nat}, l[i]? = some (a, some j) → l[i']? = some (a', some j) → i = i'
  | [], _, i, i', a, a', j, h, _ => by simp at h
  | (x, none) :: r, hp, i, i', a, a', j, h, h' => by
    cases i with
    | zero => simp at h
    | succ i =>
      cases i' with
      | zero => simp at h'
      | succ i' =>
        have := apart_inj (l := r) (i := i) (i' := i') (a := a) (a' := a') (j := j) (by simpa using hp) (by simpa using h) (by simpa using h')
        rw [this]
  | (x, some q) :: r, hp, i, i', a, a', j, h, h' => by
    simp only [List.filterMap_cons, apart, Bool.and_eq_true, Bool.not_eq_true'] at hp
    have key : ∀ {n : Nat} {b : A}, r[n]? = some (b, some q) → False := fun {n b} hn => by
      have : q ∈ r.filterMap (·.2) := List.mem_filterMap.2 ⟨_, List.mem_of_getElem? hn, rfl⟩
      have h2 := hp.1
      rw [List.contains_iff_mem.2 this] at h2; cases h2
    cases i with
    | zero =>
      simp only [List.getElem?_cons_zero, Option.some.injEq, Prod.mk.injEq] at h
      obtain ⟨rfl, rfl⟩ := h
      cases i' with
      | zero => rfl
      | succ i' => exact (key (by simpa using h')).elim
    | succ i =>
      cases i' with
      | zero =>
        simp only [List.getElem?_cons_zero, Option.some.injEq, Prod.mk.injEq] at h'
        obtain ⟨rfl, rfl⟩ := h'
        exact (key (by simpa using h)).elim
      | succ i' =>
        have := apart_inj (l := r) (i := i) (i' := i') (a := a) (a' := a') (j := j) hp.2 (by simpa using h) (by simpa using h')
        rw [this]

def TcOK (S : St) (ρ : List DV) (β : Bm) (ok : Nat → Prop) (w : World) (a : A) (ro : Option Nat) (u : Value) : TK → Prop
  | .pl => ro = none ∧ ARd ρ ok w a u
  | .row s E => (ro = none ∧ a = .nil ∧ u = .slice none 0 0) ∨ ∃ j, ro = some j ∧ S.bl j = some (.own a s E) ∧ β j = some u

/-- What the cells and the arguments of a call that turns a box are. -/
theorem tcells_sound {S : St} {ρ : List DV} {β : Bm} {ok : Nat → Prop} {w : World} : ∀ {ks : List TK} {cc : List C} {l : List (A × Option Nat)} {vals : List Value}, S.tcells ks cc = some l → vals.length = cc.length →
    (∀ (j : Nat) (c : C), cc[j]? = some c → ∃ u, vals[j]? = some u ∧ CRep ρ β ok w c u) → l.length = ks.length ∧ cc.length = ks.length ∧
    ∀ (i : Nat) (k : TK), ks[i]? = some k → ∃ a ro u, l[i]? = some (a, ro) ∧ vals[i]? = some u ∧ TcOK S ρ β ok w a ro u k
  | [], [], l, vals, h, hl, hc => by simp only [St.tcells] at h; cases h; exact ⟨rfl, rfl, fun i k hk => by simp at hk⟩
  | [], _ :: _, l, vals, h, hl, hc => by simp [St.tcells] at h
  | .pl :: ks, [], l, vals, h, hl, hc => by simp [St.tcells] at h
  | .row s E :: ks, [], l, vals, h, hl, hc => by simp [St.tcells] at h
  | k :: ks, c :: cc, l, [], h, hl, hc => by cases hl
  | k :: ks, c :: cc, l, u :: vals, h, hl, hc => by
    have hc' : ∀ (j : Nat) (c : C), cc[j]? = some c → ∃ u, vals[j]? = some u ∧ CRep ρ β ok w c u := fun j c hj => by simpa using hc (j + 1) c (by simpa using hj)
    have hl' : vals.length = cc.length := by simpa using hl
    obtain ⟨u', hu', hr⟩ := hc 0 c rfl
    simp at hu'; subst hu'
    have fin : ∀ (a : A) (ro : Option Nat) (q : List (A × Option Nat)), l = (a, ro) :: q → S.tcells ks cc = some q → TcOK S ρ β ok w a ro u k →
        l.length = (k :: ks).length ∧ (c :: cc).length = (k :: ks).length ∧ ∀ (i : Nat) (k' : TK), (k :: ks)[i]? = some k' → ∃ a ro u', l[i]? = some (a, ro) ∧ (u :: vals)[i]? = some u' ∧ TcOK S ρ β ok w a ro u' k' := by
      intro a ro q hlq hq hm
      obtain ⟨i1, i2, i3⟩ := tcells_sound hq hl' hc'
      subst hlq
      refine ⟨by simp [i1], by simp [i2], fun i k' hk => ?_⟩
      cases i with
      | zero => simp only [List.getElem?_cons_zero, Option.some.injEq] at hk; subst hk; exact ⟨a, ro, u, rfl, rfl, hm⟩
      | succ i => simpa using i3 i k' (by simpa using hk)
    cases k with
    | pl =>
      simp only [St.tcells] at h
      split at h
      · rename_i a q ha hq
        cases h
        exact fin a none q rfl hq ⟨rfl, plain_rd ha hr⟩
      · cases h
    | row s E =>
      cases c with
      | nils =>
        simp only [St.tcells, Option.map_eq_some_iff] at h
        obtain ⟨q, hq, rfl⟩ := h
        exact fin _ _ q rfl hq (.inl ⟨rfl, rfl, hr⟩)
      | own j =>
        simp only [St.tcells] at h
        split at h
        · rename_i x s' E' q hb hq
          split at h
          · rename_i he
            obtain ⟨rfl, rfl⟩ := he
            cases h
            exact fin _ _ q rfl hq (.inr ⟨j, rfl, hb, hr⟩)
          · cases h
        · cases h
      | _ => simp [St.tcells] at h

theorem ownsR_one {w : World} {b0 : Nat → Prop} {E : TypeId} {s : Nat} {v : Value} {n : Nat} {xs : List Value} (h : w.ownsR b0 E s v n xs) : v.oneCell' = true := by
  obtain ⟨a, cap, rfl, _⟩ := ownsR_slice h; rfl
theorem ownsR_mine {w : World} {b0 : Nat → Prop} {E : TypeId} {s : Nat} {v : Value} {n : Nat} {xs : List Value} (h : w.ownsR b0 E s v n xs) {m : Nat} (hm : blockOf v = some m) : b0 m := by
  rcases h.2 with ⟨rfl, _⟩ | ⟨g, cap, cur, rfl, hg, _⟩
  · cases hm
  · cases hm; exact hg

/-- The cells and the arguments are as the contract wants them. -/
theorem tst_of {w0 : W0} {ok0 : Nat → Prop} {fs : List (Array Value)} {stk : List Frm} {ρ : List DV} {β : Bm} {nt : Nat} {tm : Nat → Option SV} {S : St} {a : Act} {w : World} (H : RM w0 ok0 fs stk ρ β nt tm S.bl a w)
    {ks : List TK} {cc : List C} {l : List (A × Option Nat)} {vals : List Value} (h : S.tcells ks cc = some l) (hlen : vals.length = cc.length)
    (hc : ∀ (j : Nat) (c : C), cc[j]? = some c → ∃ u, vals[j]? = some u ∧ CRep ρ β (okS w0 ok0 S.bl β) w c u) {k b : Nat} {bk : Blk} (hap : apart (l.filterMap (·.2)) = true)
    (hk : S.bl k = some bk) (hkm : bk.mut = true) (hkb : ∀ x s E, bk ≠ .own x s E) (hβk : β k = some (.pointer (some ⟨b, 0, none⟩))) :
    TSt w0.own (okS w0 ok0 S.bl β) w b ks vals (l.map fun p => p.1.ev ρ) ∧ (∀ i m, RowAt ks vals i m → ∃ j ∈ l.filterMap (·.2), ∃ (u : Value) (x : A) (s : Nat) (E : TypeId), S.bl j = some (.own x s E) ∧ β j = some u ∧ blockOf u = some m) ∧
      (∀ j ∈ l.filterMap (·.2), ∃ (x : A) (s : Nat) (E : TypeId) (i : Nat) (u : Value), S.bl j = some (.own x s E) ∧ β j = some u ∧ vals[i]? = some u ∧ ks[i]? = some (TK.row s E)) := by
  obtain ⟨l1, l2, l3⟩ := tcells_sound h hlen hc
  have hrow : ∀ i m, RowAt ks vals i m → ∃ a j, l[i]? = some (a, some j) ∧ ∃ u s E, S.bl j = some (.own a s E) ∧ β j = some u ∧ blockOf u = some m := fun i m ⟨s, E, v, h1, h2, h3⟩ => by
    obtain ⟨a, ro, u, e1, e2, e3⟩ := l3 i _ h1
    rw [e2] at h2; cases h2
    rcases e3 with ⟨_, _, rfl⟩ | ⟨j, rfl, e4, e5⟩
    · cases h3
    · exact ⟨a, j, e1, v, s, E, e4, e5, h3⟩
  refine ⟨⟨by rw [hlen, l2], by simp [l1], fun i k v d h1 h2 h3 => ?_, fun i j m h1 h2 => ?_, fun i m h1 => ?_, fun i m h1 h2 => ?_, fun h1 => h1.2 k bk _ hk hkm hβk rfl⟩, fun i m h1 => ?_, fun j hj => ?_⟩
  · obtain ⟨x, ro, u, e1, e2, e3⟩ := l3 i k h1
    rw [e2] at h2; cases h2
    rw [List.getElem?_map, e1] at h3
    simp only [Option.map_some, Option.some.injEq] at h3
    cases k with
    | pl =>
      obtain ⟨_, d', hd, hr⟩ := e3
      rw [A.ev_of_rd hd] at h3
      subst h3; exact hr
    | row s E =>
      rcases e3 with ⟨_, rfl, rfl⟩ | ⟨j, _, e4, e5⟩
      · exact ⟨0, [], h3.symm, [], World.ownsR_nil _ _ _ _, rfl, fun j d hj => by simp at hj⟩
      · obtain ⟨v', n, cells, g1, g2, xs, g3, g4, g5⟩ := H.hbl j _ e4
        rw [e5] at g1; cases g1
        rw [A.ev_of_rd g2] at h3
        exact ⟨n, cells, h3.symm, xs, g3, g4, g5⟩
  · obtain ⟨a1, j1, e1, u1, s1, E1, e2, e3, e4⟩ := hrow i m h1
    obtain ⟨a2, j2, f1, u2, s2, E2, f2, f3, f4⟩ := hrow j m h2
    have := H.inj j1 j2 _ _ u1 u2 m e2 rfl f2 rfl e3 f3 e4 f4
    subst this
    exact apart_inj hap e1 f1
  · obtain ⟨a1, j1, e1, u1, s1, E1, e2, e3, e4⟩ := hrow i m h1
    intro hm
    subst hm
    have := H.inj j1 k _ _ u1 _ m e2 rfl hk hkm e3 hβk e4 rfl
    subst this
    rw [e2] at hk
    exact hkb _ _ _ (Option.some.inj hk).symm
  · obtain ⟨a1, j1, e1, u1, s1, E1, e2, e3, e4⟩ := hrow i m h1
    exact h2.2 j1 _ u1 e2 rfl e3 e4
  · obtain ⟨a1, j1, e1, u1, s1, E1, e2, e3, e4⟩ := hrow i m h1
    exact ⟨j1, List.mem_filterMap.2 ⟨_, List.mem_of_getElem? e1, rfl⟩, u1, a1, s1, E1, e2, e3, e4⟩
  · obtain ⟨⟨a1, ro⟩, hm, rfl⟩ := List.mem_filterMap.1 hj
    obtain ⟨i, hi⟩ := List.mem_iff_getElem?.1 hm
    have hil : i < ks.length := by rw [← l1]; exact (List.getElem?_eq_some_iff.1 hi).1
    obtain ⟨a2, ro2, u, e1, e2, e3⟩ := l3 i _ (List.getElem?_eq_getElem hil)
    rw [hi] at e1
    simp only [Option.some.injEq, Prod.mk.injEq] at e1
    obtain ⟨rfl, rfl⟩ := e1
    cases hkk : ks[i] with
    | pl => rw [hkk] at e3; cases e3.1
    | row s E =>
      rw [hkk] at e3
      rcases e3 with ⟨h1, _⟩ | ⟨j', h1, e4, e5⟩
      · cases h1
      · cases h1
        exact ⟨a1, s, E, i, u, e4, e5, e2, by rw [List.getElem?_eq_getElem hil, hkk]⟩

theorem TKRep.mono {mine mine' ok ok' : Nat → Prop} {w : World} {k : TK} {d : DV} {v : Value} (h : TKRep mine ok w k d v) (hm : ∀ b, blockOf v = some b → mine b → mine' b) (ho : ∀ b, ok b → ok' b) : TKRep mine' ok' w k d v := by
  cases k with
  | pl => exact Reads.mono ho h
  | row s E =>
    obtain ⟨n, cells, rfl, xs, h1, h2, h3⟩ := h
    exact ⟨n, cells, rfl, xs, ownsR_base h1 fun g hg => hm g hg (ownsR_mine h1 hg), h2, fun j d hj => let ⟨u, hu, hr⟩ := h3 j d hj; ⟨u, hu, hr.mono ho⟩⟩
theorem TSt.mono {mine mine' ok : Nat → Prop} {w : World} {gb : Nat} {ks : List TK} {vals : List Value} {ds : List DV} (h : TSt mine ok w gb ks vals ds) (hm : ∀ b, mine b → mine' b) : TSt mine' ok w gb ks vals ds :=
  { h with rep := fun i k v d h1 h2 h3 => (h.rep i k v d h1 h2 h3).mono (fun b _ => hm b) fun _ h => h }

/-- The places behind a call that turned a box. -/
def tkβ (ks : List TK) (b : Nat) (vals : List Value) (β : Bm) : Bm := fun j =>
  if b ≤ j then (match ks[j - b]? with | some (.row _ _) => vals[j - b]? | _ => β j) else β j
theorem tkβ_lt {ks : List TK} {b : Nat} {vals : List Value} {β : Bm} {j : Nat} (h : j < b) : tkβ ks b vals β j = β j := by unfold tkβ; rw [if_neg (by omega)]
theorem tkβ_ge {ks : List TK} {b : Nat} {vals : List Value} {β : Bm} {j : Nat} (h : b + ks.length ≤ j) : tkβ ks b vals β j = β j := by
  unfold tkβ; split
  · rw [List.getElem?_eq_none (by omega)]
  · rfl
theorem tkβ_row {ks : List TK} {b : Nat} {vals : List Value} {β : Bm} {i : Nat} {s : Nat} {E : TypeId} (h : ks[i]? = some (.row s E)) : tkβ ks b vals β (b + i) = vals[i]? := by
  unfold tkβ; rw [if_pos (by omega), Nat.add_sub_cancel_left, h]
theorem tkBl_row {ks : List TK} {v b : Nat} {bl : Nat → Option Blk} {i : Nat} {s : Nat} {E : TypeId} (h : ks[i]? = some (.row s E)) : tkBl ks v b bl (b + i) = some (.own (.var (v + i)) s E) := by
  unfold tkBl; rw [if_pos (by omega), Nat.add_sub_cancel_left, h]
theorem tkBl_ge {ks : List TK} {v b : Nat} {bl : Nat → Option Blk} {j : Nat} (h : b + ks.length ≤ j) : tkBl ks v b bl j = bl j := by
  unfold tkBl; split
  · rw [List.getElem?_eq_none (by omega)]
  · rfl
theorem tk_cases {ks : List TK} {v b : Nat} {bl : Nat → Option Blk} {β : Bm} {vals : List Value} (j : Nat) : (∃ i s E, j = b + i ∧ ks[i]? = some (.row s E)) ∨ (tkBl ks v b bl j = bl j ∧ tkβ ks b vals β j = β j) := by
  unfold tkBl tkβ
  by_cases hj : b ≤ j
  · rw [if_pos hj, if_pos hj]
    cases hk : ks[j - b]? with
    | none => exact .inr ⟨rfl, rfl⟩
    | some k =>
      cases k with
      | pl => exact .inr ⟨rfl, rfl⟩
      | row s E => exact .inl ⟨j - b, s, E, by omega, hk⟩
  · rw [if_neg hj, if_neg hj]; exact .inr ⟨rfl, rfl⟩
theorem tkCells_get {ks : List TK} {v b i j : Nat} : (tkCells ks v b i)[j]? = (ks[j]?).map fun k => k.cell v b (i + j) := by
  unfold tkCells; rw [List.getElem?_mapIdx]
theorem tkCells_len {ks : List TK} {v b i : Nat} : (tkCells ks v b i).length = ks.length := by unfold tkCells; rw [List.length_mapIdx]
theorem dropAll_some {bl : Nat → Option Blk} {l : List Nat} {j : Nat} {b : Blk} (h : dropAll bl l j = some b) : bl j = some b ∧ j ∉ l := by
  unfold dropAll at h
  split at h
  · cases h
  · rename_i hc; exact ⟨h, fun hm => hc (List.contains_iff_mem.2 hm)⟩
theorem dropAll_none {bl : Nat → Option Blk} {l : List Nat} {j : Nat} (h : bl j = none) : dropAll bl l j = none := by
  unfold dropAll; split
  · rfl
  · exact h

/-- Plain arguments, one by one. -/
theorem oneC_some {v : Option SV} {c : C} (h : oneC v = some c) : v = some (.s (.one c)) := by
  unfold oneC at h
  split at h
  · cases h; rfl
  · cases h

/-- A call that turns a box. -/
theorem turn_ok {o : Oper} {S : St} {x : Operand} {args : Array Operand} {argTypes : Array TypeId} {f : FuncId} {cells targs : List TK} {nres : Nat} {k : Nat} {rest : List (Option SV)} {cs rcs : List C} {T : TypeId} {l : List (A × Option Nat)}
    (ho : o.op = .call { callee := .value x, args := args, argTypes := argTypes }) (hx : S.ev x = some (.s (.one (.fn f [])))) (hargs : args.toList.map S.ev = some (.s (.one (.lp k 0))) :: rest)
    (hk : S.bl k = some (.box cs T false)) (hrc : rest.mapM oneC = some rcs) (htc : S.tcells (cells ++ targs) (cs ++ rcs) = some l)
    {fs : List (Array Value)} {K : Option SV → St → Option IR} {ir : IR} {As : List (List DV → Prop)} {ρ : List DV} {β : Bm} {a : Act} {w : World}
    (h : (if decide (cs.length = cells.length) && (l.map (·.1)).all (A.lt S.nv) && apart (k :: l.filterMap (·.2)) && decide (k < S.nb) && decide (nres < 2) then
                  (K (if nres = 0 then some (.tup []) else some (.s (.one (.at (.var S.nv)))))
                    { S with nv := S.nv + (nres + cells.length), nb := S.nb + cells.length,
                             bl := upd (tkBl cells (S.nv + nres) S.nb (dropAll S.bl (l.filterMap (·.2)))) k (some (.box (tkCells cells (S.nv + nres) S.nb 0) T false)) }).map (IR.turn f cells targs nres (l.map (·.1)))
                else none) = some ir) (hw : IRwp P As ρ ir Q) (hA : As.length = S.dp) (H : AtS w0 ok0 fs S ρ β a w) (Qx : Exit → Act → World → Prop) :
    o.wp P a w (fun a' w' => ∃ v sv S' ρ' β' ir' As', a' = a.put o.dst v ∧ K sv S' = some ir' ∧ IRwp P As' ρ' ir' Q ∧ (∃ l, As' = As ++ l) ∧ As'.length = S'.dp ∧
      AtS w0 ok0 fs S' ρ' β' a w' ∧ S'.fr.nt = S.fr.nt ∧ ∀ s, sv = some s → SVRep ρ' β' (okS w0 ok0 S'.bl β') w' s v) Qx := by
  split at h
  · rename_i hcond
    simp only [Bool.and_eq_true, decide_eq_true_eq] at hcond
    obtain ⟨⟨⟨⟨hcl, hlt⟩, hap⟩, hkn⟩, hnr⟩ := hcond
    simp only [apart, Bool.and_eq_true] at hap
    simp only [Option.map_eq_some_iff] at h
    obtain ⟨ir', hK, rfl⟩ := h
    obtain ⟨outs, ⟨⟨fn, hfn, hname, hbody⟩, holen, hcalls⟩, hw'⟩ := hw
    -- the box
    obtain ⟨gb, arr, T', fz, hβk, hheap, hcs, hro, _, hgiv⟩ := H.rm.hbl k _ hk
    obtain ⟨hgown, rfl⟩ := hro rfl
    -- the arguments
    obtain ⟨x0, xs0, hxs⟩ : ∃ x0 xs0, args.toList = x0 :: xs0 := by
      cases hh : args.toList with
      | nil => rw [hh] at hargs; cases hargs
      | cons x0 xs0 => exact ⟨x0, xs0, rfl⟩
    rw [hxs, List.map_cons] at hargs
    obtain ⟨hx0, hrest⟩ := List.cons.inj hargs
    have hv0 : a.eval x0 = .pointer (some ⟨gb, 0, none⟩) := by
      obtain ⟨b', h1, h2⟩ := H.rm.one (x := x0) (c := .lp k 0) (by rw [← St.ev_eq]; exact hx0)
      rw [hβk] at h1; cases h1; exact h2
    have hrcm := mapM_get _ _ _ hrc
    have hvs : args.map a.eval = (Value.pointer (some ⟨gb, 0, none⟩) :: xs0.map a.eval).toArray := by
      apply Array.ext'
      simp only [Array.toList_map, hxs, List.map_cons, hv0]
    have hrlen : rcs.length = xs0.length := by rw [hrcm.1, ← hrest]; simp
    have hcc : ∀ (j : Nat) (c : C), (cs ++ rcs)[j]? = some c → ∃ u, (arr.toList ++ xs0.map a.eval)[j]? = some u ∧ CRep ρ β (okS w0 ok0 S.bl β) w c u := fun j c hj => by
      have hal : arr.toList.length = cs.length := by simpa using hcs.1
      by_cases hjl : j < cs.length
      · rw [List.getElem?_append_left hjl] at hj
        obtain ⟨u, hu, hr⟩ := hcs.2 j c hj
        exact ⟨u, by rw [List.getElem?_append_left (by omega)]; simpa using hu, hr⟩
      · rw [List.getElem?_append_right (by omega)] at hj
        obtain ⟨y, hy, hyc⟩ := mapM_back _ hrc hj
        rw [← hrest, List.getElem?_map] at hy
        cases hz : xs0[j - cs.length]? with
        | none => rw [hz] at hy; cases hy
        | some z =>
          rw [hz] at hy
          simp only [Option.map_some, Option.some.injEq] at hy
          have hz2 := oneC_some hyc
          refine ⟨a.eval z, by rw [List.getElem?_append_right (by omega), hal, List.getElem?_map, hz]; rfl, H.rm.one (x := z) (by rw [← St.ev_eq, hy]; exact hz2)⟩
    have hvl : (arr.toList ++ xs0.map a.eval).length = (cs ++ rcs).length := by simp [hrlen]; simpa using hcs.1
    obtain ⟨hst, hrowD, hDrow⟩ := tst_of H.rm htc hvl hcc (k := k) (b := gb) (bk := .box cs T false) hap.2 hk rfl (fun _ _ _ he => by cases he) hβk
    -- the call
    obtain ⟨capv, hfv, hcsz, _⟩ := H.rm.one (x := x) (by rw [← St.ev_eq]; exact hx)
    have hc0 : capv = #[] := Array.eq_empty_of_size_eq_zero (by simpa using hcsz)
    have hrun : (execOp a.eval o).run P w = .ok (.enter f (Value.pointer (some ⟨gb, 0, none⟩) :: xs0.map a.eval).toArray) w := by
      simp only [execOp, ho, resolve, hfv, hc0, Deferred.ofValue, invoke, callFunc, Sem.run_bind, Sem.run_pure, Result.andThen_ok, program, Sem.run, hfn, Array.empty_append, hname, hbody, Bool.false_eq_true, if_false, hvs, Array.append_empty]
    unfold Oper.wp
    rw [hrun]
    refine (hcalls w (okS w0 ok0 S.bl β) gb arr T' (xs0.map a.eval) hheap (by rw [hcs.1, hcl]) (by simpa [Function.comp_def] using hst.mono fun _ _ => trivial)).mono fun e w' => ?_
    rintro ⟨v, arr', T'', own, ok', rfl, hown, hok', hg, hheap', hsz', htst, hres⟩
    -- the state behind
    have hnv : ∀ i, S.nv + i = ρ.length + i := fun i => by rw [H.len]
    have hkS : ∀ b, S.bl b = none → b ≠ k := fun b hb he => by rw [he, hk] at hb; cases hb
    let D := k :: l.filterMap (·.2)
    let N := k :: (List.range cells.length).map (S.nb + ·)
    let β' := tkβ cells S.nb arr'.toList β
    let bl' := upd (tkBl cells (S.nv + nres) S.nb (dropAll S.bl (l.filterMap (·.2)))) k (some (.box (tkCells cells (S.nv + nres) S.nb 0) T false))
    have hNin : ∀ i s E, cells[i]? = some (.row s E) → S.nb + i ∈ N := fun i s E hi => by
      refine List.mem_cons_of_mem _ (List.mem_map.2 ⟨i, List.mem_range.2 (List.getElem?_eq_some_iff.1 hi).1, rfl⟩)
    have hcases : ∀ j, (∃ i s E, j = S.nb + i ∧ cells[i]? = some (.row s E)) ∨ (tkBl cells (S.nv + nres) S.nb (dropAll S.bl (l.filterMap (·.2))) j = dropAll S.bl (l.filterMap (·.2)) j ∧ β' j = β j) := fun j => tk_cases j
    have hβ'k : β' k = some (.pointer (some ⟨gb, 0, none⟩)) := by show tkβ _ _ _ _ k = _; rw [tkβ_lt hkn]; exact hβk
    have hβ'row : ∀ i s E, cells[i]? = some (.row s E) → β' (S.nb + i) = arr'.toList[i]? := fun i s E hi => tkβ_row hi
    have hNk : ∀ j ∈ N, j = k ∨ (∃ i s E, j = S.nb + i ∧ cells[i]? = some (.row s E)) ∨ (β' j = none ∧ bl' j = none) := fun j hj => by
      rcases List.mem_cons.1 hj with rfl | hj
      · exact .inl rfl
      · obtain ⟨i, _, rfl⟩ := List.mem_map.1 hj
        rcases hcases (S.nb + i) with h1 | ⟨h1, h2⟩
        · exact .inr (.inl h1)
        · have hn := H.bln (S.nb + i) (by omega)
          refine .inr (.inr ⟨by rw [h2]; exact H.βn _ (by omega), ?_⟩)
          show upd _ k _ (S.nb + i) = none
          unfold upd
          rw [if_neg (hkS _ hn), h1]; exact dropAll_none hn
    have hgiven : ∀ m, own m → m = gb ∨ (∃ j ∈ l.filterMap (·.2), ∃ (u : Value) (x : A) (s : Nat) (E : TypeId), S.bl j = some (.own x s E) ∧ β j = some u ∧ blockOf u = some m) ∨ w.heap.size ≤ m := fun m hm => by
      rcases (hown m).1 hm with h1 | ⟨i, hi⟩ | h1
      · exact .inl h1
      · exact .inr (.inl (hrowD i m hi))
      · exact .inr (.inr h1)
    have hown0 : ∀ m, own m → w0.own m := fun m hm => by
      rcases hgiven m hm with rfl | ⟨j, _, u, x, s, E, e1, e2, e3⟩ | h1
      · exact hgown
      · exact (H.rm.lt_of_mut e1 rfl e2 e3).1
      · exact H.rm.bel.own h1
    have hrow' : ∀ i s E, cells[i]? = some (.row s E) → ∀ v m, arr'.toList[i]? = some v → blockOf v = some m → RowAt cells arr'.toList i m := fun i s E hi v m hv hm => ⟨s, E, v, hi, hv, hm⟩
    have hrowown : ∀ i m, RowAt cells arr'.toList i m → own m := fun i m ⟨s, E, v, h1, h2, h3⟩ => by
      have hil : i < cells.length := (List.getElem?_eq_some_iff.1 h1).1
      have hd : ∃ d, (outs.drop nres)[i]? = some d := ⟨(outs.drop nres)[i]'(by rw [htst.dlen]; exact hil), List.getElem?_eq_getElem _⟩
      obtain ⟨d, hd⟩ := hd
      obtain ⟨n, cs2, _, xs, ho2, _⟩ := htst.rep i _ v d h1 h2 hd
      exact ownsR_mine ho2 h3
    have hoks : ∀ m, ok' m → okS w0 ok0 bl' β' m := fun m hm => by
      obtain ⟨hm1, hm2, hm3⟩ := (hok' m).1 hm
      refine ⟨?_, fun j b u hb hmu hu he => ?_⟩
      · rcases hm1 with h1 | h1
        · exact h1.1
        · exact .inr (hown0 m h1)
      · have hbj : j ≠ k → bl' j = tkBl cells (S.nv + nres) S.nb (dropAll S.bl (l.filterMap (·.2))) j := fun hne => by show upd _ k _ j = _; unfold upd; rw [if_neg hne]
        by_cases hjk : j = k
        · subst hjk
          rw [hβ'k] at hu; cases hu; cases he; exact hm2 rfl
        · rw [hbj hjk] at hb
          rcases hcases j with ⟨i, s, E, rfl, hi⟩ | ⟨h1, h2⟩
          · rw [hβ'row i s E hi] at hu
            exact hm3 i (hrow' i s E hi u m hu he)
          · rw [h1] at hb
            rw [h2] at hu
            obtain ⟨g1, g2⟩ := dropAll_some hb
            rcases hm1 with hm1 | hm1
            · exact hm1.2 j b u g1 hmu hu he
            · rcases hgiven m hm1 with rfl | ⟨j2, hj2, u2, x, s, E, e1, e2, e3⟩ | h3
              · exact hjk (H.rm.inj j k b _ u _ m g1 hmu hk rfl hu hβk he rfl)
              · exact g2 ((H.rm.inj j j2 b _ u u2 m g1 hmu e1 rfl hu e2 he e3) ▸ hj2)
              · have := (H.rm.lt_of_mut g1 hmu hu he).2; omega
    have hExt : Ext ρ (ρ ++ outs) := Ext.app ρ outs
    have hrd : ∀ i d, outs[i]? = some d → (A.var (S.nv + i)).rd (ρ ++ outs) = some d := fun i d hd => by
      simp only [A.rd, ← H.len]
      rw [List.getElem?_append_right (by omega), Nat.add_sub_cancel_left]; exact hd
    have hcell : ∀ i k2, cells[i]? = some k2 → ∃ u d, arr'.toList[i]? = some u ∧ outs[nres + i]? = some d ∧ TKRep own ok' w' k2 d u := fun i k2 hi => by
      have hil : i < cells.length := (List.getElem?_eq_some_iff.1 hi).1
      have h1 : arr'.toList[i]? = some (arr'.toList[i]'(by simp; omega)) := List.getElem?_eq_getElem _
      have h2 : (outs.drop nres)[i]? = some ((outs.drop nres)[i]'(by rw [htst.dlen]; exact hil)) := List.getElem?_eq_getElem _
      exact ⟨_, _, h1, by rw [← List.getElem?_drop]; exact h2, htst.rep i k2 _ _ hi h1 h2⟩
    have HS := H.rm.swap (ρ' := ρ ++ outs) (β' := β') (bl' := bl') (w' := w') (D := D) (N := N) hExt
      (fun j hj => by
        rcases List.mem_cons.1 hj with rfl | hj
        · exact ⟨_, _, hk, rfl, hβk⟩
        · obtain ⟨x, s, E, i, u, e1, e2, _⟩ := hDrow j hj
          exact ⟨_, _, e1, rfl, e2⟩)
      (fun j u hu => by
        have : j < S.nb := by
          by_cases hj : j < S.nb
          · exact hj
          · rw [H.βn j (by omega)] at hu; cases hu
        show tkβ _ _ _ _ j = _
        rw [tkβ_lt this]; exact hu)
      (fun j hj => by
        rcases hcases j with ⟨i, s, E, rfl, hi⟩ | ⟨_, h2⟩
        · exact absurd (hNin i s E hi) hj
        · exact h2)
      hg.os hg.tape hg.output hg.drawn hg.size
      (fun m hm hnot => hg.block m hm fun ho2 => by
        rcases hgiven m ho2 with rfl | ⟨j2, hj2, u2, x, s, E, e1, e2, e3⟩ | h3
        · exact hnot k (by simp [D]) _ hβk rfl
        · exact hnot j2 (List.mem_cons_of_mem _ hj2) u2 e2 e3
        · omega)
      (fun j b hb hj => by
        have hjk : j ≠ k := fun he => hj (by simp [N, he])
        have hb2 : tkBl cells (S.nv + nres) S.nb (dropAll S.bl (l.filterMap (·.2))) j = some b := by
          have : bl' j = tkBl cells (S.nv + nres) S.nb (dropAll S.bl (l.filterMap (·.2))) j := by show upd _ k _ j = _; unfold upd; rw [if_neg hjk]
          rw [← this]; exact hb
        rcases hcases j with ⟨i, s, E, rfl, hi⟩ | ⟨h1, _⟩
        · exact absurd (hNin i s E hi) hj
        · rw [h1] at hb2
          obtain ⟨g1, g2⟩ := dropAll_some hb2
          exact ⟨g1, fun hD => by
            rcases List.mem_cons.1 hD with rfl | hD
            · exact hjk rfl
            · exact g2 hD⟩)
      (fun j hj u m hu he => by
        rcases hNk j hj with rfl | ⟨i, s, E, rfl, hi⟩ | ⟨h1, _⟩
        · rw [hβ'k] at hu; cases hu; cases he
          exact .inr ⟨j, by simp [D], _, hβk, rfl⟩
        · rw [hβ'row i s E hi] at hu
          rcases hgiven m (hrowown i m (hrow' i s E hi u m hu he)) with rfl | ⟨j2, hj2, u2, x, s, E, e1, e2, e3⟩ | h3
          · exact .inr ⟨k, by simp [D], _, hβk, rfl⟩
          · exact .inr ⟨j2, List.mem_cons_of_mem _ hj2, u2, e2, e3⟩
          · exact .inl h3
        · rw [h1] at hu; cases hu)
      (fun j hj j' hj' u u' m hu hu' he he' => by
        rcases hNk j hj with rfl | ⟨i, s, E, rfl, hi⟩ | ⟨h1, _⟩
        · rw [hβ'k] at hu; cases hu; cases he
          rcases hNk j' hj' with rfl | ⟨i, s, E, rfl, hi⟩ | ⟨h1, _⟩
          · rfl
          · rw [hβ'row i s E hi] at hu'
            exact absurd rfl (htst.ngb i _ (hrow' i s E hi u' _ hu' he'))
          · rw [h1] at hu'; cases hu'
        · rw [hβ'row i s E hi] at hu
          have r1 := hrow' i s E hi u m hu he
          rcases hNk j' hj' with rfl | ⟨i', s', E', rfl, hi'⟩ | ⟨h1, _⟩
          · rw [hβ'k] at hu'; cases hu'; cases he'
            exact absurd rfl (htst.ngb i _ r1)
          · rw [hβ'row i' s' E' hi'] at hu'
            rw [htst.inj i i' m r1 (hrow' i' s' E' hi' u' m hu' he')]
          · rw [h1] at hu'; cases hu'
        · rw [h1] at hu; cases hu)
      (fun hmono j hj b hb => by
        rcases hNk j hj with rfl | ⟨i, s, E, rfl, hi⟩ | ⟨_, h1⟩
        · have hb2 : b = .box (tkCells cells (S.nv + nres) S.nb 0) T false := by
            have : bl' j = some (.box (tkCells cells (S.nv + nres) S.nb 0) T false) := by show upd _ j _ j = _; unfold upd; rw [if_pos rfl]
            rw [this] at hb; exact (Option.some.inj hb).symm
          subst hb2
          refine ⟨gb, arr', T'', (0, 0), hβ'k, hheap', ⟨by rw [tkCells_len, hsz'], fun i c hc => ?_⟩, fun _ => ⟨hgown, rfl⟩, fun hh => (by cases hh), hgiv⟩
          rw [tkCells_get] at hc
          cases hi : cells[i]? with
          | none => rw [hi] at hc; cases hc
          | some k2 =>
            rw [hi] at hc
            simp only [Option.map_some, Option.some.injEq] at hc
            obtain ⟨u, d, h1, h2, h3⟩ := hcell i k2 hi
            refine ⟨u, by simpa using h1, ?_⟩
            subst hc
            cases k2 with
            | pl =>
              refine ⟨d, ?_, Reads.mono hoks h3⟩
              have := hrd _ _ h2
              rwa [show S.nv + (nres + i) = S.nv + nres + (0 + i) by omega] at this
            | row s E => show β' (S.nb + (0 + i)) = some u; rw [Nat.zero_add, hβ'row i s E hi]; exact h1
        · have hne : S.nb + i ≠ k := by omega
          have hb2 : b = .own (.var (S.nv + nres + i)) s E := by
            have : bl' (S.nb + i) = some (.own (.var (S.nv + nres + i)) s E) := by show upd _ k _ _ = _; unfold upd; rw [if_neg hne]; exact tkBl_row hi
            rw [this] at hb; exact (Option.some.inj hb).symm
          subst hb2
          obtain ⟨u, d, h1, h2, n, cs2, rfl, xs, h4, h5, h6⟩ := hcell i _ hi
          refine ⟨u, n, cs2, by rw [hβ'row i s E hi]; exact h1, ?_, xs, ownsR_base h4 fun g hg2 => hown0 g (ownsR_mine h4 hg2), h5, fun j d hj => let ⟨u, hu, hr⟩ := h6 j d hj; ⟨u, hu, hr.mono hoks⟩⟩
          have := hrd _ _ h2
          rwa [show S.nv + (nres + i) = S.nv + nres + i by omega] at this
        · rw [h1] at hb; cases hb)
      (fun j hj u hu => by
        rcases hNk j hj with rfl | ⟨i, s, E, rfl, hi⟩ | ⟨h1, _⟩
        · rw [hβ'k] at hu; cases hu; rfl
        · rw [hβ'row i s E hi] at hu
          obtain ⟨u', d, h1, h2, n, cs2, rfl, xs, h4, h5, h6⟩ := hcell i _ hi
          rw [h1] at hu; cases hu
          exact ownsR_one h4
        · rw [h1] at hu; cases hu)
    refine ⟨v, _, _, ρ ++ outs, β', ir', As, rfl, hK, hw', ⟨[], by simp⟩, hA, ⟨HS.1, H.kn.ext hExt, by simp [H.len, holen], fun j hj => ?_, fun j hj => ?_⟩, rfl, fun sv hs => ?_⟩
    · have hj' : S.nb + cells.length ≤ j := hj
      show upd _ k _ j = none
      unfold upd
      rw [if_neg (by omega), tkBl_ge hj']
      exact dropAll_none (H.bln j (by omega))
    · have hj' : S.nb + cells.length ≤ j := hj
      show tkβ _ _ _ _ j = none
      rw [tkβ_ge hj']; exact H.βn j (by omega)
    · rcases hres with ⟨rfl, rfl⟩ | ⟨rfl, d, hd, hr⟩
      · simp only [if_true, Option.some.injEq] at hs
        subst hs
        exact ⟨#[], rfl, rfl, fun j x hj => by simp at hj⟩
      · simp only [Nat.one_ne_zero, if_false, Option.some.injEq] at hs
        subst hs
        exact ⟨d, hrd 0 d hd, hr.mono hoks⟩
  · cases h

theorem okS_turn {w0 : W0} {ok0 : Nat → Prop} {bl : Nat → Option Blk} {β : Bm} {k : Nat} {b b' : Blk} (hk : bl k = some b) (hm : b.mut = true) (j : Nat) (hj : okS w0 ok0 bl β j) : okS w0 ok0 (upd bl k (some b')) β j := ⟨hj.1, fun k' blk u hb2 hm2 hu he => by
    unfold upd at hb2
    split at hb2
    · rename_i hkk; subst hkk
      exact hj.2 k' b u hk hm hu he
    · exact hj.2 k' blk u hb2 hm2 hu he⟩

theorem reads_noptr {ok : Nat → Prop} {w : World} {d : DV} {a : Option Addr} (h : Reads ok w d (.pointer a)) : False := by cases h

/-- A row that is sorted by a closure. -/
theorem sortc_ok {o : Oper} {S : St} {x : Operand} {args : Array Operand} {argTypes : Array TypeId} {f : FuncId} {k : Nat} {y : A} {s s' : Nat} {E : TypeId} {g : FuncId} {l : List CA} (ho : o.op = .call { callee := .value x, args := args, argTypes := argTypes })
    (hx : S.ev x = some (.s (.one (.fn f [])))) (hr : sortArgs S (args.toList.map S.ev) = some (k, y, s', E, g, l))
    {fs : List (Array Value)} {K : Option SV → St → Option IR} {ir : IR} {As : List (List DV → Prop)} {ρ : List DV} {β : Bm} {a : Act} {w : World}
    (h : (if y.lt S.nv && l.all (CA.lt S.nv) && s == s' then (K (some (.tup [])) (({ S with nv := S.nv + 1 } : St).setB k (.own (.var S.nv) s E))).map (IR.sortc f s E g l y) else none) = some ir)
    (hw : IRwp P As ρ ir Q) (hA : As.length = S.dp) (H : AtS w0 ok0 fs S ρ β a w) (Qx : Exit → Act → World → Prop) :
    o.wp P a w (fun a' w' => ∃ v sv S' ρ' β' ir' As', a' = a.put o.dst v ∧ K sv S' = some ir' ∧ IRwp P As' ρ' ir' Q ∧ (∃ l, As' = As ++ l) ∧ As'.length = S'.dp ∧
      AtS w0 ok0 fs S' ρ' β' a w' ∧ S'.fr.nt = S.fr.nt ∧ ∀ s, sv = some s → SVRep ρ' β' (okS w0 ok0 S'.bl β') w' s v) Qx := by
  split at h
  · rename_i hcond
    simp only [Bool.and_eq_true, beq_iff_eq] at hcond
    obtain ⟨⟨hlt, hll⟩, rfl⟩ := hcond
    simp only [Option.map_eq_some_iff] at h
    obtain ⟨ir', hK, rfl⟩ := h
    obtain ⟨n, cells, cells', hz, ⟨⟨fn, hfn, hname, hbody⟩, hcalls⟩, hw'⟩ := hw
    unfold sortArgs at hr
    split at hr
    · rename_i k' g' ks hargs
      split at hr
      · rename_i y' s' E' l' hk hcaps
        simp only [Option.some.injEq, Prod.mk.injEq] at hr
        obtain ⟨rfl, rfl, rfl, rfl, rfl, rfl⟩ := hr
        obtain ⟨x0, x1, hxs⟩ : ∃ x0 x1, args.toList = [x0, x1] := by
          match hh : args.toList with
          | [] => rw [hh] at hargs; cases hargs
          | [_] => rw [hh] at hargs; simp at hargs
          | [x0, x1] => exact ⟨x0, x1, rfl⟩
          | _ :: _ :: _ :: _ => rw [hh] at hargs; simp at hargs
        rw [hxs] at hargs
        simp only [List.map_cons, List.map_nil, List.cons.injEq, and_true] at hargs
        obtain ⟨hx0, hx1⟩ := hargs
        obtain ⟨v, n', cells0, g1, g2, xs, g3, g4, g5⟩ := H.rm.hbl _ _ hk
        rw [A.ev_of_rd g2] at hz
        simp only [DV.list.injEq] at hz
        obtain ⟨rfl, rfl⟩ := hz
        have hv : a.eval x0 = v := by
          have := H.rm.one (x := x0) (by rw [← St.ev_eq]; exact hx0)
          simp only [CRep] at this
          rw [g1] at this; exact (Option.some.inj this).symm
        obtain ⟨caps, hcv, hcsz, hcap⟩ := H.rm.one (x := x1) (by rw [← St.ev_eq]; exact hx1)
        obtain ⟨capv, hfv, hcs, _⟩ := H.rm.one (x := x) (by rw [← St.ev_eq]; exact hx)
        have hc0 : capv = #[] := Array.eq_empty_of_size_eq_zero (by simpa using hcs)
        have hvs : args.map a.eval = #[v, .func (.func g') #[] caps] := by
          apply Array.ext'
          simp only [Array.toList_map, hxs, List.map_cons, List.map_nil, hv, hcv]
        have hrun : (execOp a.eval o).run P w = .ok (.enter f #[v, .func (.func g') #[] caps]) w := by
          simp only [execOp, ho, resolve, hfv, hc0, Deferred.ofValue, invoke, callFunc, Sem.run_bind, Sem.run_pure, Result.andThen_ok, program, Sem.run, hfn, Array.empty_append, hname, hbody, Bool.false_eq_true, if_false, hvs, Array.append_empty]
        have hcm := mapM_get _ _ _ hcaps
        have hnok : ∀ m, blockOf v = some m → ¬okS w0 ok0 S.bl β m := fun m hm hok => hok.2 k' _ v hk rfl g1 hm
        have hvown := fun m hm => (H.rm.lt_of_mut (v := v) (m := m) hk rfl g1 hm).1
        -- a box is no row
        have hbox : ∀ (j : Nat) (cs : List C) (T : TypeId) (ro : Bool) (b : Nat), S.bl j = some (.box cs T ro) → β j = some (.pointer (some ⟨b, 0, none⟩)) → blockOf v ≠ some b := fun j cs T ro b hj hb he => by
          cases ro with
          | false =>
            have := H.rm.inj k' j _ _ v _ b hk rfl hj rfl g1 hb he rfl
            subst this
            rw [hk] at hj; cases hj
          | true =>
            obtain ⟨b', arr, T', fz, h1, h2, h3, h4, h5, _⟩ := H.rm.hbl j _ hj
            rw [hb] at h1; cases h1
            exact W0.old_not (h5 rfl) (hvown b he)
        have hev : ∀ {c : C} {z : A} {u : Value}, c.plain = some z → z.lt S.nv = true → CRep ρ β (okS w0 ok0 S.bl β) w c u → Reads (okS w0 ok0 S.bl β) w (z.ev ρ) u := fun hp _ hq => by
          obtain ⟨d, hd, hrd⟩ := plain_rd hp hq
          rw [A.ev_of_rd hd]; exact hrd
        -- one captured box
        have hone : ∀ (j : Nat) (ca : CA) (b : Nat), S.capOf j = some ca → ca.lt S.nv = true → β j = some (.pointer (some ⟨b, 0, none⟩)) →
            RepAV (okS w0 ok0 S.bl β) w (ca.ev ρ) (.pointer (some ⟨b, 0, none⟩)) ∧ ∀ m, CapBlk w (.pointer (some ⟨b, 0, none⟩)) m → blockOf v ≠ some m := by
          intro j ca b hca hcl hb
          unfold St.capOf at hca
          split at hca
          · rename_i j2 T ro hbj
            split at hca
            · rename_i cs2 T2 ro2 hbj2
              cases hca
              obtain ⟨b', arr, T', fz, h1, h2, h3, h4, h5, _⟩ := H.rm.hbl j _ hbj
              rw [hb] at h1; cases h1
              obtain ⟨b2, arr2, T2', fz2, e1, e2, e3, e4, e5, _⟩ := H.rm.hbl j2 _ hbj2
              have harr : arr = #[.pointer (some ⟨b2, 0, none⟩)] := by
                obtain ⟨u, hu, bq, hq, rfl⟩ := h3.2 0 _ rfl
                rw [e1] at hq; cases hq
                have hs1 : arr.size = 1 := h3.1
                apply Array.ext
                · simpa using hs1
                · intro i hi1 hi2
                  have : i = 0 := by simp at hi2; omega
                  subst this
                  simpa [Array.getElem?_eq_getElem (show 0 < arr.size by omega)] using hu
              subst harr
              refine ⟨⟨b, _, T', fz, b2, arr2, T2', fz2, rfl, h2, rfl, e2, by simpa using e3.1, fun i u hu cs hcs => ?_, fun i d hd => ?_⟩, fun m hm => ?_⟩
              · have hil : i < cs2.length := by rw [← e3.1]; exact (Array.getElem?_eq_some_iff.1 hu).1
                obtain ⟨u', hu', hq⟩ := e3.2 i _ (List.getElem?_eq_getElem hil)
                rw [hu] at hu'; cases hu'
                exact hq.notAgg (fun k u hk => notAgg_of_one (H.rm.na k u hk)) cs hcs
              · simp only [List.getElem?_map] at hd
                cases hc2 : cs2[i]? with
                | none => rw [hc2] at hd; simp at hd
                | some c =>
                  rw [hc2] at hd
                  simp only [Option.map_some, Option.some.injEq, Option.map_eq_some_iff] at hd
                  obtain ⟨z, hz, rfl⟩ := hd
                  obtain ⟨u', hu', hq⟩ := e3.2 i c hc2
                  exact ⟨u', hu', hev hz (by
                    have := List.all_eq_true.1 hcl (some z) (List.mem_of_getElem? (by rw [List.getElem?_map, hc2, Option.map_some, hz]))
                    exact this) hq⟩
              · rcases hm with hm | ⟨b0, arr0, T0, fz0, ad, q1, q2, q3, q4⟩
                · cases hm; exact hbox j _ _ _ _ hbj hb
                · cases q1
                  rw [h2] at q2; cases q2
                  simp at q3
                  subst q3; subst q4
                  exact hbox j2 _ _ _ _ hbj2 e1
            · cases hca
          · rename_i cs T ro _ hbj
            simp only [Option.map_eq_some_iff] at hca
            obtain ⟨la, hla, rfl⟩ := hca
            obtain ⟨b', arr, T', fz, h1, h2, h3, h4, h5, _⟩ := H.rm.hbl j _ hbj
            rw [hb] at h1; cases h1
            have hlm := mapM_get _ _ _ hla
            refine ⟨⟨b, arr, T', fz, rfl, h2, by rw [h3.1]; simp [hlm.1], fun i d hd => ?_⟩, fun m hm => ?_⟩
            · simp only [List.getElem?_map] at hd
              cases hz : la[i]? with
              | none => rw [hz] at hd; cases hd
              | some z =>
                rw [hz] at hd
                simp only [Option.map_some, Option.some.injEq] at hd
                subst hd
                obtain ⟨c, hc, hp⟩ := mapM_back _ hla hz
                obtain ⟨u', hu', hq⟩ := h3.2 i c hc
                exact ⟨u', hu', hev hp (List.all_eq_true.1 hcl z (List.mem_of_getElem? hz)) hq⟩
            · rcases hm with hm | ⟨b0, arr0, T0, fz0, ad, q1, q2, q3, q4⟩
              · cases hm; exact hbox j _ _ _ _ hbj hb
              · cases q1
                rw [h2] at q2; cases q2
                obtain ⟨i, hi⟩ := Array.mem_iff_getElem?.1 q3
                have hil : i < cs.length := by rw [← h3.1]; exact (Array.getElem?_eq_some_iff.1 hi).1
                obtain ⟨u', hu', hq⟩ := h3.2 i _ (List.getElem?_eq_getElem hil)
                rw [hi] at hu'; cases hu'
                obtain ⟨z, hz, hp⟩ := hlm.2 i _ (List.getElem?_eq_getElem hil)
                obtain ⟨d, _, hrd⟩ := plain_rd hp hq
                exact (reads_noptr hrd).elim
          · cases hca
        have hall : ∀ (i : Nat) (u : Value), caps[i]? = some u → ∃ j ca b, ks[i]? = some j ∧ l'[i]? = some ca ∧ S.capOf j = some ca ∧ ca.lt S.nv = true ∧ β j = some (.pointer (some ⟨b, 0, none⟩)) ∧ u = .pointer (some ⟨b, 0, none⟩) := fun i u hu => by
          have hil : i < ks.length := by rw [← hcsz]; exact (Array.getElem?_eq_some_iff.1 hu).1
          obtain ⟨ca, h1, h2⟩ := hcm.2 i _ (List.getElem?_eq_getElem hil)
          obtain ⟨b, h3, h4⟩ := hcap i _ (List.getElem?_eq_getElem hil)
          rw [hu] at h4; cases h4
          exact ⟨_, ca, b, List.getElem?_eq_getElem hil, h1, h2, List.all_eq_true.1 hll ca (List.mem_of_getElem? h1), h3, rfl⟩
        unfold Oper.wp
        rw [hrun]
        refine (hcalls w (okS w0 ok0 S.bl β) v caps ⟨n', cells0, rfl, xs, ownsR_base g3 fun _ _ => trivial, g4, g5⟩ hnok ⟨by rw [List.length_map, hcm.1, hcsz], fun i av hi => ?_⟩ (fun u hu b hb => ?_)).mono fun e w' => ?_
        · rw [List.getElem?_map] at hi
          cases hca : l'[i]? with
          | none => rw [hca] at hi; cases hi
          | some ca =>
            rw [hca] at hi; cases hi
            have hil : i < caps.size := by rw [hcsz, ← hcm.1]; exact (List.getElem?_eq_some_iff.1 hca).1
            obtain ⟨j, ca', b, q1, q2, q3, q4, q5, q6⟩ := hall i caps[i] (by simp [hil])
            rw [hca] at q2; cases q2
            exact ⟨caps[i], by simp [hil], by rw [q6]; exact (hone j ca b q3 q4 q5).1⟩
        · obtain ⟨i, hi⟩ := Array.mem_iff_getElem?.1 hu
          obtain ⟨j, ca, b', q1, q2, q3, q4, q5, q6⟩ := hall i u hi
          rw [q6] at hb
          exact (hone j ca b' q3 q4 q5).2 b hb
        · rintro ⟨rfl, hg, n2, cs2, he2, xs2, r1, r2, r3⟩
          cases he2
          have H1 := H.rm.env (Ext.app ρ [.list n' cells'])
          have hxn : (A.var S.nv).rd (ρ ++ [.list n' cells']) = some (.list n' cells') := by simp [A.rd, ← H.len]
          refine ⟨_, _, _, ρ ++ [.list n' cells'], β, ir', As, rfl, hK, hw', ⟨[], by simp⟩, hA, ⟨?_, H.kn.ext (Ext.app _ _), by simp [St.setB, H.len], fun j hj => ?_, H.βn⟩, rfl, fun s hs => ?_⟩
          · exact H1.writeG hk rfl rfl g1 hg fun _ => ⟨v, n', cells', g1, hxn, xs2, ownsR_base r1 hvown, r2, fun j d hj => let ⟨u, hu, hq⟩ := r3 j d hj; ⟨u, hu, hq.mono (okS_turn hk rfl)⟩⟩
          · have hj' : S.nb ≤ j := hj
            have hne : j ≠ k' := fun e => by have := H.bln j hj'; rw [e] at this; rw [this] at hk; cases hk
            simp only [St.setB, upd, hne, if_false]; exact H.bln j hj'
          · cases hs; exact ⟨#[], rfl, rfl, fun j x hj => by simp at hj⟩
      · cases hr
    · cases hr
  · cases h

theorem inlH_ok (hgo : GoOK P Q w0 ok0 go) : InlOK P Q w0 ok0 (inlH P H go) := by
  intro o S h hi fs K ir As ρ β a w hk hw hA HS Qx
  unfold inlH at hi
  split at hi
  · rename_i t x ty ho
    split at hi
    · rename_i e c hu hx
      split at hi
      · rename_i y hy
        cases hi
        exact nilq_ok ho hu hx hy hk hw hA HS Qx
      · cases hi
    · cases hi
  · rename_i x args argTypes ho
    split at hi
    · rename_i f ks hx
      split at hi
      · split at hi
        · rename_i k y E hr
          cases hi
          exact rowc_ok ho hx hr hk hw hA HS Qx
        · cases hi
      split at hi
      · split at hi
        · rename_i k y s' E g l hr
          cases hi
          exact sortc_ok ho hx hr hk hw hA HS Qx
        · cases hi
      split at hi
      · split at hi
        · rename_i k rest hargs
          split at hi
          · rename_i cs T rcs hbk hrc
            split at hi
            · rename_i l htc
              cases hi
              exact turn_ok ho hx hargs hbk hrc htc hk hw hA HS Qx
            · cases hi
          · cases hi
        · cases hi
      split at hi
      · split at hi
        · rename_i fn hfn
          split at hi
          · rename_i body hb
            cases hi
            exact inl_ok hgo ho hx hfn hb hk hw hA HS Qx
          · cases hi
        · cases hi
      · cases hi
    · cases hi
  · cases hi

end
end Go.Px
/- Px23: code: every way. -/
set_option linter.unusedSimpArgs false
set_option linter.unusedVariables false
namespace Go.Px
open Go.RowKit

section
variable {P : Program} {H : Hints} {Q : List AV → Prop} {w0 : W0} {ok0 : Nat → Prop}

theorem PostK.mono {fs : List (Array Value)} {nt : Nat} {As As' : List (List DV → Prop)} {K : Ex → St → Option IR} {e : Exit} {a : Act} {w : World} (hp : ∃ l, As' = As ++ l) (h : PostK P Q w0 ok0 fs nt As' K e a w) : PostK P Q w0 ok0 fs nt As K e a w :=
  let ⟨ex, h1, h2⟩ := h; ⟨ex, h1, h2.mono hp⟩

theorem firstFit_some {S : St} : ∀ {l : List Tmpl} {T : Tmpl} {v : List A}, firstFit S l = some (T, v) → T.fit S = some v ∧ T.closed = true
  | [], T, v, h => by cases h
  | T' :: r, T, v, h => by
    simp only [firstFit] at h
    split at h
    · rename_i l hl
      split at h
      · rename_i hc; cases h; exact ⟨hl, hc⟩
      · exact firstFit_some h
    · exact firstFit_some h

/-- Where both ways are told: the truth says which one. -/
theorem ev_bool {S : St} {ρ : List DV} {i : Nat} {b : Bool} (hl : ρ.length = S.nv) (hi : i < S.nv) (hb : (A.var i).ev ρ = .bool b) (hk : KnOK S.kn ρ) : (A.var i).rd ρ = some (.bool b) ∧ KnOK ((i, b) :: S.kn) ρ := by
  have hlt : i < ρ.length := by omega
  have hrd : (A.var i).rd ρ = some (.bool b) := by
    simp only [A.ev, List.getD_eq_getElem?_getD, List.getElem?_eq_getElem hlt, Option.getD_some] at hb
    simp [A.rd, List.getElem?_eq_getElem hlt, hb]
  refine ⟨hrd, fun j c hj => ?_⟩
  rcases List.mem_cons.1 hj with he | hj
  · cases he; exact hrd
  · exact hk j c hj

theorem symCode_ok (hm : P.follows .mixedOrders = true) : ∀ n, GoOK P Q w0 ok0 (symCode P H n)
  | 0 => fun c S K ir fs As ρ β a w h => by simp only [symCode] at h; cases h
  | n + 1 => by
    have ih := symCode_ok hm n
    intro c S K ir fs As ρ β a w h hw hA HS
    have now : ∀ (ex : Ex), K ex S = some ir → Cont P Q w0 ok0 fs S.fr.nt As (K ex) a w := fun ex hK => ⟨S, ρ, β, ir, As, hK, hw, ⟨[], by simp⟩, hA, rfl, HS⟩
    cases c with
    | skip => simp only [symCode] at h; exact wp_skip ⟨.nor, trivial, now _ h⟩
    | label l => simp only [symCode] at h; exact wp_label ⟨.nor, trivial, now _ h⟩
    | exit id => simp only [symCode] at h; exact wp_exit ⟨.exit id, rfl, now _ h⟩
    | ret => simp only [symCode] at h; exact wp_ret ⟨.ret, trivial, now _ h⟩
    | region id ops draw =>
      simp only [symCode] at h
      split at h
      · rename_i hd
        subst hd
        split at h
        · rename_i hback
          split at h
          · rename_i m ho
            have ho' : m < ops.size ∧ ∀ j, m ≤ j → j < ops.size → lastAll (ancs ops.toList []) j = true := by
              unfold lastInl at ho
              split at ho
              · split at ho
                · rename_i hc
                  cases ho
                  simp only [Bool.and_eq_true, decide_eq_true_eq] at hc
                  refine ⟨hc.1, fun j hj hjl => ?_⟩
                  have := List.all_eq_true.1 hc.2 j (List.mem_range.2 hjl)
                  simp only [Bool.or_eq_true, decide_eq_true_eq] at this
                  rcases this with h1 | h1
                  · omega
                  · exact h1
                · cases ho
              · cases ho
            exact region_drawL hm (inlH_ok ih) hback ho'.1 ho'.2 h hw hA HS fun a w hc => ⟨.nor, trivial, hc⟩
          · exact region_draw hm hback h hw hA HS fun a w hc => ⟨.nor, trivial, hc⟩
        · cases h
      · rename_i hd
        have hd' : draw = false := by simpa using hd
        subst hd'
        exact region_text (inlH_ok ih) (fun a w hc => ⟨.nor, trivial, hc⟩) h hw hA HS
    | seq x y =>
      simp only [symCode] at h
      have hst : S.stk.map (·.nt) = fs.map (·.size) := stk_nts (w0 := w0) HS.rm.hst
      split at h
      · rename_i T Ts _
        split at h
        · rename_i p q hin hout _
          cases h
          obtain ⟨J, hwp, hwq⟩ := hw
          have hx := (ih x { S with dp := S.dp + 1 } _ p fs (As ++ [J]) ρ β a w hin hwp (by simp [hA]) ⟨HS.rm, HS.kn, HS.len, HS.bln, HS.βn⟩).wp
          refine wp_seq (wp_mono hx fun e a' w' hpost => ?_)
          obtain ⟨ex, hex, S', ρ', β', ir', As', hK, hw', ⟨l', hl'⟩, hlen, hnt, H'⟩ := hpost
          cases ex with
          | nor =>
            cases e <;> simp only [ExM] at hex
            simp only at hK
            split at hK
            · rename_i hcl
              simp only [Option.bind_eq_some_iff] at hK
              obtain ⟨l, hfit, hj⟩ := hK
              split at hj
              · rename_i hlt
                cases hj
                obtain ⟨X, hX, hXl⟩ := hw'
                have : As'[S.dp]? = some J := by
                  rw [hl', List.append_assoc, List.getElem?_append_right (by omega), hA]; simp
                rw [this] at hX; cases hX
                obtain ⟨β2, H2⟩ := fit_sound (S0 := S) (dp := S.dp) hfit hcl hlt H' hnt.symm hst
                exact (ih y (T.st S S.dp) K q fs As _ β2 a' w' hout (hwq _ hXl) hA H2).wp
              · cases hj
            · cases hK
          | exit id =>
            cases e <;> simp only [ExM] at hex
            subst hex
            exact ⟨.exit id, rfl, S', ρ', β', ir', As', hK, hw', ⟨[J] ++ l', by rw [hl', List.append_assoc]⟩, hlen, hnt, H'⟩
          | ret =>
            cases e <;> simp only [ExM] at hex
            exact ⟨.ret, trivial, S', ρ', β', ir', As', hK, hw', ⟨[J] ++ l', by rw [hl', List.append_assoc]⟩, hlen, hnt, H'⟩
        · cases h
      · have hx := (ih x S _ ir fs As ρ β a w h hw hA HS).wp
        refine wp_seq (wp_mono hx fun e a' w' hpost => ?_)
        obtain ⟨ex, hex, S', ρ', β', ir', As', hK, hw', hpre, hlen, hnt, H'⟩ := hpost
        cases ex with
        | nor =>
          cases e <;> simp only [ExM] at hex
          refine wp_mono (ih y S' K ir' fs As' ρ' β' a' w' hK hw' hlen H').wp fun e a w hp => ?_
          rw [hnt] at hp
          exact hp.mono hpre
        | exit id =>
          cases e <;> simp only [ExM] at hex
          subst hex
          exact ⟨.exit id, rfl, S', ρ', β', ir', As', hK, hw', hpre, hlen, hnt, H'⟩
        | ret =>
          cases e <;> simp only [ExM] at hex
          exact ⟨.ret, trivial, S', ρ', β', ir', As', hK, hw', hpre, hlen, hnt, H'⟩
    | cond c x y =>
      simp only [symCode] at h
      split at h
      · rename_i z hz
        obtain ⟨d, hd, hr⟩ := HS.rm.one (x := c) (by rw [← St.ev_eq]; exact hz)
        split at h
        · rename_i t ht
          have hd2 := tru_rd HS.kn ht
          rw [hd2] at hd; cases hd
          refine wp_cond (reads_bool hr) ?_
          cases t with
          | true => exact (ih x S K ir fs As ρ β a w h hw hA HS).wp
          | false => exact (ih y S K ir fs As ρ β a w (by simpa using h) hw hA HS).wp
        · split at h
          · rename_i i _
            split at h
            · rename_i p q hp hq
              split at h
              · rename_i hi
                cases h
                obtain ⟨b, hb, hb1, hb2⟩ := hw
                obtain ⟨hrd, hkn⟩ := ev_bool HS.len hi hb HS.kn
                rw [hrd] at hd; cases hd
                refine wp_cond (reads_bool hr) ?_
                cases b with
                | true => exact (ih x { S with kn := (i, true) :: S.kn } K p fs As ρ β a w hp (hb1 rfl) hA ⟨HS.rm, hkn, HS.len, HS.bln, HS.βn⟩).wp
                | false => exact (ih y { S with kn := (i, false) :: S.kn } K q fs As ρ β a w hq (hb2 rfl) hA ⟨HS.rm, hkn, HS.len, HS.bln, HS.βn⟩).wp
              · cases h
            · cases h
          · cases h
      · cases h
    | block id b =>
      simp only [symCode] at h
      have hx := (ih b S _ ir fs As ρ β a w h hw hA HS).wp
      refine wp_block (wp_mono hx fun e a' w' hpost => ?_)
      obtain ⟨ex, hex, S', ρ', β', ir', As', hK, hw', hpre, hlen, hnt, H'⟩ := hpost
      cases ex with
      | nor =>
        cases e <;> simp only [ExM] at hex
        exact ⟨.nor, trivial, S', ρ', β', ir', As', hK, hw', hpre, hlen, hnt, H'⟩
      | exit j =>
        cases e <;> simp only [ExM] at hex
        subst hex
        simp only [Exit.inBlock]
        simp only at hK
        split at hK
        · rename_i hj
          rw [if_pos hj]
          exact ⟨.nor, trivial, S', ρ', β', ir', As', hK, hw', hpre, hlen, hnt, H'⟩
        · rename_i hj
          rw [if_neg hj]
          exact ⟨.exit j, rfl, S', ρ', β', ir', As', hK, hw', hpre, hlen, hnt, H'⟩
      | ret =>
        cases e <;> simp only [ExM] at hex
        exact ⟨.ret, trivial, S', ρ', β', ir', As', hK, hw', hpre, hlen, hnt, H'⟩
    | loop b =>
      simp only [symCode] at h
      have hst : S.stk.map (·.nt) = fs.map (·.size) := stk_nts (w0 := w0) HS.rm.hst
      show LoopAt P b _ a w
      split at h
      · rename_i T0 Ts _
        split at h
        · rename_i T l hff
          obtain ⟨hfit, hcl⟩ := firstFit_some hff
          split at h
          · cases h
          · rename_i hlt
            have hlt' : l.all (A.lt S.nv) = true := by simpa using hlt
            simp only [Option.map_eq_some_iff] at h
            obtain ⟨body, hbody, rfl⟩ := h
            obtain ⟨I, μ, hI0, hIl, hround⟩ := hw
            obtain ⟨β1, H1⟩ := fit_sound (S0 := S) (dp := S.dp + 1) hfit hcl hlt' HS rfl hst
            refine LoopAt.rel (fun m a w => ∃ ds β, I ds ∧ μ ds = m ∧ AtS w0 ok0 fs (T.st S (S.dp + 1)) ds β a w) (fun m a w hinv => ?_) (μ (l.map (A.ev ρ))) a w ⟨_, β1, hI0, rfl, H1⟩
            obtain ⟨ds, β2, hI, rfl, H2⟩ := hinv
            have hx := (ih b (T.st S (S.dp + 1)) _ body fs (As ++ [fun ds' => I ds' ∧ μ ds' < μ ds]) ds β2 a w hbody (hround ds hI) (by simp [hA, Tmpl.st]) H2).wp
            refine wp_mono hx fun e a' w' hpost => ?_
            obtain ⟨ex, hex, S', ρ', β', ir', As', hK, hw', ⟨l', hl'⟩, hlen, hnt, H'⟩ := hpost
            cases ex with
            | nor =>
              cases e <;> simp only [ExM] at hex
              simp only [Option.bind_eq_some_iff] at hK
              obtain ⟨l2, hfit2, hj⟩ := hK
              split at hj
              · rename_i hlt2
                cases hj
                obtain ⟨X, hX, hXl⟩ := hw'
                have : As'[S.dp]? = some (fun ds' => I ds' ∧ μ ds' < μ ds) := by
                  rw [hl', List.append_assoc, List.getElem?_append_right (by omega), hA]; simp
                rw [this] at hX; cases hX
                obtain ⟨β3, H3⟩ := fit_sound (S0 := S) (dp := S.dp + 1) hfit2 hcl hlt2 H' hnt.symm hst
                exact ⟨μ (l2.map (A.ev ρ')), hXl.2, _, β3, hXl.1, rfl, H3⟩
              · cases hj
            | exit id =>
              cases e <;> simp only [ExM] at hex
              subst hex
              exact ⟨.exit id, rfl, S', ρ', β', ir', As', hK, hw', ⟨_, by rw [hl', List.append_assoc]⟩, hlen, hnt, H'⟩
            | ret =>
              cases e <;> simp only [ExM] at hex
              exact ⟨.ret, trivial, S', ρ', β', ir', As', hK, hw', ⟨_, by rw [hl', List.append_assoc]⟩, hlen, hnt, H'⟩
        · cases h
      · have hx := (ih b S _ ir fs As ρ β a w h hw hA HS).wp
        refine LoopAt.unroll (wp_mono hx fun e a' w' hpost => ?_)
        obtain ⟨ex, hex, S', ρ', β', ir', As', hK, hw', hpre, hlen, hnt, H'⟩ := hpost
        cases ex with
        | nor =>
          cases e <;> simp only [ExM] at hex
          have := ih (.loop b) S' K ir' fs As' ρ' β' a' w' hK hw' hlen H'
          intro bb k cs
          obtain ⟨e, a2, w2, hq, harr⟩ := this bb k cs
          rw [hnt] at hq
          exact ⟨e, a2, w2, hq.mono hpre, harr⟩
        | exit id =>
          cases e <;> simp only [ExM] at hex
          subst hex
          exact ⟨.exit id, rfl, S', ρ', β', ir', As', hK, hw', hpre, hlen, hnt, H'⟩
        | ret =>
          cases e <;> simp only [ExM] at hex
          exact ⟨.ret, trivial, S', ρ', β', ir', As', hK, hw', hpre, hlen, hnt, H'⟩
    | _ => simp only [symCode] at h; cases h

end
end Go.Px
/- Px24: a function: what its tree says is a contract. -/
set_option linter.unusedSimpArgs false
set_option linter.unusedVariables false
namespace Go.Px
open Go.RowKit

def Prm.fits : Prm → AV → Bool
  | .one, .one _ => true
  | .agg n, .agg ds => ds.length == n
  | .ref n _, .ref ds => ds.length == n
  | .nref l _, .nref ds => ds.map Option.isSome == l
  | _, _ => false
def prmFit : List Prm → List AV → Bool
  | [], [] => true
  | p :: r, a :: l => p.fits a && prmFit r l
  | _, _ => false

theorem prmFit_len : ∀ {ps : List Prm} {args : List AV}, prmFit ps args = true → ps.length = args.length
  | [], [], _ => rfl
  | p :: r, a :: l, h => by simp only [prmFit, Bool.and_eq_true] at h; simp [prmFit_len h.2]
  | [], _ :: _, h => by cases h
  | _ :: _, [], h => by cases h

theorem nref_count : ∀ (ds : List (Option DV)), (ds.filterMap id).length = (ds.map Option.isSome).countP id
  | [] => rfl
  | none :: r => by simpa using nref_count r
  | some d :: r => by simpa using nref_count r

theorem prm_count {p : Prm} {a : AV} (h : p.fits a = true) : a.flat.length = p.count := by
  cases p <;> cases a <;> first | (simp_all [Prm.fits, AV.flat, Prm.count]; done) | skip
  rename_i l T ds
  simp only [Prm.fits, beq_iff_eq] at h
  subst h
  exact nref_count ds

theorem prmFit_count : ∀ {ps : List Prm} {args : List AV}, prmFit ps args = true → (flatAll args).length = countP ps
  | [], [], _ => rfl
  | p :: r, a :: l, h => by
    simp only [prmFit, Bool.and_eq_true] at h
    have ih := prmFit_count h.2
    simp only [flatAll, List.flatMap_cons, List.length_append, countP, List.map_cons, List.sum_cons] at ih ⊢
    rw [ih, prm_count h.1]
  | [], _ :: _, h => by cases h
  | _ :: _, [], h => by cases h

/-- What a box of one cell holds. -/
def inCell (w : World) : Value → Option Value
  | .pointer (some a) => w.cell? a
  | _ => none
/-- The boxes handed over, by their numbers. -/
def startβ (w : World) : List Prm → Nat → List Value → Bm
  | .ref _ _ :: r, k, v :: l => upd (startβ w r (k + 1) l) k (some v)
  | .nref _ _ :: r, k, v :: l => upd (upd (startβ w r (k + 2) l) (k + 1) (inCell w v)) k (some v)
  | .one :: r, k, _ :: l => startβ w r k l
  | .agg _ :: r, k, _ :: l => startβ w r k l
  | _, _, _ => fun _ => none

theorem startβ_lt {w : World} : ∀ (ps : List Prm) (k : Nat) (l : List Value) (j : Nat) (v : Value), startβ w ps k l j = some v → k ≤ j ∧ j < k + 2 * ps.length
  | [], k, l, j, v, h => by cases l <;> cases h
  | .one :: r, k, [], j, v, h => by cases h
  | .agg _ :: r, k, [], j, v, h => by cases h
  | .ref _ _ :: r, k, [], j, v, h => by cases h
  | .nref _ _ :: r, k, [], j, v, h => by cases h
  | .one :: r, k, x :: l, j, v, h => by have := startβ_lt r k l j v h; simp; omega
  | .agg _ :: r, k, x :: l, j, v, h => by have := startβ_lt r k l j v h; simp; omega
  | .ref _ _ :: r, k, x :: l, j, v, h => by
    simp only [startβ, upd] at h
    split at h
    · rename_i he; simp; omega
    · have := startβ_lt r (k + 1) l j v h; simp; omega
  | .nref _ _ :: r, k, x :: l, j, v, h => by
    simp only [startβ, upd] at h
    split at h
    · rename_i he; simp; omega
    · split at h
      · rename_i he; simp; omega
      · have := startβ_lt r (k + 2) l j v h; simp; omega

theorem startBl_lt : ∀ (ps : List Prm) (v k j : Nat) (b : Blk), alook (startBl ps v k) j = some b → k ≤ j ∧ j < k + 2 * ps.length ∧ b.mut = false
  | [], v, k, j, b, h => by cases h
  | .one :: r, v, k, j, b, h => by have := startBl_lt r (v + 1) k j b h; simp; exact ⟨this.1, by omega, this.2.2⟩
  | .agg n :: r, v, k, j, b, h => by have := startBl_lt r (v + n) k j b h; simp; exact ⟨this.1, by omega, this.2.2⟩
  | .ref n T :: r, v, k, j, b, h => by
    simp only [startBl, alook] at h
    split at h
    · rename_i he; cases h; simp; exact ⟨by omega, by omega, rfl⟩
    · have := startBl_lt r (v + n) (k + 1) j b h; simp; exact ⟨by omega, by omega, this.2.2⟩
  | .nref l T :: r, v, k, j, b, h => by
    simp only [startBl, alook] at h
    split at h
    · rename_i he; cases h; simp; exact ⟨by omega, by omega, rfl⟩
    · split at h
      · rename_i he; cases h; simp; exact ⟨by omega, by omega, rfl⟩
      · have := startBl_lt r (v + l.countP id) (k + 2) j b h; simp; exact ⟨by omega, by omega, this.2.2⟩

section
variable {w : World} {ok ok' : Nat → Prop} {ρ : List DV}

theorem vars_rep {ds : List DV} {v n : Nat} {β : Bm} (hn : ds.length = n) (hρ : ∀ (i : Nat) (d : DV), ds[i]? = some d → ρ[v + i]? = some d) (hok : ∀ b, ok b → ok' b) {arr : Array Value} (hs : arr.size = ds.length)
    (hc : ∀ (j : Nat) (d : DV), ds[j]? = some d → ∃ u, arr[j]? = some u ∧ Reads ok w d u) : CsRep ρ β ok' w (varsFrom n v) arr := by
  refine ⟨by simp [varsFrom, hs, hn], fun j c hj => ?_⟩
  simp only [varsFrom, List.getElem?_map] at hj
  by_cases hjl : j < n
  · rw [List.getElem?_range hjl] at hj
    simp only [Option.map_some, Option.some.injEq] at hj
    subst hj
    obtain ⟨u, hu, hr⟩ := hc j (ds[j]'(by omega)) (by simp)
    exact ⟨u, hu, _, hρ j _ (by simp), hr.mono hok⟩
  · rw [List.getElem?_eq_none (by simpa using hjl)] at hj; cases hj

theorem optVars_rep : ∀ {ds : List (Option DV)} {v : Nat} {β : Bm} {us : List Value}, (∀ (i : Nat) (d : DV), (ds.filterMap id)[i]? = some d → ρ[v + i]? = some d) → (∀ b, ok b → ok' b) → us.length = ds.length →
    (∀ (j : Nat) (u : Value), us[j]? = some u → u.notAgg) → (∀ (j : Nat) (d : DV), ds[j]? = some (some d) → ∃ u, us[j]? = some u ∧ Reads ok w d u) →
    ∀ (j : Nat) (c : C), (optVars (ds.map Option.isSome) v)[j]? = some c → ∃ u, us[j]? = some u ∧ CRep ρ β ok' w c u
  | [], v, β, us, _, _, _, _, _, j, c, h => by simp [optVars] at h
  | o :: ds, v, β, [], _, _, hl, _, _, j, c, h => by cases hl
  | none :: ds, v, β, u :: us, hρ, hok, hl, hna, hc, j, c, h => by
    simp only [List.map_cons, Option.isSome_none, optVars] at h
    cases j with
    | zero => simp only [List.getElem?_cons_zero, Option.some.injEq] at h; subst h; exact ⟨u, rfl, hna 0 u rfl⟩
    | succ j =>
      simpa using optVars_rep (v := v) (fun i d hd => hρ i d (by simpa using hd)) hok (by simpa using hl) (fun j u' hu => hna (j + 1) u' (by simpa using hu)) (fun j d hd => by simpa using hc (j + 1) d (by simpa using hd)) j c (by simpa using h)
  | some d :: ds, v, β, u :: us, hρ, hok, hl, hna, hc, j, c, h => by
    simp only [List.map_cons, Option.isSome_some, optVars] at h
    cases j with
    | zero =>
      simp only [List.getElem?_cons_zero, Option.some.injEq] at h; subst h
      obtain ⟨u', hu', hr⟩ := hc 0 d rfl
      simp at hu'; subst hu'
      exact ⟨u, rfl, d, by simpa [A.rd] using hρ 0 d (by simp), hr.mono hok⟩
    | succ j =>
      simpa using optVars_rep (v := v + 1) (fun i d' hd => by have := hρ (i + 1) d' (by simpa using hd); rwa [show v + (i + 1) = v + 1 + i by omega] at this) hok (by simpa using hl) (fun j u' hu => hna (j + 1) u' (by simpa using hu)) (fun j d hd => by simpa using hc (j + 1) d (by simpa using hd)) j c (by simpa using h)
theorem optVars_len : ∀ (l : List Bool) (v : Nat), (optVars l v).length = l.length
  | [], _ => rfl
  | true :: r, v => by simp [optVars, optVars_len r]
  | false :: r, v => by simp [optVars, optVars_len r]

/-- The parameters' values are told. -/
theorem start_sv (hok : ∀ b, ok b → ok' b) : ∀ (ps : List Prm) (args : List AV) (vs : List Value) (v k : Nat) (β : Bm), prmFit ps args = true → (∀ (i : Nat) (d : DV), (flatAll args)[i]? = some d → ρ[v + i]? = some d) →
    (∀ j u, startβ w ps k vs j = some u → β j = some u) → vs.length = args.length → (∀ (j : Nat) (x : AV), args[j]? = some x → ∃ u, vs[j]? = some u ∧ RepAV ok w x u) →
    ∀ (j : Nat) (sv : SV), (startSV ps v k)[j]? = some (some sv) → ∃ u, vs[j]? = some u ∧ SVRep ρ β ok' w sv u
  | [], args, vs, v, k, β, _, _, _, _, _, j, sv, h => by simp [startSV] at h
  | p :: ps, [], vs, v, k, β, hf, _, _, _, _, j, sv, h => by cases hf
  | p :: ps, x :: args, [], v, k, β, _, _, _, hl, _, j, sv, h => by cases hl
  | p :: ps, x :: args, u :: vs, v, k, β, hf, hρ, hβ, hl, hr, j, sv, h => by
    simp only [prmFit, Bool.and_eq_true] at hf
    have hu : RepAV ok w x u := by
      obtain ⟨u', hu', hq⟩ := hr 0 x rfl
      simp at hu'; subst hu'; exact hq
    have hr' : ∀ (j : Nat) (x : AV), args[j]? = some x → ∃ u, vs[j]? = some u ∧ RepAV ok w x u := fun j x hj => by simpa using hr (j + 1) x (by simpa using hj)
    have hl' : vs.length = args.length := by simpa using hl
    have hρh : ∀ (i : Nat) (d : DV), x.flat[i]? = some d → ρ[v + i]? = some d := fun i d hd => hρ i d (by
      simp only [flatAll, List.flatMap_cons]
      rw [List.getElem?_append_left (List.getElem?_eq_some_iff.1 hd).1]; exact hd)
    have hρt : ∀ (n : Nat), x.flat.length = n → ∀ (i : Nat) (d : DV), (flatAll args)[i]? = some d → ρ[v + n + i]? = some d := fun n hn i d hd => by
      have := hρ (n + i) d (by
        simp only [flatAll, List.flatMap_cons] at hd ⊢
        rw [List.getElem?_append_right (by omega), show n + i - x.flat.length = i by omega]; exact hd)
      rwa [show v + (n + i) = v + n + i by omega] at this
    cases p with
    | one =>
      cases x <;> simp only [Prm.fits] at hf <;> try (cases hf.1; done)
      rename_i d
      cases j with
      | zero =>
        simp only [startSV, List.getElem?_cons_zero, Option.some.injEq] at h
        subst h
        exact ⟨u, rfl, d, by simpa [A.rd] using hρh 0 d rfl, Reads.mono hok hu⟩
      | succ j => simpa using start_sv hok ps args vs (v + 1) k β hf.2 (hρt 1 rfl) hβ hl' hr' j sv (by simpa [startSV] using h)
    | agg n =>
      cases x <;> simp only [Prm.fits] at hf <;> try (cases hf.1; done)
      rename_i ds
      have hn : ds.length = n := by simpa using hf.1
      cases j with
      | zero =>
        simp only [startSV, List.getElem?_cons_zero, Option.some.injEq] at h
        subst h
        obtain ⟨arr, he, hs, hc⟩ := hu
        exact ⟨u, rfl, arr, he, vars_rep hn hρh hok hs hc⟩
      | succ j => simpa using start_sv hok ps args vs (v + n) k β hf.2 (hρt n hn) hβ hl' hr' j sv (by simpa [startSV] using h)
    | ref n T =>
      cases x <;> simp only [Prm.fits] at hf <;> try (cases hf.1; done)
      rename_i ds
      have hn : ds.length = n := by simpa using hf.1
      cases j with
      | zero =>
        simp only [startSV, List.getElem?_cons_zero, Option.some.injEq] at h
        subst h
        obtain ⟨b, arr, T', fz, he, hh, hs, hc⟩ := hu
        exact ⟨u, rfl, b, by rw [hβ k u (by simp [startβ, upd]), he], he⟩
      | succ j =>
        refine (fun hh => by simpa using hh) (start_sv hok ps args vs (v + n) (k + 1) β hf.2 (hρt n hn) (fun i z hz => hβ i z ?_) hl' hr' j sv (by simpa [startSV] using h))
        have := startβ_lt _ _ _ _ _ hz
        have hne : i ≠ k := by omega
        simp only [startβ, upd, hne, if_false]; exact hz
    | nref l T =>
      cases x <;> simp only [Prm.fits] at hf <;> try (cases hf.1; done)
      rename_i ds
      have hn : ds.map Option.isSome = l := by simpa using hf.1
      cases j with
      | zero =>
        simp only [startSV, List.getElem?_cons_zero, Option.some.injEq] at h
        subst h
        obtain ⟨b, arr, T', fz, b2, arr2, T2, fz2, he, _⟩ := hu
        exact ⟨u, rfl, b, by rw [hβ k u (by simp [startβ, upd]), he], he⟩
      | succ j =>
        refine (fun hh => by simpa using hh) (start_sv hok ps args vs (v + l.countP id) (k + 2) β hf.2 (hρt _ (by rw [← hn]; exact nref_count ds)) (fun i z hz => hβ i z ?_) hl' hr' j sv (by simpa [startSV] using h))
        have := startβ_lt _ _ _ _ _ hz
        have hne : i ≠ k := by omega
        have hne2 : i ≠ k + 1 := by omega
        simp only [startβ, upd, hne, hne2, if_false]; exact hz

/-- The boxes handed over are as told. -/
theorem start_bl {w0 : W0} (hok : ∀ b, ok b → ok' b) (hw : ∀ b, b < w.heap.size → w0.old b) : ∀ (ps : List Prm) (args : List AV) (vs : List Value) (v k : Nat) (β : Bm), prmFit ps args = true → (∀ (i : Nat) (d : DV), (flatAll args)[i]? = some d → ρ[v + i]? = some d) →
    (∀ j u, startβ w ps k vs j = some u → β j = some u) → vs.length = args.length → (∀ (j : Nat) (x : AV), args[j]? = some x → ∃ u, vs[j]? = some u ∧ RepAV ok w x u) →
    ∀ (j : Nat) (b : Blk), alook (startBl ps v k) j = some b → BlkRep w0 ρ β ok' w j b
  | [], args, vs, v, k, β, _, _, _, _, _, j, b, h => by cases h
  | p :: ps, [], vs, v, k, β, hf, _, _, _, _, j, b, h => by cases hf
  | p :: ps, x :: args, [], v, k, β, _, _, _, hl, _, j, b, h => by cases hl
  | p :: ps, x :: args, u :: vs, v, k, β, hf, hρ, hβ, hl, hr, j, b, h => by
    simp only [prmFit, Bool.and_eq_true] at hf
    have hu : RepAV ok w x u := by
      obtain ⟨u', hu', hq⟩ := hr 0 x rfl
      simp at hu'; subst hu'; exact hq
    have hr' : ∀ (j : Nat) (x : AV), args[j]? = some x → ∃ u, vs[j]? = some u ∧ RepAV ok w x u := fun j x hj => by simpa using hr (j + 1) x (by simpa using hj)
    have hl' : vs.length = args.length := by simpa using hl
    have hρh : ∀ (i : Nat) (d : DV), x.flat[i]? = some d → ρ[v + i]? = some d := fun i d hd => hρ i d (by
      simp only [flatAll, List.flatMap_cons]
      rw [List.getElem?_append_left (List.getElem?_eq_some_iff.1 hd).1]; exact hd)
    have hρt : ∀ (n : Nat), x.flat.length = n → ∀ (i : Nat) (d : DV), (flatAll args)[i]? = some d → ρ[v + n + i]? = some d := fun n hn i d hd => by
      have := hρ (n + i) d (by
        simp only [flatAll, List.flatMap_cons] at hd ⊢
        rw [List.getElem?_append_right (by omega), show n + i - x.flat.length = i by omega]; exact hd)
      rwa [show v + (n + i) = v + n + i by omega] at this
    cases p with
    | one =>
      cases x <;> simp only [Prm.fits] at hf <;> try (cases hf.1; done)
      exact start_bl hok hw ps args vs (v + 1) k β hf.2 (hρt 1 rfl) hβ hl' hr' j b h
    | agg n =>
      cases x <;> simp only [Prm.fits] at hf <;> try (cases hf.1; done)
      rename_i ds
      have hn : ds.length = n := by simpa using hf.1
      exact start_bl hok hw ps args vs (v + n) k β hf.2 (hρt n hn) hβ hl' hr' j b h
    | ref n T =>
      cases x <;> simp only [Prm.fits] at hf <;> try (cases hf.1; done)
      rename_i ds
      have hn : ds.length = n := by simpa using hf.1
      simp only [startBl, alook] at h
      split at h
      · rename_i he
        cases h
        obtain ⟨bb, arr, T', fz, hv, hh, hs, hc⟩ := hu
        exact ⟨bb, arr, T', fz, by rw [he, hβ k u (by simp [startβ, upd]), hv], hh, vars_rep hn hρh hok hs hc, (fun hh => by cases hh), fun _ => hw _ (Array.getElem?_eq_some_iff.1 hh).1, fun hT => absurd hT (nog_ne T)⟩
      · refine start_bl hok hw ps args vs (v + n) (k + 1) β hf.2 (hρt n hn) (fun i z hz => hβ i z ?_) hl' hr' j b h
        have := startβ_lt _ _ _ _ _ hz
        have hne : i ≠ k := by omega
        simp only [startβ, upd, hne, if_false]; exact hz
    | nref l T =>
      cases x <;> simp only [Prm.fits] at hf <;> try (cases hf.1; done)
      rename_i ds
      have hn : ds.map Option.isSome = l := by simpa using hf.1
      simp only [startBl, alook] at h
      obtain ⟨bb, arr, T', fz, b2, arr2, T2, fz2, hv, hh, ha, hh2, hs, hna, hc⟩ := hu
      subst ha
      have hin : inCell w u = some (.pointer (some ⟨b2, 0, none⟩)) := by rw [hv]; simp [inCell, World.cell?, hh]
      have hβ1 : β (k + 1) = some (.pointer (some ⟨b2, 0, none⟩)) := hβ (k + 1) _ (by simp [startβ, upd, hin])
      split at h
      · rename_i he
        cases h
        refine ⟨bb, _, T', fz, by rw [he, hβ k u (by simp [startβ, upd]), hv], hh, ⟨rfl, fun j c hj => ?_⟩, (fun hh => by cases hh), fun _ => hw _ (Array.getElem?_eq_some_iff.1 hh).1, fun hT => absurd hT (nog_ne T)⟩
        cases j with
        | zero => simp only [List.getElem?_cons_zero, Option.some.injEq] at hj; subst hj; exact ⟨_, rfl, b2, hβ1, rfl⟩
        | succ j => simp at hj
      · split at h
        · rename_i he
          cases h
          refine ⟨b2, arr2, T2, fz2, by rw [he, hβ1], hh2, ⟨by rw [optVars_len, hs, ← hn]; simp, fun j c hj => ?_⟩, (fun hh => by cases hh), fun _ => hw _ (Array.getElem?_eq_some_iff.1 hh2).1, fun hT => absurd hT (nog_ne T)⟩
          rw [← hn] at hj
          obtain ⟨u', hu', hr'⟩ := optVars_rep (β := β) (us := arr2.toList) hρh hok (by simpa using hs) (fun j u hu => hna j u (by simpa using hu)) (fun j d hd => by simpa using hc j d hd) j c hj
          exact ⟨u', by simpa using hu', hr'⟩
        · refine start_bl hok hw ps args vs (v + l.countP id) (k + 2) β hf.2 (hρt _ (by rw [← hn]; exact nref_count ds)) (fun i z hz => hβ i z ?_) hl' hr' j b h
          have := startβ_lt _ _ _ _ _ hz
          have hne : i ≠ k := by omega
          have hne2 : i ≠ k + 1 := by omega
          simp only [startβ, upd, hne, hne2, if_false]; exact hz

theorem startβ_one : ∀ (ps : List Prm) (args : List AV) (vs : List Value) (k : Nat), prmFit ps args = true → vs.length = args.length → (∀ (j : Nat) (x : AV), args[j]? = some x → ∃ u, vs[j]? = some u ∧ RepAV ok w x u) →
    ∀ j u, startβ w ps k vs j = some u → u.oneCell' = true
  | [], args, vs, k, _, _, _, j, u, h => by cases vs <;> cases h
  | p :: ps, [], vs, k, hf, _, _, j, u, h => by cases hf
  | p :: ps, x :: args, [], k, _, hl, _, j, u, h => by cases hl
  | p :: ps, x :: args, v :: vs, k, hf, hl, hr, j, u, h => by
    simp only [prmFit, Bool.and_eq_true] at hf
    have hr' : ∀ (j : Nat) (x : AV), args[j]? = some x → ∃ u, vs[j]? = some u ∧ RepAV ok w x u := fun j x hj => by simpa using hr (j + 1) x (by simpa using hj)
    have hl' : vs.length = args.length := by simpa using hl
    cases p with
    | one => exact startβ_one ps args vs k hf.2 hl' hr' j u h
    | agg n => exact startβ_one ps args vs k hf.2 hl' hr' j u h
    | ref n T =>
      simp only [startβ, upd] at h
      split at h
      · cases h
        cases x <;> simp only [Prm.fits] at hf <;> try (cases hf.1; done)
        obtain ⟨u', hu', hq⟩ := hr 0 _ rfl
        simp at hu'; subst hu'
        obtain ⟨bb, arr, T', fz, rfl, _⟩ := hq
        rfl
      · exact startβ_one ps args vs (k + 1) hf.2 hl' hr' j u h
    | nref l T =>
      simp only [startβ, upd] at h
      cases x <;> simp only [Prm.fits] at hf <;> try (cases hf.1; done)
      obtain ⟨u', hu', hq⟩ := hr 0 _ rfl
      simp at hu'; subst hu'
      obtain ⟨bb, arr, T', fz, b2, arr2, T2, fz2, rfl, hh, ha, _⟩ := hq
      subst ha
      split at h
      · cases h; rfl
      · split at h
        · simp only [inCell, World.cell?, hh] at h; simp at h; subst h; rfl
        · exact startβ_one ps args vs (k + 2) hf.2 hl' hr' j u h
end

def okName (P : Program) (f : FuncId) : Bool :=
  match P.funcs[f]? with
  | some fn => !(fn.name == "runtime.NumGoroutine") && !fn.body.isNone
  | none => false

/-- Nothing is given in. -/
def W0.of (w : World) : W0 := ⟨w, fun _ => False, 0⟩
theorem W0.own_of {w : World} {b : Nat} : (W0.of w).own b ↔ w.heap.size ≤ b := ⟨fun h => h.elim id fun h => h.elim, .inl⟩
theorem W0.own_of' {w : World} : (W0.of w).own = fun b => w.heap.size ≤ b := by funext b; exact propext W0.own_of
theorem W0.old_of {w : World} {b : Nat} (h : b < w.heap.size) : (W0.of w).old b := ⟨h, id⟩
theorem W0.bel_of {w w' : World} (h : (W0.of w).Bel w') : Grows w w' := ⟨⟨h.os, h.tape, h.output, h.size, fun k hk => h.block k (W0.old_of hk)⟩, h.drawn⟩
theorem W0.bel_refl (w : World) (G : Nat → Prop) (gb : Nat) : (W0.mk w G gb).Bel w := ⟨rfl, rfl, rfl, Nat.le_refl _, Nat.le_refl _, fun _ _ => rfl⟩

/-- THE CONTRACT OF A FUNCTION. -/
theorem symFunc_sound {P : Program} {H : Hints} {fuel : Nat} {f : FuncId} {ps : List Prm} {ir : IR} (hm : P.follows .mixedOrders = true) (h : symFunc P H fuel f ps = some ir) (hn : okName P f = true) {args res : List AV} (hf : prmFit ps args = true)
    (hw : IRwp P [] (flatAll args) ir (· = res)) : PureCalls P f args res := by
  unfold okName at hn
  unfold symFunc at h
  split at h
  · rename_i fn hfn
    rw [hfn] at hn
    simp only [Bool.and_eq_true, Bool.not_eq_true'] at hn
    refine ⟨⟨fn, hfn, hn.1, hn.2⟩, fun w ok vs hvs => ?_⟩
    split at h
    · rename_i body hb
      have hlen := prmFit_len hf
      have hvl : vs.toList.length = args.length := by simpa using hvs.1
      have hvr : ∀ (j : Nat) (x : AV), args[j]? = some x → ∃ u, vs.toList[j]? = some u ∧ RepAV ok w x u := fun j x hj => let ⟨u, hu, hr⟩ := hvs.2 j x hj; ⟨u, by simpa using hu, hr⟩
      have hok : ∀ b, ok b → okS (W0.of w) ok (alook (startBl ps 0 0)) (startβ w ps 0 vs.toList) b := fun b hb => ⟨.inl hb, fun k blk v hk hmu => by
        have := (startBl_lt ps 0 0 k blk hk).2.2
        rw [this] at hmu; cases hmu⟩
      have hρ : ∀ (i : Nat) (d : DV), (flatAll args)[i]? = some d → (flatAll args)[0 + i]? = some d := fun i d hd => by simpa using hd
      have H0 : AtS (W0.of w) ok [] (startSt H f fn ps) (flatAll args) (startβ w ps 0 vs.toList) { tmps := vs ++ Array.replicate (fn.ntmps - vs.size) undef, defers := [] } w := by
        refine ⟨{ sz := ?_, df := rfl, htm := fun t sv ht => ?_, hst := trivial, hbl := start_bl hok (fun _ h => W0.old_of h) ps args vs.toList 0 0 _ hf hρ (fun _ _ h => h) hvl hvr, inj := fun k k' b b' v v' m e1 m1 => ?_, bel := W0.bel_refl _ _ _, na := startβ_one ps args vs.toList 0 hf hvl hvr }, fun i b hi => (by cases hi), ?_, fun k hk => ?_, fun k hk => ?_⟩
        · show (vs ++ Array.replicate (fn.ntmps - vs.size) undef).size = max fn.ntmps ps.length
          simp only [Array.size_append, Array.size_replicate]
          have : vs.size = ps.length := by rw [hlen]; exact hvs.1
          omega
        · obtain ⟨_, hg⟩ := paramTm_get _ _ _ _ ht
          obtain ⟨u, hu, hr⟩ := start_sv hok ps args vs.toList 0 0 _ hf hρ (fun _ _ h => h) hvl hvr _ sv hg
          refine ⟨u, ?_, hr⟩
          have hu' : vs[t]? = some u := by simpa using hu
          rw [Array.getElem?_append_left (Array.getElem?_eq_some_iff.1 hu').1]
          exact hu'
        · have := (startBl_lt ps 0 0 k b e1).2.2
          rw [this] at m1; cases m1
        · exact prmFit_count hf
        · show alook (startBl ps 0 0) k = none
          cases hb : alook (startBl ps 0 0) k with
          | none => rfl
          | some b =>
            have := (startBl_lt ps 0 0 k b hb).2.1
            have hk' : 2 * ps.length ≤ k := hk
            omega
        · cases hb : startβ w ps 0 vs.toList k with
          | none => rfl
          | some b =>
            have := (startβ_lt ps 0 _ k b hb).2
            have hk' : 2 * ps.length ≤ k := hk
            omega
      have hwp := (symCode_ok (H := H) (Q := (· = res)) (w0 := W0.of w) (ok0 := ok) hm fuel body _ _ ir [] [] _ _ _ w h hw rfl H0).wp
      refine calls_of_wp hfn hb (wp_mono hwp fun e a' w' hpost => ?_)
      obtain ⟨ex, hex, S', ρ', β', ir', As', hK, hw', hpre, hdp, hnt, H'⟩ := hpost
      have fin : (match resCells P S' fn.results.toList with
          | some l =>
            if H.own f then
              match l with
              | .one c :: r =>
                (S'.argsOf (r.map fun v => some (.s v))).bind fun (args, S2) =>
                  match ownShp P fn with
                  | some (s, E) =>
                    match S2.handOver s E c with
                    | some x => if args.all (fun | .ref _ => false | .own .. => false | _ => true) && args.all (Arg.lt S'.nv) && x.lt S'.nv then some (.ret (.own s E x :: args)) else none
                    | none => none
                  | none => none
              | _ => none
            else (S'.argsOf (l.map fun v => some (.s v))).bind fun (args, _) => if args.all (fun | .ref _ => false | .own .. => false | _ => true) && args.all (Arg.lt S'.nv) then some (.ret args) else none
          | none => none) = some ir' → a'.defers = [] ∧ ∃ v, (results fn a'.tmps).run P w' = .ok v w' ∧ ∃ v', Ending.returned v = .returned v' ∧ RepRes w.heap.size ok w' res v' ∧ Grows w w' := by
        intro hK
        split at hK
        · rename_i l hl
          obtain ⟨v, hv, hr⟩ := results_sound H' hl
          refine ⟨H'.rm.df, v, hv, v, rfl, ?_, W0.bel_of H'.rm.bel⟩
          -- results that are no rows handed over, each by itself
          have key : ∀ (l : List S1) (gs : List Arg) (S2 : St), S'.argsOf (l.map fun v => some (.s v)) = some (gs, S2) → gs.all (Arg.lt S'.nv) = true → ∀ (u : Nat → Value), (∀ (j : Nat) (x : S1), l[j]? = some x → S1Rep ρ' β' (okS (W0.of w) ok S'.bl β') w' x (u j)) →
              gs.length = l.length ∧ RM (W0.of w) ok [] S'.stk ρ' β' S'.fr.nt S'.fr.tm S2.bl a' w' ∧ (∀ b, okS (W0.of w) ok S'.bl β' b → okS (W0.of w) ok S2.bl β' b) ∧ ∀ (j : Nat) (g : Arg), gs[j]? = some g → RepAV (okS (W0.of w) ok S2.bl β') w' (g.ev ρ') (u j) := by
            intro l gs S2 hgs hlt u hu
            obtain ⟨_, uS, _, hgl⟩ := argsOf_facts hgs
            obtain ⟨HM, hmono, harg⟩ := argsOf_sound hgs H'.rm (fun k hk => rfl) u (fun j x hj => by
              rw [List.getElem?_map] at hj
              cases hx : l[j]? with
              | none => rw [hx] at hj; cases hj
              | some y => rw [hx] at hj; cases hj; exact hu j y hx)
            rw [patch_all (b' := S2.bl) uS] at HM hmono harg
            exact ⟨by simpa using hgl, HM, hmono, fun j g hg => (harg j g hg).rep H'.len (Ext.refl _) (List.all_eq_true.1 hlt g (List.mem_of_getElem? hg))⟩
          have toR : ∀ {g : Arg} {u : Value} {ow : Option Nat} {bl : Nat → Option Blk}, (match g with | .ref _ => false | .own .. => false | _ => true) = true → (∀ b, okS (W0.of w) ok bl β' b → ow ≠ some b) → RepAV (okS (W0.of w) ok bl β') w' (g.ev ρ') u → RepR w.heap.size ok ow w' (g.ev ρ') u := by
            intro g u ow bl hg how h
            have h2 : RepAV (fun b => (ok b ∨ w.heap.size ≤ b) ∧ ow ≠ some b) w' (g.ev ρ') u := h.mono fun b hb => ⟨hb.1.imp id W0.own_of.1, how b hb⟩
            cases g with
            | one a => exact h2
            | agg l => exact h2
            | ref l => cases hg
            | own s E a => cases hg
          split at hK
          · split at hK
            · rename_i c r
              simp only [Option.bind_eq_some_iff] at hK
              obtain ⟨⟨gs, S2⟩, hgs, hK⟩ := hK
              simp only at hK
              split at hK
              · rename_i s E hsh
                split at hK
                · rename_i x hx
                  split at hK
                  · rename_i hc
                    simp only [Bool.and_eq_true] at hc
                    cases hK
                    have hres : Arg.ev ρ' (.own s E x) :: gs.map (Arg.ev ρ') = res := hw'
                    -- the row and the others
                    have main : ∀ (v0 : Value) (u : Nat → Value), CRep ρ' β' (okS (W0.of w) ok S'.bl β') w' c v0 → (∀ (j : Nat) (x : S1), r[j]? = some x → S1Rep ρ' β' (okS (W0.of w) ok S'.bl β') w' x (u j)) →
                        gs.length = r.length ∧ RepR w.heap.size ok (blockOf v0) w' (Arg.ev ρ' (.own s E x)) v0 ∧ ∀ (j : Nat) (g : Arg), gs[j]? = some g → RepR w.heap.size ok (blockOf v0) w' (g.ev ρ') (u j) := by
                      intro v0 u hv0 hu
                      obtain ⟨k1, k2, k3, k4⟩ := key r gs S2 hgs hc.1.2 u hu
                      cases c <;> simp only [St.handOver] at hx
                      case nils =>
                        cases hx
                        simp only [CRep] at hv0
                        subst hv0
                        exact ⟨k1, ⟨⟨[], World.ownsR_nil w' _ _ _, rfl, fun j d hj => by simp at hj⟩, fun b hb => hb⟩, fun j g hg => toR (List.all_eq_true.1 hc.1.1 g (List.mem_of_getElem? hg)) (fun b _ => by simp [blockOf]) (k4 j g hg)⟩
                      case own k =>
                        split at hx
                        · rename_i x' s' E' hk
                          split at hx
                          · rename_i hse
                            obtain ⟨rfl, rfl⟩ := hse
                            cases hx
                            obtain ⟨v1, n, cells, g1, g2, xs, g3, g4, g5⟩ := k2.hbl k _ hk
                            simp only [CRep] at hv0
                            rw [hv0] at g1; cases g1
                            have hnot : ∀ b, okS (W0.of w) ok S2.bl β' b → blockOf v0 ≠ some b := fun b hb => hb.2 k _ v0 hk rfl hv0
                            refine ⟨k1, ?_, fun j g hg => toR (List.all_eq_true.1 hc.1.1 g (List.mem_of_getElem? hg)) hnot (k4 j g hg)⟩
                            simp only [Arg.ev, A.ev_of_rd g2]
                            exact ⟨⟨xs, W0.own_of' ▸ g3, g4, fun j d hj => let ⟨u, hu, hr⟩ := g5 j d hj; ⟨u, hu, hr.mono fun b hb => ⟨hb.1.imp id W0.own_of.1, hnot b hb⟩⟩⟩, fun b hb => hb⟩
                          · cases hx
                        · cases hx
                      all_goals cases hx
                    match r, gs, hgs, hr, hres, main with
                    | [], gs, hgs, hr, hres, main =>
                      obtain ⟨m1, m2, m3⟩ := main v (fun _ => v) hr (fun j x hj => by simp at hj)
                      have : gs = [] := List.eq_nil_of_length_eq_zero m1
                      subst this
                      rw [← hres]
                      exact ⟨blockOf v, m2⟩
                    | y :: r, gs, hgs, hr, hres, main =>
                      obtain ⟨vs, rfl, hs, hc2⟩ := hr
                      obtain ⟨v0, hv0, hr0⟩ := hc2 0 _ rfl
                      obtain ⟨m1, m2, m3⟩ := main v0 (fun j => vs.getD (j + 1) undef) hr0 (fun j z hj => by
                        obtain ⟨u, hu, hq⟩ := hc2 (j + 1) z (by simpa using hj)
                        simpa [Array.getD_eq_getD_getElem?, hu] using hq)
                      match gs, m1, m3, hres with
                      | g :: gs, m1, m3, hres =>
                        rw [← hres]
                        refine ⟨blockOf v0, vs, rfl, by simp only [List.length_cons, List.length_map] at m1 ⊢; rw [hs]; simp; omega, fun j d hj => ?_⟩
                        cases j with
                        | zero => simp only [List.getElem?_cons_zero, Option.some.injEq] at hj; subst hj; exact ⟨v0, hv0, m2⟩
                        | succ j =>
                          simp only [List.getElem?_cons_succ] at hj
                          rw [List.getElem?_map] at hj
                          cases hg : (g :: gs)[j]? with
                          | none => rw [hg] at hj; cases hj
                          | some g' =>
                            rw [hg] at hj; cases hj
                            have hjl : j + 1 < vs.size := by
                              have := (List.getElem?_eq_some_iff.1 hg).1
                              rw [hs]; simp only [List.length_cons] at this m1 ⊢; omega
                            exact ⟨vs[j + 1], by simp [hjl], by simpa [Array.getD_eq_getD_getElem?, hjl] using m3 j g' hg⟩
                  · cases hK
                · cases hK
              · cases hK
            · cases hK
          · simp only [Option.bind_eq_some_iff] at hK
            obtain ⟨⟨gs, S2⟩, hgs, hK⟩ := hK
            simp only at hK
            split at hK
            · rename_i hc
              simp only [Bool.and_eq_true] at hc
              cases hK
              have hres : gs.map (Arg.ev ρ') = res := hw'
              have key2 : ∀ (u : Nat → Value), (∀ (j : Nat) (x : S1), l[j]? = some x → S1Rep ρ' β' (okS (W0.of w) ok S'.bl β') w' x (u j)) → ∀ (j : Nat) (r : AV), res[j]? = some r → RepR w.heap.size ok none w' r (u j) := by
                intro u hu j r hj
                obtain ⟨_, _, _, k4⟩ := key l gs S2 hgs hc.2 u hu
                rw [← hres, List.getElem?_map] at hj
                cases hg : gs[j]? with
                | none => rw [hg] at hj; cases hj
                | some g =>
                  rw [hg] at hj; cases hj
                  exact toR (List.all_eq_true.1 hc.1 g (List.mem_of_getElem? hg)) (fun b _ => by simp) (k4 j g hg)
              have hgl : gs.length = l.length := by
                obtain ⟨_, _, _, hgl⟩ := argsOf_facts hgs
                simpa using hgl
              have hrl : res.length = l.length := by rw [← hres]; simp [hgl]
              refine ⟨none, ?_⟩
              match l, hr, hrl, key2 with
              | [x], hr, hrl, key2 =>
                obtain ⟨r, rfl⟩ := List.length_eq_one_iff.1 hrl
                exact key2 (fun _ => v) (fun j y hj => by
                  cases j with
                  | zero => simp at hj; subst hj; exact hr
                  | succ j => simp at hj) 0 r rfl
              | [], hr, hrl, key2 =>
                have hr0 : res = [] := List.eq_nil_of_length_eq_zero hrl
                rw [hr0]
                obtain ⟨arr, rfl, hs, _⟩ := hr
                exact ⟨arr, rfl, hs, fun j d hj => by simp at hj⟩
              | x :: y :: l, hr, hrl, key2 =>
                obtain ⟨arr, rfl, hs, hc2⟩ := hr
                have hne : ∀ r, res ≠ [r] := fun r he => by rw [he] at hrl; simp at hrl
                have k2 := key2 (fun j => arr.getD j undef) (fun j z hj => by
                  obtain ⟨u, hu, hq⟩ := hc2 j z hj
                  simpa [Array.getD_eq_getD_getElem?, hu] using hq)
                have : ∃ vs : Array Value, Value.tuple arr = .tuple vs ∧ RepRs w.heap.size ok none w' res vs := by
                  refine ⟨arr, rfl, by rw [hs, hrl], fun j d hj => ?_⟩
                  have hjl : j < arr.size := by rw [hs, ← hrl]; exact (List.getElem?_eq_some_iff.1 hj).1
                  exact ⟨arr[j], by simp [hjl], by simpa [Array.getD_eq_getD_getElem?, hjl] using k2 j d hj⟩
                match res, hne, this with
                | [], _, this => exact this
                | [r], hne, _ => exact absurd rfl (hne r)
                | r :: r2 :: q, _, this => exact this
            · cases hK
        · cases hK
      cases ex with
      | exit id => simp only at hK; cases hK
      | nor =>
        cases e <;> simp only [ExM] at hex
        exact fin hK
      | ret =>
        cases e <;> simp only [ExM] at hex
        exact fin hK
    · cases h
  · cases h

end Go.Px

/- Px15: one operation in its place: its guard, its temporary, its blocks. -/
import Derived.Test.YtgnhhdgepnfnmaaPx14
set_option linter.unusedSimpArgs false
set_option linter.unusedVariables false
namespace Go.Px
open Go.RowKit

section
variable {w0 : World} {ok0 : Nat → Prop} {fs : List (Array Value)} {stk : List Frm} {ρ ρ' : List DV} {β : Bm} {nt : Nat} {tm : Nat → Option SV} {bl : Nat → Option Blk} {a : Act} {w : World} {ok : Nat → Prop}

theorem RM.put (H : RM w0 ok0 fs stk ρ β nt tm bl a w) {dst : Option Tmp} {v : Value} {tm' : Nat → Option SV} (hd : ∀ d, dst = some d → d < nt)
    (h : ∀ d s, dst = some d → tm' d = some s → SVRep ρ β (okS w0 ok0 bl β) w s v) : RM w0 ok0 fs stk ρ β nt (patch tm tm' dst.toList) bl (a.put dst v) w := by
  cases dst with
  | none => simp only [Option.toList_none, patch_nil, Act.put]; exact H
  | some d =>
    have hlt : d < a.tmps.size := by rw [H.sz]; exact hd d rfl
    refine { H with sz := by simp [Act.put, H.sz], htm := fun t sv ht => ?_ }
    simp only [patch, Option.toList_some, List.mem_singleton] at ht
    by_cases he : t = d
    · subst he
      rw [if_pos rfl] at ht
      exact ⟨v, by simp [Act.put, hlt], h t sv rfl ht⟩
    · rw [if_neg he] at ht
      obtain ⟨u, hu, hr⟩ := H.htm t sv ht
      exact ⟨u, by simp only [Act.put]; rw [Array.getElem?_setIfInBounds_ne (Ne.symm he)]; exact hu, hr⟩

end

/-- What the machine does with an operation whose turn it is. -/
def STEP (P : Program) (ops : Array Oper) (o : Oper) (a : Act) (w : World) (K : Act → World → Prop) (Q : Exit → Act → World → Prop) : Prop :=
  if Region.wanted o (yielded ops a.tmps) then o.wp P a w K Q ∨ (o.asks P a w ∧ LetsOut Q) else K (a.put o.dst undef) w

def StepOK (P : Program) (ops : Array Oper) (o : Oper) (S S' : St) (F : Foot) (ρ' : List DV) : Prop :=
  ∀ (ρf : List DV), Ext ρ' ρf → ∀ (w0 : World) (ok0 : Nat → Prop) (fs : List (Array Value)) (stk : List Frm) (β : Bm) (tm : Nat → Option SV) (bl : Nat → Option Blk) (a : Act) (w : World),
    RM w0 ok0 fs stk ρf β S.fr.nt tm bl a w → (∀ t ∈ F.rt, tm t = S.fr.tm t) → (∀ k ∈ F.rb, bl k = S.bl k) → β S.nb = none → bl S.nb = none →
    ∀ (K : Act → World → Prop) (Q : Exit → Act → World → Prop),
      (∀ a' β' w', RM w0 ok0 fs stk ρf β' S.fr.nt (patch tm S'.fr.tm F.wt) (patch bl S'.bl F.wb) a' w' → (∀ k u, β k = some u → β' k = some u) → (∀ k, k ≠ S.nb → β' k = β k) → K a' w') →
      STEP P ops o a w K Q

structure Next (S S' : St) : Prop where
  stk : S'.stk = S.stk
  nt : S'.fr.nt = S.fr.nt
  fn : S'.fr.fn = S.fr.fn
  nb : S'.nb = S.nb + 1
  dp : S'.dp = S.dp
  bln : ∀ k, S.nb + 1 ≤ k → S'.bl k = none

def StepOut (P : Program) (ops : Array Oper) (o : Oper) (S : St) (K : Bool → St → Option IR) (As : List (List DV → Prop)) (ρ : List DV) (Q : List AV → Prop) : Prop :=
  ∃ ran ρ' S' ir', Ext ρ ρ' ∧ ρ'.length = S'.nv ∧ K ran S' = some ir' ∧ IRwp P As ρ' ir' Q ∧ KnOK S'.kn ρ' ∧ Next S S' ∧
    (∀ t, t ∉ (footOf ops o ran S.nb S).wt → S'.fr.tm t = S.fr.tm t) ∧ (∀ k, k ∉ (footOf ops o ran S.nb S).wb → S'.bl k = S.bl k) ∧ StepOK P ops o S S' (footOf ops o ran S.nb S) ρ'

section
variable {P : Program} {ops : Array Oper} {o : Oper} {S : St} {As : List (List DV → Prop)} {ρ : List DV} {Q : List AV → Prop} {ir : IR}

/-- The guard is as wanted, so long as its temporary is as S says. -/
def Guarded (ops : Array Oper) (o : Oper) (S : St) (ρ : List DV) (b : Bool) : Prop :=
  ∀ (ρf : List DV), Ext ρ ρf → ∀ (w0 : World) (ok0 : Nat → Prop) (fs : List (Array Value)) (stk : List Frm) (β : Bm) (nt : Nat) (tm : Nat → Option SV) (bl : Nat → Option Blk) (a : Act) (w : World),
    RM w0 ok0 fs stk ρf β nt tm bl a w → (∀ t ∈ guardTs ops o, tm t = S.fr.tm t) → Region.wanted o (yielded ops a.tmps) = b

theorem setT_fr (S : St) (d : Option Tmp) (v : Option SV) : (S.setT d v).stk = S.stk ∧ (S.setT d v).fr.nt = S.fr.nt ∧ (S.setT d v).fr.fn = S.fr.fn ∧ (S.setT d v).nb = S.nb ∧ (S.setT d v).dp = S.dp ∧ (S.setT d v).bl = S.bl ∧ (S.setT d v).nv = S.nv ∧ (S.setT d v).kn = S.kn := by
  cases d <;> exact ⟨rfl, rfl, rfl, rfl, rfl, rfl, rfl, rfl⟩
theorem setT_tm (S : St) (d : Option Tmp) (v : Option SV) : (∀ t, t ∉ d.toList → (S.setT d v).fr.tm t = S.fr.tm t) ∧ ∀ t, d = some t → (S.setT d v).fr.tm t = v := by
  cases d with
  | none => exact ⟨fun _ _ => rfl, fun _ h => by cases h⟩
  | some d =>
    refine ⟨fun t ht => ?_, fun t ht => by cases ht; simp [St.setT, upd]⟩
    simp only [Option.toList_some, List.mem_singleton] at ht
    simp [St.setT, upd, ht]

theorem step_skip {K : Bool → St → Option IR} (hd : dstOk S o = true) (h : K false (({ S with nb := S.nb + 1 } : St).setT o.dst (some (.s (.one .und)))) = some ir) (hk : KnOK S.kn ρ) (hw : IRwp P As ρ ir Q) (hl : ρ.length = S.nv)
    (hnb : ∀ k, S.nb ≤ k → S.bl k = none) (hg : Guarded ops o S ρ false) : StepOut P ops o S K As ρ Q := by
  obtain ⟨e1, e2, e3, e4, e5, e6, e7, e8⟩ := setT_fr { S with nb := S.nb + 1 } o.dst (some (.s (.one .und)))
  obtain ⟨g1, g2⟩ := setT_tm { S with nb := S.nb + 1 } o.dst (some (.s (.one .und)))
  refine ⟨false, ρ, _, ir, Ext.refl _, by rw [e7]; exact hl, h, hw, by rw [e8]; exact hk, ⟨e1, e2, e3, e4, e5, fun k hk => by rw [e6]; exact hnb k (by omega)⟩, fun t ht => ?_, fun k hk => by rw [e6], ?_⟩
  · simp only [footOf] at ht
    exact g1 t ht
  intro ρf hE w0 ok0 fs stk β tm bl a w H hrt hrb hβ hbl K' Q' hk'
  unfold STEP
  rw [hg ρf hE w0 ok0 fs stk β S.fr.nt tm bl a w H (fun t ht => hrt t (by simpa [footOf] using ht))]
  simp only [Bool.false_eq_true, if_false]
  refine hk' _ β _ ?_ (fun _ _ h => h) fun _ _ => rfl
  simp only [footOf, Bool.false_eq_true, if_false]
  rw [e6, patch_same (ks := [S.nb]) (fun k hk => by
    rw [List.mem_singleton.1 hk]
    exact hbl.trans (hnb S.nb (Nat.le_refl _)).symm)]
  refine H.put (fun d hd' => ?_) fun d s hd' hs => ?_
  · simp only [dstOk, hd', decide_eq_true_eq] at hd; exact hd
  · rw [g2 d hd'] at hs; cases hs; rfl

theorem step_go {K : Bool → St → Option IR} (hd : (dstOk S o && (namedOf S o.op).all (fun k => decide (k < S.nb))) = true)
    (h : symOp P o (usedByCall S ops o) S.nb S (fun v S' => K true (({ S' with nb := S.nb + 1 } : St).setT o.dst v)) = some ir) (hk : KnOK S.kn ρ) (hw : IRwp P As ρ ir Q) (hl : ρ.length = S.nv)
    (hnb : ∀ k, S.nb ≤ k → S.bl k = none) (hg : Guarded ops o S ρ true) : StepOut P ops o S K As ρ Q := by
  simp only [Bool.and_eq_true, List.all_eq_true, decide_eq_true_eq] at hd
  obtain ⟨hd, hnm⟩ := hd
  obtain ⟨ρ', sv, S2, ir', hE, hl', hK, hw', hS, hfr, ⟨hN1, hN2⟩, hOK⟩ := symOp_sound (ks := namedOf S o.op) (fun k hk => hk) h hk hw hl (hnb _ (Nat.le_refl _))
  obtain ⟨s1, s2, s3, s4, s5⟩ := hS
  obtain ⟨e1, e2, e3, e4, e5, e6, e7, e8⟩ := setT_fr { S2 with nb := S.nb + 1 } o.dst sv
  obtain ⟨g1, g2⟩ := setT_tm { S2 with nb := S.nb + 1 } o.dst sv
  refine ⟨true, ρ', _, ir', hE, by rw [e7]; exact hl', hK, hw', by rw [e8]; show KnOK S2.kn ρ'; rw [s5]; exact hk.ext hE,
    ⟨by rw [e1]; exact s2, by rw [e2]; show S2.fr.nt = _; rw [s1], by rw [e3]; show S2.fr.fn = _; rw [s1], e4, by rw [e5]; exact s4, fun k hk => ?_⟩, fun t ht => ?_, fun k hk => ?_, ?_⟩
  · rw [e6]; exact hN2 k (by omega) (hnb k (by omega))
  · simp only [footOf, if_true] at ht
    rw [g1 t ht]; show S2.fr.tm t = _; rw [s1]
  · rw [e6]
    simp only [footOf, if_true] at hk
    cases ht : turnsOp o.op with
    | true => rw [ht] at hk; exact hfr k (by simpa using hk)
    | false => exact hN1 ht k fun he => hk (by simp [he])
  intro ρf hEf w0 ok0 fs stk β tm bl a w H hrt hrb hβ hbl K' Q' hk'
  simp only [footOf, if_true] at hrt hrb hk'
  unfold STEP
  rw [hg ρf (hE.trans hEf) w0 ok0 fs stk β S.fr.nt tm bl a w H (fun t ht => hrt t (by simp only [List.mem_append]; exact .inr ht))]
  simp only [if_true]
  refine .inl (hOK ρf hEf w0 ok0 fs stk β S.fr.nt tm bl a w H (fun x hx => ?_) hrb hβ hbl K' Q' fun v β' w' H' hβ1 hβ2 hv => hk' _ β' w' ?_ hβ1 hβ2)
  · rw [St.ev_eq]
    cases x with
    | tmp t => exact hrt t (List.mem_append.2 (.inl (by simp only [Op.tmps, List.mem_filterMap]; exact ⟨.tmp t, by simpa using hx, rfl⟩)))
    | _ => rfl
  · have hp : patch bl S2.bl (S.nb :: (if turnsOp o.op = true then namedOf S o.op else [])) = patch bl S2.bl (S.nb :: namedOf S o.op) := by
      cases ht : turnsOp o.op with
      | true => simp
      | false =>
        funext k
        simp only [Bool.false_eq_true, if_false, patch, List.mem_cons, List.not_mem_nil, or_false]
        by_cases h1 : k = S.nb
        · simp [h1]
        · simp only [h1, if_false, false_or]
          split
          · rename_i h2; rw [hN1 ht k h1, hrb k h2]
          · rfl
    rw [e6, hp]
    refine H'.put (fun d hd' => ?_) fun d s hd' hs => ?_
    · simp only [dstOk, hd', decide_eq_true_eq] at hd; exact hd
    · rw [g2 d hd'] at hs; exact hv s hs

theorem guard_none (h : guardT ops o = none) : Guarded ops o S ρ true := by
  intro ρf hE w0 ok0 fs stk β nt tm bl a w H ht
  simp only [guardT, Option.map_eq_none_iff] at h
  simp [Region.wanted, h]

theorem guard_val {t : Tmp} {want b : Bool} {sv : SV} (h : guardT ops o = some (some t, want)) (ht : S.fr.tm t = some sv)
    (hv : ∀ (ρf : List DV), Ext ρ ρf → ∀ (β : Bm) (ok : Nat → Prop) (w : World) (v : Value), SVRep ρf β ok w sv v → ((match v with | .bool x => some x | _ => none) == some want) = b) : Guarded ops o S ρ b := by
  intro ρf hE w0 ok0 fs stk β nt tm bl a w H hT
  have hg : guardTs ops o = [t] := by simp [guardTs, h]
  have htt := hT t (by simp [hg])
  obtain ⟨v, hv1, hv2⟩ := H.htm t sv (by rw [htt]; exact ht)
  simp only [guardT, Option.map_eq_some_iff] at h
  obtain ⟨⟨j, b'⟩, h1, h2⟩ := h
  simp only [Prod.mk.injEq] at h2
  obtain ⟨h2, rfl⟩ := h2
  have := hv ρf hE _ _ _ _ hv2
  simp only [Region.wanted, h1, yielded, h2, Option.bind_some, hv1]
  rw [← this]
  cases v <;> rfl

theorem guard_at {t : Tmp} {want b : Bool} {x : A} (h : guardT ops o = some (some t, want)) (ht : S.fr.tm t = some (.s (.one (.at x)))) {c : Bool} (hx : x.rd ρ = some (.bool c)) (hb : (c == want) = b) : Guarded ops o S ρ b := by
  refine guard_val h ht fun ρf hE β ok w v hv => ?_
  obtain ⟨d, hd, hr⟩ := hv
  rw [A.rd_ext hE hx] at hd; cases hd
  rw [reads_bool hr]
  rw [← hb]; cases c <;> cases want <;> rfl

theorem guard_und {t : Tmp} {want : Bool} (h : guardT ops o = some (some t, want)) (ht : S.fr.tm t = some (.s (.one .und))) : Guarded ops o S ρ false := by
  refine guard_val h ht fun ρf hE β ok w v hv => ?_
  simp only [SVRep, S1Rep, CRep] at hv
  subst hv; rfl

/-- The same, but for what is known. -/
theorem StepOut.kn {K : Bool → St → Option IR} {kn : List (Nat × Bool)} (h : StepOut P ops o { S with kn := kn } K As ρ Q) : StepOut P ops o S K As ρ Q := by
  obtain ⟨ran, ρ', S', ir', h1, h2, h3, h4, h5, h6, h7, h8, h9⟩ := h
  have hf : ∀ r, footOf ops o r ({ S with kn := kn } : St).nb { S with kn := kn } = footOf ops o r S.nb S := fun r => by
    unfold footOf namedOf capsOf
    rfl
  rw [hf] at h7 h8 h9
  exact ⟨ran, ρ', S', ir', h1, h2, h3, h4, h5, ⟨h6.stk, h6.nt, h6.fn, h6.nb, h6.dp, h6.bln⟩, h7, h8, h9⟩

def goE (P : Program) (inl : Inl) (ops : Array Oper) (o : Oper) (K : Bool → St → Option IR) (S : St) : Option IR :=
  if dstOk S o && (namedOf S o.op).all (fun k => decide (k < S.nb)) then
    match inl o S with
    | some h => h fun v S' => K true (({ S' with nb := S'.nb + 1 } : St).setT o.dst v)
    | none => symOp P o (usedByCall S ops o) S.nb S fun v S' => K true (({ S' with nb := S.nb + 1 } : St).setT o.dst v)
  else none
def skipE (o : Oper) (K : Bool → St → Option IR) (S : St) : Option IR :=
  if dstOk S o then K false (({ S with nb := S.nb + 1 } : St).setT o.dst (some (.s (.one .und)))) else none

/-- The ways of a step. -/
theorem symStep_cases {inl : Inl} {K : Bool → St → Option IR} (h : symStep P inl ops o S K = some ir) (hk : KnOK S.kn ρ) (hw : IRwp P As ρ ir Q) (hl : ρ.length = S.nv) :
    ∃ kn ir1, KnOK kn ρ ∧ IRwp P As ρ ir1 Q ∧ (Guarded ops o S ρ true ∧ goE P inl ops o K { S with kn := kn } = some ir1 ∨ Guarded ops o S ρ false ∧ skipE o K { S with kn := kn } = some ir1) := by
  unfold symStep at h
  simp only at h
  split at h
  · rename_i hg
    exact ⟨S.kn, ir, hk, hw, .inl ⟨guard_none hg, h⟩⟩
  · rename_i t want hg
    split at h
    · rename_i ht
      exact ⟨S.kn, ir, hk, hw, .inr ⟨guard_und hg ht, h⟩⟩
    · rename_i x ht
      split at h
      · rename_i c hc
        have hx := tru_rd hk hc
        split at h
        · rename_i he
          exact ⟨S.kn, ir, hk, hw, .inl ⟨guard_at hg ht hx (by simp [he]), h⟩⟩
        · rename_i he
          exact ⟨S.kn, ir, hk, hw, .inr ⟨guard_at hg ht hx (by simpa using he), h⟩⟩
      · split at h
        · rename_i i _
          split at h
          · rename_i x y hx hy
            split at h
            · rename_i hi2
              cases h
              obtain ⟨b, hb, hb1, hb2⟩ := hw
              have hrd : (A.var i).rd ρ = some (.bool b) := by
                have hlt : i < ρ.length := by omega
                simp only [A.ev, List.getD_eq_getElem?_getD, List.getElem?_eq_getElem hlt, Option.getD_some] at hb
                simp [A.rd, List.getElem?_eq_getElem hlt, hb]
              have hkn : KnOK ((i, b) :: S.kn) ρ := fun j c hj => by
                rcases List.mem_cons.1 hj with he | hj
                · cases he; exact hrd
                · exact hk j c hj
              cases b with
              | true =>
                cases want with
                | true => exact ⟨(i, true) :: S.kn, x, hkn, hb1 rfl, .inl ⟨guard_at hg ht hrd rfl, hx⟩⟩
                | false => exact ⟨(i, true) :: S.kn, x, hkn, hb1 rfl, .inr ⟨guard_at hg ht hrd rfl, hx⟩⟩
              | false =>
                cases want with
                | true => exact ⟨(i, false) :: S.kn, y, hkn, hb2 rfl, .inr ⟨guard_at hg ht hrd rfl, hy⟩⟩
                | false => exact ⟨(i, false) :: S.kn, y, hkn, hb2 rfl, .inl ⟨guard_at hg ht hrd rfl, hy⟩⟩
            · cases h
          · cases h
        · cases h
    · cases h
  · cases h

/-- ONE STEP, no call being walked into. -/
theorem symStep_sound {inl : Inl} {K : Bool → St → Option IR} (hi : ∀ kn, inl o { S with kn := kn } = none) (h : symStep P inl ops o S K = some ir) (hk : KnOK S.kn ρ) (hw : IRwp P As ρ ir Q) (hl : ρ.length = S.nv)
    (hnb : ∀ k, S.nb ≤ k → S.bl k = none) : StepOut P ops o S K As ρ Q := by
  obtain ⟨kn, ir1, hkn, hw1, ⟨hg, h1⟩ | ⟨hg, h1⟩⟩ := symStep_cases h hk hw hl
  · unfold goE at h1
    split at h1
    · rename_i hd
      rw [hi kn] at h1
      exact StepOut.kn (step_go (S := { S with kn := kn }) hd h1 hkn hw1 hl hnb hg)
    · cases h1
  · unfold skipE at h1
    split at h1
    · rename_i hd
      exact StepOut.kn (step_skip (S := { S with kn := kn }) hd h1 hkn hw1 hl hnb hg)
    · cases h1

end
end Go.Px

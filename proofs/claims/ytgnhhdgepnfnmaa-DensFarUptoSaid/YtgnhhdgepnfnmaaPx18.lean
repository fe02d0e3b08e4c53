/- Px18: regions that draw their order: whatever the order, the state is the one of the text. -/
import Derived.Test.YtgnhhdgepnfnmaaPx17
set_option linter.unusedSimpArgs false
set_option linter.unusedVariables false
namespace Go.Px
open Go.RowKit

theorem StepOK.ext {P : Program} {ops : Array Oper} {o : Oper} {S S' : St} {F : Foot} {ρ ρ' : List DV} (hE : Ext ρ ρ') (h : StepOK P ops o S S' F ρ) : StepOK P ops o S S' F ρ' :=
  fun ρf hf => h ρf (hE.trans hf)

/-- A step's facts. -/
structure Stp (P : Program) (ops : Array Oper) (o : Oper) (S S' : St) (F : Foot) (ρ' : List DV) : Prop where
  nx : Next S S'
  ft : ∀ t, t ∉ F.wt → S'.fr.tm t = S.fr.tm t
  fb : ∀ k, k ∉ F.wb → S'.bl k = S.bl k
  ok : StepOK P ops o S S' F ρ'
  me : S.nb ∈ F.wb

section
variable {P : Program} {ops : Array Oper} {As : List (List DV → Prop)} {Q : List AV → Prop}

theorem symDraw_path {K : List Foot → St → Option IR} : ∀ (l : List Oper) (S : St) (fs : List Foot) (ir : IR) (ρ : List DV), symDraw P ops l S fs K = some ir → IRwp P As ρ ir Q → KnOK S.kn ρ → ρ.length = S.nv → (∀ k, S.nb ≤ k → S.bl k = none) →
    ∃ (σ : Nat → St) (F : Nat → Foot) (ρ' : List DV) (ir' : IR), σ 0 = S ∧ (∀ i o, l[i]? = some o → Stp P ops o (σ i) (σ (i + 1)) (F i) ρ') ∧ K (fs ++ (List.range l.length).map F) (σ l.length) = some ir' ∧
      IRwp P As ρ' ir' Q ∧ KnOK (σ l.length).kn ρ' ∧ ρ'.length = (σ l.length).nv ∧ Ext ρ ρ' ∧ (∀ k, (σ l.length).nb ≤ k → (σ l.length).bl k = none)
  | [], S, fs, ir, ρ, h, hw, hk, hl, hb => ⟨fun _ => S, fun _ => default, ρ, ir, rfl, fun i o ho => by simp at ho, by simpa [symDraw] using h, hw, hk, hl, Ext.refl _, hb⟩
  | o :: r, S, fs, ir, ρ, h, hw, hk, hl, hb => by
    simp only [symDraw] at h
    obtain ⟨ran, ρ1, S1, ir1, hE, hl1, hK, hw1, hk1, hN, ht, hb1, hOK⟩ := symStep_sound (fun _ => rfl) h hk hw hl hb
    obtain ⟨σ, F, ρ', ir', h0, hs, hK', hw', hk', hl', hE', hb'⟩ := symDraw_path r S1 _ ir1 ρ1 hK hw1 hk1 hl1 (fun k hk => hN.bln k (by rw [hN.nb] at hk; exact hk))
    have hme : S.nb ∈ (footOf ops o ran S.nb S).wb := by cases ran <;> simp [footOf]
    refine ⟨fun i => match i with | 0 => S | i + 1 => σ i, fun i => match i with | 0 => footOf ops o ran S.nb S | i + 1 => F i, ρ', ir', rfl, fun i o' ho => ?_, ?_, hw', hk', hl', hE.trans hE', hb'⟩
    · cases i with
      | zero =>
        simp at ho; subst ho
        simp only [h0]
        exact ⟨hN, ht, hb1, hOK.ext hE', hme⟩
      | succ i => exact hs i o' (by simpa using ho)
    · simp only [List.length_cons, List.range_succ_eq_map, List.map_cons, List.map_map]
      have e1 : fs ++ (footOf ops o ran S.nb S :: (List.range r.length).map ((fun i => match i with | 0 => footOf ops o ran S.nb S | i + 1 => F i) ∘ Nat.succ)) = fs ++ [footOf ops o ran S.nb S] ++ (List.range r.length).map F := by
        simp only [List.append_assoc, List.singleton_append]
        rfl
      rw [e1]; exact hK'

theorem countP_lt {α : Type} {p q : α → Bool} : ∀ {l : List α}, (∀ x ∈ l, p x = true → q x = true) → (∃ x ∈ l, q x = true ∧ p x = false) → l.countP p < l.countP q
  | [], _, ⟨x, hx, _⟩ => by cases hx
  | y :: r, h, ⟨x, hx, h1, h2⟩ => by
    have hr : r.countP p ≤ r.countP q := List.countP_mono_left fun z hz => h z (List.mem_cons_of_mem _ hz)
    rcases List.mem_cons.1 hx with rfl | hx
    · simp only [List.countP_cons, h1, h2, if_true, Bool.false_eq_true, if_false]; omega
    · have := countP_lt (fun z hz => h z (List.mem_cons_of_mem _ hz)) ⟨x, hx, h1, h2⟩
      have hy := h y (by simp)
      simp only [List.countP_cons]
      cases hp : p y <;> cases hq : q y <;> simp_all <;> omega

def open_ (n : Nat) (listed : Array Bool) : Nat := (List.range n).countP fun i => !listed.getD i true

theorem run_draw {w0 : World} {ok0 : Nat → Prop} {fs : List (Array Value)} {stk : List Frm} {nt base : Nat} {σ : Nat → St} {F : Nat → Foot} {ρ : List DV} {Qx : Exit → Act → World → Prop}
    (hs : ∀ i o, ops[i]? = some o → Stp P ops o (σ i) (σ (i + 1)) (F i) ρ) (hnt : ∀ i, i ≤ ops.size → (σ i).fr.nt = nt) (hid : ∀ i, i ≤ ops.size → (σ i).nb = base + i) (hbl0 : ∀ i, i ≤ ops.size → ∀ k, (σ i).nb ≤ k → (σ i).bl k = none)
    (hback : backward ops.toList = true) (hap : apartAll (ancs ops.toList []) ((List.range ops.size).map F) = true)
    (hQ : ∀ β a w, RM w0 ok0 fs stk ρ β nt (σ ops.size).fr.tm (σ ops.size).bl a w → (∀ k, base + ops.size ≤ k → β k = none) → Qx .normal a w) :
    ∀ (fuel : Nat) (listed : Array Bool) (β : Bm) (tm : Nat → Option SV) (bl : Nat → Option Blk) (a : Act) (w : World), listed.size = ops.size → open_ ops.size listed ≤ fuel →
      (∀ j, j < ops.size → listed.getD j false = true → ∀ o e, ops[j]? = some o → e ∈ o.after → Region.binds .any e = true → listed.getD e.on false = true) →
      RM w0 ok0 fs stk ρ β nt tm bl a w → Mem ops.size (fun i => (σ i).fr.tm) (fun i => (F i).wt) (fun j => listed.getD j false = true) tm → Mem ops.size (fun i => (σ i).bl) (fun i => (F i).wb) (fun j => listed.getD j false = true) bl →
      (∀ j, j < ops.size → listed.getD j false = false → β (base + j) = none) → (∀ k, base + ops.size ≤ k → β k = none) → wpAny P .any ops Qx fuel listed a w := by
  have hop : ∀ i, i < ops.size → ∃ o, ops[i]? = some o := fun i hi => ⟨ops[i], by simp [hi]⟩
  have hD : ∀ i j, i < j → j < ops.size → (F i).clash (F j) = true → ((ancs ops.toList []).getD j 0).testBit i = true := fun i j h1 h2 h3 => apartAll_spec hap h1 h2 h3
  have hWt : ∀ i, i < ops.size → ∀ x, x ∉ (F i).wt → (σ (i + 1)).fr.tm x = (σ i).fr.tm x := fun i hi x hx => by
    obtain ⟨o, ho⟩ := hop i hi
    exact (hs i o ho).ft x hx
  have hWb : ∀ i, i < ops.size → ∀ x, x ∉ (F i).wb → (σ (i + 1)).bl x = (σ i).bl x := fun i hi x hx => by
    obtain ⟨o, ho⟩ := hop i hi
    exact (hs i o ho).fb x hx
  have ct1 : ∀ i j x, i < j → j < ops.size → x ∈ (F i).wt → x ∈ (F j).rt ∨ x ∈ (F j).wt → ((ancs ops.toList []).getD j 0).testBit i = true := fun i j x h1 h2 h3 h4 => hD i j h1 h2 (by
    simp only [Foot.clash, Bool.or_eq_true]
    rcases h4 with h4 | h4
    · exact .inl (.inl (.inl (.inl (.inl (meet_of h3 h4)))))
    · exact .inl (.inl (.inl (.inl (.inr (meet_of h3 h4))))))
  have ct2 : ∀ i j x, i < j → j < ops.size → x ∈ (F j).wt → x ∈ (F i).rt ∨ x ∈ (F i).wt → ((ancs ops.toList []).getD j 0).testBit i = true := fun i j x h1 h2 h3 h4 => hD i j h1 h2 (by
    simp only [Foot.clash, Bool.or_eq_true]
    rcases h4 with h4 | h4
    · exact .inl (.inl (.inl (.inr (meet_of h3 h4))))
    · exact .inl (.inl (.inl (.inl (.inr (meet_of h4 h3))))))
  have cb1 : ∀ i j x, i < j → j < ops.size → x ∈ (F i).wb → x ∈ (F j).rb ∨ x ∈ (F j).wb → ((ancs ops.toList []).getD j 0).testBit i = true := fun i j x h1 h2 h3 h4 => hD i j h1 h2 (by
    simp only [Foot.clash, Bool.or_eq_true]
    rcases h4 with h4 | h4
    · exact .inl (.inl (.inr (meet_of h3 h4)))
    · exact .inl (.inr (meet_of h3 h4)))
  have cb2 : ∀ i j x, i < j → j < ops.size → x ∈ (F j).wb → x ∈ (F i).rb ∨ x ∈ (F i).wb → ((ancs ops.toList []).getD j 0).testBit i = true := fun i j x h1 h2 h3 h4 => hD i j h1 h2 (by
    simp only [Foot.clash, Bool.or_eq_true]
    rcases h4 with h4 | h4
    · exact .inr (meet_of h3 h4)
    · exact .inl (.inr (meet_of h4 h3)))
  -- what an operation waits for is listed, if its edges are
  have closed : ∀ (listed : Array Bool), (∀ j, j < ops.size → listed.getD j false = true → ∀ o e, ops[j]? = some o → e ∈ o.after → Region.binds .any e = true → listed.getD e.on false = true) →
      ∀ j, j < ops.size → (∀ o e, ops[j]? = some o → e ∈ o.after → Region.binds .any e = true → listed.getD e.on false = true) → ∀ i, ((ancs ops.toList []).getD j 0).testBit i = true → listed.getD i false = true := by
    intro listed hcl j
    induction j using Nat.strongRecOn with
    | _ j ih =>
      intro hj hr i hi
      obtain ⟨o, ho⟩ := hop j hj
      obtain ⟨e, he, hb, h1⟩ := (ancs_spec ops.toList []).2 j o (by simpa using ho) i (by simpa using hi)
      have hle := hr o e ho he hb
      rcases h1 with rfl | h1
      · exact hle
      · have hlt := backward_spec hback (by simpa using ho) he hb
        exact ih e.on hlt (by omega) (hcl e.on (by omega) hle) i h1
  have allDone : ∀ (listed : Array Bool), listed.size = ops.size → Region.ready .any ops listed = [] → ∀ i, i < ops.size → listed.getD i false = true := by
    intro listed hsz hr i
    induction i using Nat.strongRecOn with
    | _ i ih =>
      intro hi
      cases hb : listed.getD i false with
      | true => rfl
      | false =>
        exfalso
        obtain ⟨o, ho⟩ := hop i hi
        have hb2 : listed.getD i true = false := by
          have hlt : i < listed.size := by omega
          simp only [Array.getD_eq_getD_getElem?, Array.getElem?_eq_getElem hlt, Option.getD_some] at hb ⊢
          exact hb
        have : i ∈ Region.ready .any ops listed := mem_ready.2 ⟨hb2, o, ho, fun e he hbe => ih e.on (backward_spec hback (by simpa using ho) he hbe) (by have := backward_spec hback (ops := ops.toList) (i := i) (o := o) (by simpa using ho) he hbe; omega)⟩
        rw [hr] at this; cases this
  have fin : ∀ (listed : Array Bool) (β : Bm) (tm : Nat → Option SV) (bl : Nat → Option Blk) (a : Act) (w : World), (∀ i, i < ops.size → listed.getD i false = true) → RM w0 ok0 fs stk ρ β nt tm bl a w →
      Mem ops.size (fun i => (σ i).fr.tm) (fun i => (F i).wt) (fun j => listed.getD j false = true) tm → Mem ops.size (fun i => (σ i).bl) (fun i => (F i).wb) (fun j => listed.getD j false = true) bl → (∀ k, base + ops.size ≤ k → β k = none) → Qx .normal a w := by
    intro listed β tm bl a w hall H Mt Mb hβ
    have e1 : tm = (σ ops.size).fr.tm := Mt.done hWt (fun j hj => hall j hj)
    have e2 : bl = (σ ops.size).bl := Mb.done hWb (fun j hj => hall j hj)
    rw [e1, e2] at H
    exact hQ β a w H hβ
  intro fuel
  induction fuel with
  | zero =>
    intro listed β tm bl a w hsz ho hcl H Mt Mb hβ1 hβ2
    have hnone : Region.ready .any ops listed = [] := by
      cases hr : Region.ready .any ops listed with
      | nil => rfl
      | cons i r =>
        exfalso
        have hi : i ∈ Region.ready .any ops listed := by rw [hr]; simp
        obtain ⟨h1, o, ho2, _⟩ := mem_ready.1 hi
        have hlt : i < ops.size := (Array.getElem?_eq_some_iff.1 ho2).1
        have h0 : open_ ops.size listed = 0 := by omega
        have := List.countP_eq_zero.1 h0 i (by simp [hlt])
        simp [h1] at this
    exact ⟨hnone, fin listed β tm bl a w (allDone listed hsz hnone) H Mt Mb hβ2⟩
  | succ fuel ih =>
    intro listed β tm bl a w hsz ho hcl H Mt Mb hβ1 hβ2
    refine ⟨fun hr => fin listed β tm bl a w (allDone listed hsz hr) H Mt Mb hβ2, fun i hi => ?_⟩
    obtain ⟨h1, o, ho2, hedge⟩ := mem_ready.1 hi
    have hlt : i < ops.size := (Array.getElem?_eq_some_iff.1 ho2).1
    have hL : listed.getD i false = false := by
      have hlt2 : i < listed.size := by omega
      simp only [Array.getD_eq_getD_getElem?, Array.getElem?_eq_getElem hlt2, Option.getD_some] at h1 ⊢
      exact h1
    have hnL : ¬ listed.getD i false = true := by rw [hL]; simp
    have hr : ∀ o' e, ops[i]? = some o' → e ∈ o'.after → Region.binds .any e = true → listed.getD e.on false = true := fun o' e h2 h3 h4 => by
      rw [ho2] at h2; cases h2; exact hedge e h3 h4
    have hri := closed listed hcl i hlt hr
    have hcl2 : ∀ j, j < ops.size → listed.getD j false = true → ∀ i', ((ancs ops.toList []).getD j 0).testBit i' = true → listed.getD i' false = true := fun j hj hLj => closed listed hcl j hj (hcl j hj hLj)
    have lookT : ∀ x, x ∈ (F i).rt ∨ x ∈ (F i).wt → tm x = (σ i).fr.tm x := fun x hx =>
      Mt.look (R := fun i => (F i).rt) (D := fun i j => ((ancs ops.toList []).getD j 0).testBit i = true) hWt ct1 ct2 hcl2 hlt hnL hri hx
    have lookB : ∀ x, x ∈ (F i).rb ∨ x ∈ (F i).wb → bl x = (σ i).bl x := fun x hx =>
      Mb.look (R := fun i => (F i).rb) (D := fun i j => ((ancs ops.toList []).getD j 0).testBit i = true) hWb cb1 cb2 hcl2 hlt hnL hri hx
    have hst := hs i o ho2
    have hnb := hid i (by omega)
    have hset : ∀ j, (listed.setIfInBounds i true).getD j false = true ↔ (listed.getD j false = true ∨ j = i) := fun j => by
      by_cases he : j = i
      · subst he
        have hlt2 : j < listed.size := by omega
        simp [hlt2]
      · rw [getD_set_ne false (Ne.symm he)]; simp [he]
    have hstep : STEP P ops o a w (wpAny P .any ops Qx fuel (listed.setIfInBounds i true)) Qx := by
      refine hst.ok ρ (Ext.refl _) w0 ok0 fs stk β tm bl a w (by rw [hnt i (by omega)]; exact H) (fun t ht => lookT t (.inl ht)) (fun k hk => lookB k (.inl hk)) (by rw [hnb]; exact hβ1 i hlt hL) ?_ _ Qx fun a' β' w' H' hβ3 hβ4 => ?_
      · rw [lookB _ (.inr hst.me)]; exact hbl0 i (by omega) _ (Nat.le_refl _)
      rw [hnt i (by omega)] at H'
      refine ih (listed.setIfInBounds i true) β' _ _ a' w' (by simp [hsz]) ?_ ?_ H' (Mt.put (R := fun i => (F i).rt) (D := fun i j => ((ancs ops.toList []).getD j 0).testBit i = true) ct2 hcl2 hlt hnL hset)
        (Mb.put (R := fun i => (F i).rb) (D := fun i j => ((ancs ops.toList []).getD j 0).testBit i = true) cb2 hcl2 hlt hnL hset) (fun j hj hLj => ?_) (fun k hk => ?_)
      · have : open_ ops.size (listed.setIfInBounds i true) < open_ ops.size listed := by
          refine countP_lt (fun j hj hp => ?_) ⟨i, by simp [hlt], by simp [h1], ?_⟩
          · by_cases he : j = i
            · rw [he]; simp [h1]
            · rw [getD_set_ne true (Ne.symm he)] at hp; exact hp
          · have hlt2 : i < listed.size := by omega
            simp [hlt2]
        omega
      · intro j hj hLj o' e h2 h3 h4
        rcases (hset j).1 hLj with h5 | h5
        · exact (hset _).2 (.inl (hcl j hj h5 o' e h2 h3 h4))
        · rw [h5] at h2; exact (hset _).2 (.inl (hr o' e h2 h3 h4))
      · have hne : j ≠ i := fun he => by
          have := (hset j).2 (.inr he)
          rw [hLj] at this; cases this
        rw [hβ4 _ (by rw [hnb]; omega)]
        refine hβ1 j hj ?_
        cases hb : listed.getD j false with
        | false => rfl
        | true => have := (hset j).2 (.inl hb); rw [hLj] at this; cases this
      · rw [hβ4 _ (by rw [hnb]; omega)]; exact hβ2 k hk
    unfold wpOp
    simp only [ho2]
    exact hstep

/-- A region that draws its order. -/
theorem region_draw {id : Nat} {S : St} {ρ : List DV} {ir : IR} {w0 : World} {ok0 : Nat → Prop} {fs : List (Array Value)} {β : Bm} {a : Act} {w : World} (hm : P.follows .mixedOrders = true) {K : St → Option IR} {Qx : Exit → Act → World → Prop}
    (hback : backward ops.toList = true) (h : symDraw P ops ops.toList S [] (fun fs S => if apartAll (ancs ops.toList []) fs then K S else none) = some ir) (hw : IRwp P As ρ ir Q) (hA : As.length = S.dp) (H : AtS w0 ok0 fs S ρ β a w)
    (hK : ∀ a w, Cont P Q w0 ok0 fs S.fr.nt As K a w → Qx .normal a w) : (Code.region id ops true).wp P Qx a w := by
  obtain ⟨σ, F, ρ', ir', h0, hs, hK', hw', hk', hl', hE', hb'⟩ := symDraw_path ops.toList S [] ir ρ h hw H.kn H.len H.bln
  simp only [Array.length_toList, List.nil_append] at hK' hk' hl' hb'
  have hs' : ∀ i o, ops[i]? = some o → Stp P ops o (σ i) (σ (i + 1)) (F i) ρ' := fun i o ho => hs i o (by simpa using ho)
  have hop : ∀ i, i < ops.size → ∃ o, ops[i]? = some o := fun i hi => ⟨ops[i], by simp [hi]⟩
  split at hK'
  · rename_i hap
    have hfix : ∀ i, i ≤ ops.size → (σ i).fr.nt = S.fr.nt ∧ (σ i).nb = S.nb + i ∧ (σ i).stk = S.stk ∧ (σ i).dp = S.dp ∧ ∀ k, (σ i).nb ≤ k → (σ i).bl k = none := by
      intro i
      induction i with
      | zero => intro _; rw [h0]; exact ⟨rfl, rfl, rfl, rfl, H.bln⟩
      | succ i ih =>
        intro hi
        obtain ⟨i1, i2, i3, i4, i5⟩ := ih (by omega)
        obtain ⟨o, ho⟩ := hop i (by omega)
        have hn := (hs' i o ho).nx
        exact ⟨by rw [hn.nt, i1], by rw [hn.nb, i2]; omega, by rw [hn.stk, i3], by rw [hn.dp, i4], fun k hk => hn.bln k (by rw [hn.nb] at hk; exact hk)⟩
    obtain ⟨n1, n2, n3, n4, n5⟩ := hfix ops.size (Nat.le_refl _)
    have hrep : ∀ j, (Array.replicate ops.size false).getD j false = false := fun j => by
      by_cases hj : j < ops.size <;> simp [Array.getD_eq_getD_getElem?, hj]
    refine wp_region_any hm (run_draw (w0 := w0) (ok0 := ok0) (fs := fs) (stk := S.stk) (nt := S.fr.nt) (base := S.nb) (σ := σ) (F := F) (ρ := ρ') hs' (fun i hi => (hfix i hi).1) (fun i hi => (hfix i hi).2.1) (fun i hi => (hfix i hi).2.2.2.2) hback hap ?_
      ops.size (Array.replicate ops.size false) β S.fr.tm S.bl a _ (by simp) ?_ ?_ ?_ ?_ ?_ (fun j hj _ => H.βn _ (by omega)) (fun k hk => H.βn k (by omega)))
    · intro β' a' w' H' hβ'
      refine hK a' w' ⟨_, ρ', β', ir', As, hK', hw', ⟨[], by simp⟩, by rw [n4]; exact hA, n1, ?_, hk', hl', n5, fun k hk => hβ' k (by rw [n2] at hk; exact hk)⟩
      rw [n1, n3]; exact H'
    · refine Nat.le_trans (List.countP_le_length) (by simp)
    · intro j hj hl; rw [hrep] at hl; cases hl
    · exact (H.rm.env hE').grow ⟨rfl, rfl, rfl, Nat.le_refl _, fun _ _ => rfl⟩
    · have : (fun i => (σ i).fr.tm) 0 = S.fr.tm := by simp only [h0]
      rw [← this]
      exact Mem.start fun j hj hl => by rw [hrep] at hl; cases hl
    · have : (fun i => (σ i).bl) 0 = S.bl := by simp only [h0]
      rw [← this]
      exact Mem.start fun j hj hl => by rw [hrep] at hl; cases hl
  · cases hK'

theorem STEP.mono {o : Oper} {a : Act} {w : World} {K K' : Act → World → Prop} {Q : Exit → Act → World → Prop} (h : ∀ a w, K a w → K' a w) (hh : STEP P ops o a w K Q) : STEP P ops o a w K' Q := by
  unfold STEP at *
  split
  · rename_i hw; simp only [hw, if_true] at hh; exact hh.imp (Oper.wp_mono h) id
  · rename_i hw; simp only [hw] at hh; exact h _ _ hh

/-- As 'run_draw'; a last operation waits for all others, and is carried out by itself. -/
theorem run_drawL {w0 : World} {ok0 : Nat → Prop} {fs : List (Array Value)} {stk : List Frm} {nt base : Nat} {σ : Nat → St} {F : Nat → Foot} {ρ : List DV} {Qx : Exit → Act → World → Prop}
    {n : Nat} {oL : Oper} (hn : ops.size = n + 1) (hoL : ops[n]? = some oL) (hall : lastAll (ancs ops.toList []) n = true) (hs : ∀ i o, i < n → ops[i]? = some o → Stp P ops o (σ i) (σ (i + 1)) (F i) ρ) (hnt : ∀ i, i ≤ n → (σ i).fr.nt = nt) (hid : ∀ i, i ≤ n → (σ i).nb = base + i) (hbl0 : ∀ i, i ≤ n → ∀ k, (σ i).nb ≤ k → (σ i).bl k = none)
    (hback : backward ops.toList = true) (hap : apartAll (ancs ops.toList []) ((List.range n).map F) = true)
    (hQ : ∀ β a w, RM w0 ok0 fs stk ρ β nt (σ n).fr.tm (σ n).bl a w → (∀ k, base + n ≤ k → β k = none) → STEP P ops oL a w (fun a w => Qx .normal a w) Qx) :
    ∀ (fuel : Nat) (listed : Array Bool) (β : Bm) (tm : Nat → Option SV) (bl : Nat → Option Blk) (a : Act) (w : World), listed.size = ops.size → open_ ops.size listed ≤ fuel → listed.getD n false = false →
      (∀ j, j < n → listed.getD j false = true → ∀ o e, ops[j]? = some o → e ∈ o.after → Region.binds .any e = true → listed.getD e.on false = true) →
      RM w0 ok0 fs stk ρ β nt tm bl a w → Mem n (fun i => (σ i).fr.tm) (fun i => (F i).wt) (fun j => listed.getD j false = true) tm → Mem n (fun i => (σ i).bl) (fun i => (F i).wb) (fun j => listed.getD j false = true) bl →
      (∀ j, j < n → listed.getD j false = false → β (base + j) = none) → (∀ k, base + n ≤ k → β k = none) → wpAny P .any ops Qx fuel listed a w := by
  have hop : ∀ i, i < ops.size → ∃ o, ops[i]? = some o := fun i hi => ⟨ops[i], by simp [hi]⟩
  have hnn : n < ops.size := by omega
  have hD : ∀ i j, i < j → j < n → (F i).clash (F j) = true → ((ancs ops.toList []).getD j 0).testBit i = true := fun i j h1 h2 h3 => apartAll_spec hap h1 h2 h3
  have hWt : ∀ i, i < n → ∀ x, x ∉ (F i).wt → (σ (i + 1)).fr.tm x = (σ i).fr.tm x := fun i hi x hx => by
    obtain ⟨o, ho⟩ := hop i (by omega)
    exact (hs i o hi ho).ft x hx
  have hWb : ∀ i, i < n → ∀ x, x ∉ (F i).wb → (σ (i + 1)).bl x = (σ i).bl x := fun i hi x hx => by
    obtain ⟨o, ho⟩ := hop i (by omega)
    exact (hs i o hi ho).fb x hx
  have ct1 : ∀ i j x, i < j → j < n → x ∈ (F i).wt → x ∈ (F j).rt ∨ x ∈ (F j).wt → ((ancs ops.toList []).getD j 0).testBit i = true := fun i j x h1 h2 h3 h4 => hD i j h1 h2 (by
    simp only [Foot.clash, Bool.or_eq_true]
    rcases h4 with h4 | h4
    · exact .inl (.inl (.inl (.inl (.inl (meet_of h3 h4)))))
    · exact .inl (.inl (.inl (.inl (.inr (meet_of h3 h4))))))
  have ct2 : ∀ i j x, i < j → j < n → x ∈ (F j).wt → x ∈ (F i).rt ∨ x ∈ (F i).wt → ((ancs ops.toList []).getD j 0).testBit i = true := fun i j x h1 h2 h3 h4 => hD i j h1 h2 (by
    simp only [Foot.clash, Bool.or_eq_true]
    rcases h4 with h4 | h4
    · exact .inl (.inl (.inl (.inr (meet_of h3 h4))))
    · exact .inl (.inl (.inl (.inl (.inr (meet_of h4 h3))))))
  have cb1 : ∀ i j x, i < j → j < n → x ∈ (F i).wb → x ∈ (F j).rb ∨ x ∈ (F j).wb → ((ancs ops.toList []).getD j 0).testBit i = true := fun i j x h1 h2 h3 h4 => hD i j h1 h2 (by
    simp only [Foot.clash, Bool.or_eq_true]
    rcases h4 with h4 | h4
    · exact .inl (.inl (.inr (meet_of h3 h4)))
    · exact .inl (.inr (meet_of h3 h4)))
  have cb2 : ∀ i j x, i < j → j < n → x ∈ (F j).wb → x ∈ (F i).rb ∨ x ∈ (F i).wb → ((ancs ops.toList []).getD j 0).testBit i = true := fun i j x h1 h2 h3 h4 => hD i j h1 h2 (by
    simp only [Foot.clash, Bool.or_eq_true]
    rcases h4 with h4 | h4
    · exact .inr (meet_of h3 h4)
    · exact .inl (.inr (meet_of h4 h3)))
  -- what an operation waits for is listed, if its edges are
  have closed : ∀ (listed : Array Bool), (∀ j, j < n → listed.getD j false = true → ∀ o e, ops[j]? = some o → e ∈ o.after → Region.binds .any e = true → listed.getD e.on false = true) →
      ∀ j, j < ops.size → (∀ o e, ops[j]? = some o → e ∈ o.after → Region.binds .any e = true → listed.getD e.on false = true) → ∀ i, ((ancs ops.toList []).getD j 0).testBit i = true → listed.getD i false = true := by
    intro listed hcl j
    induction j using Nat.strongRecOn with
    | _ j ih =>
      intro hj hr i hi
      obtain ⟨o, ho⟩ := hop j hj
      obtain ⟨e, he, hb, h1⟩ := (ancs_spec ops.toList []).2 j o (by simpa using ho) i (by simpa using hi)
      have hle := hr o e ho he hb
      rcases h1 with rfl | h1
      · exact hle
      · have hlt := backward_spec hback (by simpa using ho) he hb
        exact ih e.on hlt (by omega) (hcl e.on (by omega) hle) i h1
  have allDone : ∀ (listed : Array Bool), listed.size = ops.size → Region.ready .any ops listed = [] → ∀ i, i < ops.size → listed.getD i false = true := by
    intro listed hsz hr i
    induction i using Nat.strongRecOn with
    | _ i ih =>
      intro hi
      cases hb : listed.getD i false with
      | true => rfl
      | false =>
        exfalso
        obtain ⟨o, ho⟩ := hop i hi
        have hb2 : listed.getD i true = false := by
          have hlt : i < listed.size := by omega
          simp only [Array.getD_eq_getD_getElem?, Array.getElem?_eq_getElem hlt, Option.getD_some] at hb ⊢
          exact hb
        have : i ∈ Region.ready .any ops listed := mem_ready.2 ⟨hb2, o, ho, fun e he hbe => ih e.on (backward_spec hback (by simpa using ho) he hbe) (by have := backward_spec hback (ops := ops.toList) (i := i) (o := o) (by simpa using ho) he hbe; omega)⟩
        rw [hr] at this; cases this
  -- all is listed
  have phB : ∀ (fuel : Nat) (listed : Array Bool) (a : Act) (w : World), listed.size = ops.size → (∀ i, i < ops.size → listed.getD i false = true) → Qx .normal a w → wpAny P .any ops Qx fuel listed a w := by
    intro fuel listed a w hsz hall hq
    have hnone : Region.ready .any ops listed = [] := by
      cases hr : Region.ready .any ops listed with
      | nil => rfl
      | cons i r =>
        exfalso
        have hi : i ∈ Region.ready .any ops listed := by rw [hr]; simp
        obtain ⟨h1, o, ho2, _⟩ := mem_ready.1 hi
        have hlt : i < ops.size := (Array.getElem?_eq_some_iff.1 ho2).1
        have h2 := hall i hlt
        have hlt2 : i < listed.size := by omega
        simp only [Array.getD_eq_getD_getElem?, Array.getElem?_eq_getElem hlt2, Option.getD_some] at h1 h2
        rw [h1] at h2; cases h2
    cases fuel with
    | zero => exact ⟨hnone, hq⟩
    | succ fuel => exact ⟨fun _ => hq, fun i hi => by rw [hnone] at hi; cases hi⟩
  intro fuel
  induction fuel with
  | zero =>
    intro listed β tm bl a w hsz ho hLn hcl H Mt Mb hβ1 hβ2
    exfalso
    have h0 : open_ ops.size listed = 0 := by omega
    have h3 := List.countP_eq_zero.1 h0 n (by simp [hnn])
    have hlt2 : n < listed.size := by omega
    simp only [Array.getD_eq_getD_getElem?, Array.getElem?_eq_getElem hlt2, Option.getD_some] at hLn h3
    simp [hLn] at h3
  | succ fuel ih =>
    intro listed β tm bl a w hsz ho hLn hcl H Mt Mb hβ1 hβ2
    refine ⟨fun hr => absurd (allDone listed hsz hr n hnn) (by rw [hLn]; decide), fun i hi => ?_⟩
    obtain ⟨h1, o, ho2, hedge⟩ := mem_ready.1 hi
    have hlt : i < ops.size := (Array.getElem?_eq_some_iff.1 ho2).1
    have hL : listed.getD i false = false := by
      have hlt2 : i < listed.size := by omega
      simp only [Array.getD_eq_getD_getElem?, Array.getElem?_eq_getElem hlt2, Option.getD_some] at h1 ⊢
      exact h1
    have hnL : ¬ listed.getD i false = true := by rw [hL]; simp
    have hr : ∀ o' e, ops[i]? = some o' → e ∈ o'.after → Region.binds .any e = true → listed.getD e.on false = true := fun o' e h2 h3 h4 => by
      rw [ho2] at h2; cases h2; exact hedge e h3 h4
    have hri := closed listed hcl i hlt hr
    have hcl2 : ∀ j, j < n → listed.getD j false = true → ∀ i', ((ancs ops.toList []).getD j 0).testBit i' = true → listed.getD i' false = true := fun j hj hLj => closed listed hcl j (by omega) (hcl j hj hLj)
    by_cases hin : i = n
    · subst hin
      have hall2 : ∀ j, j < i → listed.getD j false = true := fun j hj => hri j (by
        have h5 := List.all_eq_true.1 hall j (by simp [hj]); exact h5)
      have e1 : tm = (σ i).fr.tm := Mt.done hWt hall2
      have e2 : bl = (σ i).bl := Mb.done hWb hall2
      rw [e1, e2] at H
      have hst := hQ β a w H hβ2
      unfold wpOp
      simp only [hoL]
      refine STEP.mono (fun a w hq => phB fuel _ a w (by simp [hsz]) (fun j hj => ?_) hq) hst
      by_cases he : j = i
      · subst he
        have hlt2 : j < listed.size := by omega
        simp [Array.getD_eq_getD_getElem?, hlt2]
      · rw [getD_set_ne false (Ne.symm he)]; exact hall2 j (by omega)
    have hltn : i < n := by omega
    have lookT : ∀ x, x ∈ (F i).rt ∨ x ∈ (F i).wt → tm x = (σ i).fr.tm x := fun x hx =>
      Mt.look (R := fun i => (F i).rt) (D := fun i j => ((ancs ops.toList []).getD j 0).testBit i = true) hWt ct1 ct2 hcl2 hltn hnL hri hx
    have lookB : ∀ x, x ∈ (F i).rb ∨ x ∈ (F i).wb → bl x = (σ i).bl x := fun x hx =>
      Mb.look (R := fun i => (F i).rb) (D := fun i j => ((ancs ops.toList []).getD j 0).testBit i = true) hWb cb1 cb2 hcl2 hltn hnL hri hx
    have hst := hs i o hltn ho2
    have hnb := hid i (by omega)
    have hset : ∀ j, (listed.setIfInBounds i true).getD j false = true ↔ (listed.getD j false = true ∨ j = i) := fun j => by
      by_cases he : j = i
      · subst he
        have hlt2 : j < listed.size := by omega
        simp [hlt2]
      · rw [getD_set_ne false (Ne.symm he)]; simp [he]
    have hstep : STEP P ops o a w (wpAny P .any ops Qx fuel (listed.setIfInBounds i true)) Qx := by
      refine hst.ok ρ (Ext.refl _) w0 ok0 fs stk β tm bl a w (by rw [hnt i (by omega)]; exact H) (fun t ht => lookT t (.inl ht)) (fun k hk => lookB k (.inl hk)) (by rw [hnb]; exact hβ1 i hltn hL) ?_ _ Qx fun a' β' w' H' hβ3 hβ4 => ?_
      · rw [lookB _ (.inr hst.me)]; exact hbl0 i (by omega) _ (Nat.le_refl _)
      rw [hnt i (by omega)] at H'
      refine ih (listed.setIfInBounds i true) β' _ _ a' w' (by simp [hsz]) ?_ (by rw [getD_set_ne false hin]; exact hLn) ?_ H' (Mt.put (R := fun i => (F i).rt) (D := fun i j => ((ancs ops.toList []).getD j 0).testBit i = true) ct2 hcl2 hltn hnL hset)
        (Mb.put (R := fun i => (F i).rb) (D := fun i j => ((ancs ops.toList []).getD j 0).testBit i = true) cb2 hcl2 hltn hnL hset) (fun j hj hLj => ?_) (fun k hk => ?_)
      · have : open_ ops.size (listed.setIfInBounds i true) < open_ ops.size listed := by
          refine countP_lt (fun j hj hp => ?_) ⟨i, by simp [hlt], by simp [h1], ?_⟩
          · by_cases he : j = i
            · rw [he]; simp [h1]
            · rw [getD_set_ne true (Ne.symm he)] at hp; exact hp
          · have hlt2 : i < listed.size := by omega
            simp [hlt2]
        omega
      · intro j hj hLj o' e h2 h3 h4
        rcases (hset j).1 hLj with h5 | h5
        · exact (hset _).2 (.inl (hcl j hj h5 o' e h2 h3 h4))
        · rw [h5] at h2; exact (hset _).2 (.inl (hr o' e h2 h3 h4))
      · have hne : j ≠ i := fun he => by
          have := (hset j).2 (.inr he)
          rw [hLj] at this; cases this
        rw [hβ4 _ (by rw [hnb]; omega)]
        refine hβ1 j hj ?_
        cases hb : listed.getD j false with
        | false => rfl
        | true => have := (hset j).2 (.inl hb); rw [hLj] at this; cases this
      · rw [hβ4 _ (by rw [hnb]; omega)]; exact hβ2 k hk
    unfold wpOp
    simp only [ho2]
    exact hstep

/-- A region that draws its order, with a call at its end that is walked into. -/
theorem region_drawL {id : Nat} {S : St} {ρ : List DV} {ir : IR} {w0 : World} {ok0 : Nat → Prop} {fs : List (Array Value)} {β : Bm} {a : Act} {w : World} (hm : P.follows .mixedOrders = true) {K : St → Option IR} {Qx : Exit → Act → World → Prop} {inl : Inl} (hinl : InlOK P Q w0 ok0 inl) {oL : Oper}
    (hback : backward ops.toList = true) (hoL : ops.toList.getLast? = some oL)
    (h : symDraw P ops ops.toList.dropLast S [] (fun fs S => if apartAll (ancs ops.toList []) fs && lastAll (ancs ops.toList []) (ops.size - 1) then symStep P inl ops oL S (fun _ S => K S) else none) = some ir) (hw : IRwp P As ρ ir Q) (hA : As.length = S.dp) (H : AtS w0 ok0 fs S ρ β a w)
    (hK : ∀ a w, Cont P Q w0 ok0 fs S.fr.nt As K a w → Qx .normal a w) : (Code.region id ops true).wp P Qx a w := by
  obtain ⟨σ, F, ρ', ir', h0, hs, hK', hw', hk', hl', hE', hb'⟩ := symDraw_path ops.toList.dropLast S [] ir ρ h hw H.kn H.len H.bln
  have hne : ops.toList ≠ [] := fun h => by rw [h] at hoL; cases hoL
  have hpos : 0 < ops.size := by have := List.length_pos_iff.2 hne; simpa using this
  obtain ⟨n, hn⟩ : ∃ n, ops.size = n + 1 := ⟨ops.size - 1, by omega⟩
  have hld : ops.toList.dropLast.length = n := by simp [hn]
  rw [hld] at hK' hk' hl' hb'
  simp only [List.nil_append] at hK'
  have hoL' : ops[n]? = some oL := by
    rw [List.getLast?_eq_getElem?] at hoL
    simpa [hn] using hoL
  have hs' : ∀ i o, i < n → ops[i]? = some o → Stp P ops o (σ i) (σ (i + 1)) (F i) ρ' := fun i o hi ho => hs i o (by
    rw [List.getElem?_dropLast]; simp [hn]; exact ⟨hi, by simpa using ho⟩)
  have hop : ∀ i, i < ops.size → ∃ o, ops[i]? = some o := fun i hi => ⟨ops[i], by simp [hi]⟩
  split at hK'
  · rename_i hap
    simp only [Bool.and_eq_true, hn, Nat.add_sub_cancel] at hap
    have hfix : ∀ i, i ≤ n → (σ i).fr.nt = S.fr.nt ∧ (σ i).nb = S.nb + i ∧ (σ i).stk = S.stk ∧ (σ i).dp = S.dp ∧ ∀ k, (σ i).nb ≤ k → (σ i).bl k = none := by
      intro i
      induction i with
      | zero => intro _; rw [h0]; exact ⟨rfl, rfl, rfl, rfl, H.bln⟩
      | succ i ih =>
        intro hi
        obtain ⟨i1, i2, i3, i4, i5⟩ := ih (by omega)
        obtain ⟨o, ho⟩ := hop i (by omega)
        have hn := (hs' i o (by omega) ho).nx
        exact ⟨by rw [hn.nt, i1], by rw [hn.nb, i2]; omega, by rw [hn.stk, i3], by rw [hn.dp, i4], fun k hk => hn.bln k (by rw [hn.nb] at hk; exact hk)⟩
    obtain ⟨n1, n2, n3, n4, n5⟩ := hfix n (Nat.le_refl _)
    have hrep : ∀ j, (Array.replicate ops.size false).getD j false = false := fun j => by
      by_cases hj : j < ops.size <;> simp [Array.getD_eq_getD_getElem?, hj]
    refine wp_region_any hm (run_drawL (w0 := w0) (ok0 := ok0) (fs := fs) (stk := S.stk) (nt := S.fr.nt) (base := S.nb) (σ := σ) (F := F) (ρ := ρ') hn hoL' hap.2 hs' (fun i hi => (hfix i hi).1) (fun i hi => (hfix i hi).2.1) (fun i hi => (hfix i hi).2.2.2.2) hback hap.1 ?_
      ops.size (Array.replicate ops.size false) β S.fr.tm S.bl a _ (by simp) ?_ (hrep _) ?_ ?_ ?_ ?_ (fun j hj _ => H.βn _ (by omega)) (fun k hk => H.βn k (by omega)))
    · intro β' a' w' H' hβ'
      have HA : AtS w0 ok0 fs (σ n) ρ' β' a' w' := ⟨by rw [n1, n3]; exact H', hk', hl', n5, fun k hk => hβ' k (by rw [n2] at hk; exact hk)⟩
      refine step_text hinl hK' hw' (by rw [n4]; exact hA) HA fun ran a w hc => ?_
      rw [n1] at hc
      exact hK a w hc
    · refine Nat.le_trans (List.countP_le_length) (by simp)
    · intro j hj hl; rw [hrep] at hl; cases hl
    · exact (H.rm.env hE').grow ⟨rfl, rfl, rfl, Nat.le_refl _, fun _ _ => rfl⟩
    · have : (fun i => (σ i).fr.tm) 0 = S.fr.tm := by simp only [h0]
      rw [← this]
      exact Mem.start fun j hj hl => by rw [hrep] at hl; cases hl
    · have : (fun i => (σ i).bl) 0 = S.bl := by simp only [h0]
      rw [← this]
      exact Mem.start fun j hj hl => by rw [hrep] at hl; cases hl
  · cases hK'

end
end Go.Px

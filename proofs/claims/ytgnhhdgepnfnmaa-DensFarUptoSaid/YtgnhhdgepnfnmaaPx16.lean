/- Px16: regions in the order of their text. -/
import Derived.Test.YtgnhhdgepnfnmaaPx15
set_option linter.unusedSimpArgs false
set_option linter.unusedVariables false
namespace Go.Px
open Go.RowKit

/-- The machine is where S is. -/
structure AtS (w0 : World) (ok0 : Nat → Prop) (fs : List (Array Value)) (S : St) (ρ : List DV) (β : Bm) (a : Act) (w : World) : Prop where
  rm : RM w0 ok0 fs S.stk ρ β S.fr.nt S.fr.tm S.bl a w
  kn : KnOK S.kn ρ
  len : ρ.length = S.nv
  bln : ∀ k, S.nb ≤ k → S.bl k = none
  βn : ∀ k, S.nb ≤ k → β k = none

/-- From here the tree's rest tells what happens. -/
def Cont (P : Program) (Q : List AV → Prop) (w0 : World) (ok0 : Nat → Prop) (fs : List (Array Value)) (nt : Nat) (As : List (List DV → Prop)) (K : St → Option IR) (a : Act) (w : World) : Prop :=
  ∃ S' ρ' β' ir' As', K S' = some ir' ∧ IRwp P As' ρ' ir' Q ∧ (∃ l, As' = As ++ l) ∧ As'.length = S'.dp ∧ S'.fr.nt = nt ∧ AtS w0 ok0 fs S' ρ' β' a w

section
variable {P : Program} {ops : Array Oper} {o : Oper} {S : St} {As : List (List DV → Prop)} {ρ : List DV} {Q : List AV → Prop} {ir : IR}
variable {w0 : World} {ok0 : Nat → Prop} {fs : List (Array Value)} {β : Bm} {a : Act} {w : World}

/-- A call that is walked into (or a comparison with nil) is told rightly. -/
def InlOK (P : Program) (Q : List AV → Prop) (w0 : World) (ok0 : Nat → Prop) (inl : Inl) : Prop :=
  ∀ (o : Oper) (S : St) (h : (Option SV → St → Option IR) → Option IR), inl o S = some h → ∀ (fs : List (Array Value)) (K : Option SV → St → Option IR) (ir : IR) (As : List (List DV → Prop)) (ρ : List DV) (β : Bm) (a : Act) (w : World), h K = some ir →
    IRwp P As ρ ir Q → As.length = S.dp → AtS w0 ok0 fs S ρ β a w → ∀ Qx, o.wp P a w (fun a' w' => ∃ v sv S' ρ' β' ir' As', a' = a.put o.dst v ∧ K sv S' = some ir' ∧ IRwp P As' ρ' ir' Q ∧ (∃ l, As' = As ++ l) ∧ As'.length = S'.dp ∧
      AtS w0 ok0 fs S' ρ' β' a w' ∧ S'.fr.nt = S.fr.nt ∧ ∀ s, sv = some s → SVRep ρ' β' (okS w0 ok0 S'.bl β') w' s v) Qx

theorem patch_all {α : Type} {b b' : Nat → Option α} {ks : List Nat} (h : ∀ k, k ∉ ks → b' k = b k) : patch b b' ks = b' := by
  funext k; unfold patch; split
  · rfl
  · rename_i hk; exact (h k hk).symm

/-- A step in its place. -/
theorem step_text {inl : Inl} (hinl : InlOK P Q w0 ok0 inl) {K : Bool → St → Option IR} (h : symStep P inl ops o S K = some ir) (hw : IRwp P As ρ ir Q) (hA : As.length = S.dp) (H : AtS w0 ok0 fs S ρ β a w)
    {Kx : Act → World → Prop} {Qx : Exit → Act → World → Prop} (hK : ∀ ran a w, Cont P Q w0 ok0 fs S.fr.nt As (K ran) a w → Kx a w) : STEP P ops o a w Kx Qx := by
  obtain ⟨kn, ir1, hkn, hw1, ⟨hg, h1⟩ | ⟨hg, h1⟩⟩ := symStep_cases h H.kn hw H.len
  · unfold goE at h1
    split at h1
    · rename_i hd
      have H1 : AtS w0 ok0 fs { S with kn := kn } ρ β a w := ⟨H.rm, hkn, H.len, H.bln, H.βn⟩
      split at h1
      · rename_i hh hi
        have hwp := hinl o _ hh hi fs _ ir1 As ρ β a w h1 hw1 hA H1 Qx
        unfold STEP
        rw [hg ρ (Ext.refl _) w0 ok0 fs S.stk β S.fr.nt S.fr.tm S.bl a w H.rm (fun _ _ => rfl)]
        simp only [if_true]
        refine .inl (Oper.wp_mono (fun a' w' hh => ?_) hwp)
        obtain ⟨v, sv, S', ρ', β', ir', As', rfl, hk2, hw2, hpre, hlen2, H2, hnt, hsv⟩ := hh
        obtain ⟨e1, e2, e3, e4, e5, e6, e7, e8⟩ := setT_fr { S' with nb := S'.nb + 1 } o.dst sv
        obtain ⟨g1, g2⟩ := setT_tm { S' with nb := S'.nb + 1 } o.dst sv
        refine hK true _ _ ⟨_, ρ', β', ir', As', hk2, hw2, hpre, by rw [e5]; exact hlen2, by rw [e2]; exact hnt, ?_, by rw [e8]; exact H2.kn, by rw [e7]; exact H2.len, fun k hk => ?_, fun k hk => ?_⟩
        · have := H2.rm.put (dst := o.dst) (v := v) (tm' := (({ S' with nb := S'.nb + 1 } : St).setT o.dst sv).fr.tm) (fun d hd' => by
            simp only [dstOk, hd', Bool.and_eq_true, decide_eq_true_eq] at hd; rw [hnt]; exact hd.1) (fun d s hd' hs => by
            rw [g2 d hd'] at hs; exact hsv s hs)
          rw [patch_all (b' := (({ S' with nb := S'.nb + 1 } : St).setT o.dst sv).fr.tm) g1] at this
          rw [e1, e2, e6]
          exact this
        · rw [e6]; rw [e4] at hk; exact H2.bln k (Nat.le_of_succ_le hk)
        · rw [e4] at hk; exact H2.βn k (Nat.le_of_succ_le hk)
      · rename_i hi
        obtain ⟨ran, ρ', S', ir', hE, hl', hk2, hw2, hkn2, hN, ht, hb, hOK⟩ := step_go (S := { S with kn := kn }) hd h1 hkn hw1 H.len H.bln hg
        refine hOK ρ' (Ext.refl _) w0 ok0 fs S.stk β S.fr.tm S.bl a w (H.rm.env hE) (fun _ _ => rfl) (fun _ _ => rfl) (H.βn _ (Nat.le_refl _)) (H.bln _ (Nat.le_refl _)) Kx Qx fun a' β' w' H' hβ1 hβ2 => ?_
        refine hK ran _ _ ⟨S', ρ', β', ir', As, hk2, hw2, ⟨[], by simp⟩, by rw [hN.dp]; exact hA, hN.nt, ?_, hkn2, hl', fun k hk => hN.bln k (by rw [hN.nb] at hk; exact hk), fun k hk => ?_⟩
        · rw [patch_all ht, patch_all hb] at H'
          rw [hN.stk, hN.nt]; exact H'
        · have := hN.nb
          simp only at this
          rw [this] at hk
          rw [hβ2 k (fun he => by simp only at he; omega)]
          exact H.βn k (by omega)
    · cases h1
  · unfold skipE at h1
    split at h1
    · rename_i hd
      obtain ⟨ran, ρ', S', ir', hE, hl', hk2, hw2, hkn2, hN, ht, hb, hOK⟩ := step_skip (S := { S with kn := kn }) (ops := ops) hd h1 hkn hw1 H.len H.bln hg
      refine hOK ρ' (Ext.refl _) w0 ok0 fs S.stk β S.fr.tm S.bl a w (H.rm.env hE) (fun _ _ => rfl) (fun _ _ => rfl) (H.βn _ (Nat.le_refl _)) (H.bln _ (Nat.le_refl _)) Kx Qx fun a' β' w' H' hβ1 hβ2 => ?_
      refine hK ran _ _ ⟨S', ρ', β', ir', As, hk2, hw2, ⟨[], by simp⟩, by rw [hN.dp]; exact hA, hN.nt, ?_, hkn2, hl', fun k hk => hN.bln k (by rw [hN.nb] at hk; exact hk), fun k hk => ?_⟩
      · rw [patch_all ht, patch_all hb] at H'
        rw [hN.stk, hN.nt]; exact H'
      · have := hN.nb
        simp only at this
        rw [this] at hk
        rw [hβ2 k (fun he => by simp only at he; omega)]
        exact H.βn k (by omega)
    · cases h1

theorem prefix_trans {α : Type} {a b c : List α} (h : ∃ l, b = a ++ l) (k : ∃ l, c = b ++ l) : ∃ l, c = a ++ l := by
  obtain ⟨l, rfl⟩ := h
  obtain ⟨m, rfl⟩ := k
  exact ⟨l ++ m, by simp⟩

theorem Cont.mono {K : St → Option IR} {nt : Nat} {As' : List (List DV → Prop)} (hp : ∃ l, As' = As ++ l) (h : Cont P Q w0 ok0 fs nt As' K a w) : Cont P Q w0 ok0 fs nt As K a w := by
  obtain ⟨S', ρ', β', ir', As2, h1, h2, h3, h4, h5⟩ := h
  exact ⟨S', ρ', β', ir', As2, h1, h2, prefix_trans hp h3, h4, h5⟩

/-- A region in the order of its text. -/
theorem ops_text {inl : Inl} (hinl : InlOK P Q w0 ok0 inl) {nt : Nat} {K : St → Option IR} {Qx : Exit → Act → World → Prop} (hK : ∀ a w, Cont P Q w0 ok0 fs nt As K a w → Qx .normal a w) :
    ∀ (l : List Oper) (S : St) (ir : IR) (As' : List (List DV → Prop)) (ρ : List DV) (β : Bm) (a : Act) (w : World), symOps P inl ops l S K = some ir → IRwp P As' ρ ir Q → (∃ l, As' = As ++ l) → As'.length = S.dp → S.fr.nt = nt → AtS w0 ok0 fs S ρ β a w → wpList P ops Qx l a w
  | [], S, ir, As', ρ, β, a, w, h, hw, hp, hA, hn, H => hK a w ⟨S, ρ, β, ir, As', h, hw, hp, hA, hn, H⟩
  | o :: r, S, ir, As', ρ, β, a, w, h, hw, hp, hA, hn, H => by
    unfold wpList
    refine step_text (K := fun _ S => symOps P inl ops r S K) hinl h hw hA H (Kx := wpList P ops Qx r) fun ran a w hc => ?_
    obtain ⟨S', ρ', β', ir', As2, h1, h2, h3, h4, h5, h6⟩ := hc
    exact ops_text hinl hK r S' ir' As2 ρ' β' a w h1 h2 (prefix_trans hp h3) h4 (h5.trans hn) h6

theorem region_text {id : Nat} {inl : Inl} (hinl : InlOK P Q w0 ok0 inl) {K : St → Option IR} {Qx : Exit → Act → World → Prop} (hK : ∀ a w, Cont P Q w0 ok0 fs S.fr.nt As K a w → Qx .normal a w)
    (h : symOps P inl ops ops.toList S K = some ir) (hw : IRwp P As ρ ir Q) (hA : As.length = S.dp) (H : AtS w0 ok0 fs S ρ β a w) : (Code.region id ops false).wp P Qx a w :=
  wp_region_list (ops_text hinl hK ops.toList S ir As ρ β a w h hw ⟨[], by simp⟩ hA rfl H)

end
end Go.Px

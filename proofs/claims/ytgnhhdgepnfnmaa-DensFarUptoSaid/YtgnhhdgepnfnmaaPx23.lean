/- Px23: code: every way. -/
import Derived.Test.YtgnhhdgepnfnmaaPx22
set_option linter.unusedSimpArgs false
set_option linter.unusedVariables false
namespace Go.Px
open Go.RowKit

section
variable {P : Program} {H : Hints} {Q : List AV → Prop} {w0 : World} {ok0 : Nat → Prop}

theorem PostK.mono {fs : List (Array Value)} {nt : Nat} {As As' : List (List DV → Prop)} {K : Ex → St → Option IR} {e : Exit} {a : Act} {w : World} (hp : ∃ l, As' = As ++ l) (h : PostK P Q w0 ok0 fs nt As' K e a w) : PostK P Q w0 ok0 fs nt As K e a w :=
  let ⟨ex, h1, h2⟩ := h; ⟨ex, h1, h2.mono hp⟩

theorem firstFit_some {S : St} : ∀ {l : List Tmpl} {T : Tmpl} {v : List A}, firstFit S l = some (T, v) → T.fit S = some v ∧ T.closed = true
  | [], T, v, h => by cases h
  | T' :: r, T, v, h => by
    simp only [firstFit] at h
    split at h
    · rename_i l hl
      split at h
      · rename_i hc; cases h; exact ⟨hl, hc⟩
      · exact firstFit_some h
    · exact firstFit_some h

/-- Where both ways are told: the truth says which one. -/
theorem ev_bool {S : St} {ρ : List DV} {i : Nat} {b : Bool} (hl : ρ.length = S.nv) (hi : i < S.nv) (hb : (A.var i).ev ρ = .bool b) (hk : KnOK S.kn ρ) : (A.var i).rd ρ = some (.bool b) ∧ KnOK ((i, b) :: S.kn) ρ := by
  have hlt : i < ρ.length := by omega
  have hrd : (A.var i).rd ρ = some (.bool b) := by
    simp only [A.ev, List.getD_eq_getElem?_getD, List.getElem?_eq_getElem hlt, Option.getD_some] at hb
    simp [A.rd, List.getElem?_eq_getElem hlt, hb]
  refine ⟨hrd, fun j c hj => ?_⟩
  rcases List.mem_cons.1 hj with he | hj
  · cases he; exact hrd
  · exact hk j c hj

theorem symCode_ok (hm : P.follows .mixedOrders = true) : ∀ n, GoOK P Q w0 ok0 (symCode P H n)
  | 0 => fun c S K ir fs As ρ β a w h => by simp only [symCode] at h; cases h
  | n + 1 => by
    have ih := symCode_ok hm n
    intro c S K ir fs As ρ β a w h hw hA HS
    have now : ∀ (ex : Ex), K ex S = some ir → Cont P Q w0 ok0 fs S.fr.nt As (K ex) a w := fun ex hK => ⟨S, ρ, β, ir, As, hK, hw, ⟨[], by simp⟩, hA, rfl, HS⟩
    cases c with
    | skip => simp only [symCode] at h; exact wp_skip ⟨.nor, trivial, now _ h⟩
    | label l => simp only [symCode] at h; exact wp_label ⟨.nor, trivial, now _ h⟩
    | exit id => simp only [symCode] at h; exact wp_exit ⟨.exit id, rfl, now _ h⟩
    | ret => simp only [symCode] at h; exact wp_ret ⟨.ret, trivial, now _ h⟩
    | region id ops draw =>
      simp only [symCode] at h
      split at h
      · rename_i hd
        subst hd
        split at h
        · rename_i hback
          split at h
          · rename_i o ho
            have ho' : ops.toList.getLast? = some o := by
              unfold lastInl at ho
              split at ho
              · rename_i o' h1
                split at ho
                · split at ho
                  · cases ho; exact h1
                  · cases ho
                · cases ho
              · cases ho
            exact region_drawL hm (inlH_ok ih) hback ho' h hw hA HS fun a w hc => ⟨.nor, trivial, hc⟩
          · exact region_draw hm hback h hw hA HS fun a w hc => ⟨.nor, trivial, hc⟩
        · cases h
      · rename_i hd
        have hd' : draw = false := by simpa using hd
        subst hd'
        exact region_text (inlH_ok ih) (fun a w hc => ⟨.nor, trivial, hc⟩) h hw hA HS
    | seq x y =>
      simp only [symCode] at h
      have hst : S.stk.map (·.nt) = fs.map (·.size) := stk_nts (w0 := w0) HS.rm.hst
      split at h
      · rename_i T Ts _
        split at h
        · rename_i p q hin hout _
          cases h
          obtain ⟨J, hwp, hwq⟩ := hw
          have hx := (ih x { S with dp := S.dp + 1 } _ p fs (As ++ [J]) ρ β a w hin hwp (by simp [hA]) ⟨HS.rm, HS.kn, HS.len, HS.bln, HS.βn⟩).wp
          refine wp_seq (wp_mono hx fun e a' w' hpost => ?_)
          obtain ⟨ex, hex, S', ρ', β', ir', As', hK, hw', ⟨l', hl'⟩, hlen, hnt, H'⟩ := hpost
          cases ex with
          | nor =>
            cases e <;> simp only [ExM] at hex
            simp only at hK
            split at hK
            · rename_i hcl
              simp only [Option.bind_eq_some_iff] at hK
              obtain ⟨l, hfit, hj⟩ := hK
              split at hj
              · rename_i hlt
                cases hj
                obtain ⟨X, hX, hXl⟩ := hw'
                have : As'[S.dp]? = some J := by
                  rw [hl', List.append_assoc, List.getElem?_append_right (by omega), hA]; simp
                rw [this] at hX; cases hX
                obtain ⟨β2, H2⟩ := fit_sound (S0 := S) (dp := S.dp) hfit hcl hlt H' hnt.symm hst
                exact (ih y (T.st S S.dp) K q fs As _ β2 a' w' hout (hwq _ hXl) hA H2).wp
              · cases hj
            · cases hK
          | exit id =>
            cases e <;> simp only [ExM] at hex
            subst hex
            exact ⟨.exit id, rfl, S', ρ', β', ir', As', hK, hw', ⟨[J] ++ l', by rw [hl', List.append_assoc]⟩, hlen, hnt, H'⟩
          | ret =>
            cases e <;> simp only [ExM] at hex
            exact ⟨.ret, trivial, S', ρ', β', ir', As', hK, hw', ⟨[J] ++ l', by rw [hl', List.append_assoc]⟩, hlen, hnt, H'⟩
        · cases h
      · have hx := (ih x S _ ir fs As ρ β a w h hw hA HS).wp
        refine wp_seq (wp_mono hx fun e a' w' hpost => ?_)
        obtain ⟨ex, hex, S', ρ', β', ir', As', hK, hw', hpre, hlen, hnt, H'⟩ := hpost
        cases ex with
        | nor =>
          cases e <;> simp only [ExM] at hex
          refine wp_mono (ih y S' K ir' fs As' ρ' β' a' w' hK hw' hlen H').wp fun e a w hp => ?_
          rw [hnt] at hp
          exact hp.mono hpre
        | exit id =>
          cases e <;> simp only [ExM] at hex
          subst hex
          exact ⟨.exit id, rfl, S', ρ', β', ir', As', hK, hw', hpre, hlen, hnt, H'⟩
        | ret =>
          cases e <;> simp only [ExM] at hex
          exact ⟨.ret, trivial, S', ρ', β', ir', As', hK, hw', hpre, hlen, hnt, H'⟩
    | cond c x y =>
      simp only [symCode] at h
      split at h
      · rename_i z hz
        obtain ⟨d, hd, hr⟩ := HS.rm.one (x := c) (by rw [← St.ev_eq]; exact hz)
        split at h
        · rename_i t ht
          have hd2 := tru_rd HS.kn ht
          rw [hd2] at hd; cases hd
          refine wp_cond (reads_bool hr) ?_
          cases t with
          | true => exact (ih x S K ir fs As ρ β a w h hw hA HS).wp
          | false => exact (ih y S K ir fs As ρ β a w (by simpa using h) hw hA HS).wp
        · split at h
          · rename_i i _
            split at h
            · rename_i p q hp hq
              split at h
              · rename_i hi
                cases h
                obtain ⟨b, hb, hb1, hb2⟩ := hw
                obtain ⟨hrd, hkn⟩ := ev_bool HS.len hi hb HS.kn
                rw [hrd] at hd; cases hd
                refine wp_cond (reads_bool hr) ?_
                cases b with
                | true => exact (ih x { S with kn := (i, true) :: S.kn } K p fs As ρ β a w hp (hb1 rfl) hA ⟨HS.rm, hkn, HS.len, HS.bln, HS.βn⟩).wp
                | false => exact (ih y { S with kn := (i, false) :: S.kn } K q fs As ρ β a w hq (hb2 rfl) hA ⟨HS.rm, hkn, HS.len, HS.bln, HS.βn⟩).wp
              · cases h
            · cases h
          · cases h
      · cases h
    | block id b =>
      simp only [symCode] at h
      have hx := (ih b S _ ir fs As ρ β a w h hw hA HS).wp
      refine wp_block (wp_mono hx fun e a' w' hpost => ?_)
      obtain ⟨ex, hex, S', ρ', β', ir', As', hK, hw', hpre, hlen, hnt, H'⟩ := hpost
      cases ex with
      | nor =>
        cases e <;> simp only [ExM] at hex
        exact ⟨.nor, trivial, S', ρ', β', ir', As', hK, hw', hpre, hlen, hnt, H'⟩
      | exit j =>
        cases e <;> simp only [ExM] at hex
        subst hex
        simp only [Exit.inBlock]
        simp only at hK
        split at hK
        · rename_i hj
          rw [if_pos hj]
          exact ⟨.nor, trivial, S', ρ', β', ir', As', hK, hw', hpre, hlen, hnt, H'⟩
        · rename_i hj
          rw [if_neg hj]
          exact ⟨.exit j, rfl, S', ρ', β', ir', As', hK, hw', hpre, hlen, hnt, H'⟩
      | ret =>
        cases e <;> simp only [ExM] at hex
        exact ⟨.ret, trivial, S', ρ', β', ir', As', hK, hw', hpre, hlen, hnt, H'⟩
    | loop b =>
      simp only [symCode] at h
      have hst : S.stk.map (·.nt) = fs.map (·.size) := stk_nts (w0 := w0) HS.rm.hst
      show LoopAt P b _ a w
      split at h
      · rename_i T0 Ts _
        split at h
        · rename_i T l hff
          obtain ⟨hfit, hcl⟩ := firstFit_some hff
          split at h
          · cases h
          · rename_i hlt
            have hlt' : l.all (A.lt S.nv) = true := by simpa using hlt
            simp only [Option.map_eq_some_iff] at h
            obtain ⟨body, hbody, rfl⟩ := h
            obtain ⟨I, μ, hI0, hIl, hround⟩ := hw
            obtain ⟨β1, H1⟩ := fit_sound (S0 := S) (dp := S.dp + 1) hfit hcl hlt' HS rfl hst
            refine LoopAt.rel (fun m a w => ∃ ds β, I ds ∧ μ ds = m ∧ AtS w0 ok0 fs (T.st S (S.dp + 1)) ds β a w) (fun m a w hinv => ?_) (μ (l.map (A.ev ρ))) a w ⟨_, β1, hI0, rfl, H1⟩
            obtain ⟨ds, β2, hI, rfl, H2⟩ := hinv
            have hx := (ih b (T.st S (S.dp + 1)) _ body fs (As ++ [fun ds' => I ds' ∧ μ ds' < μ ds]) ds β2 a w hbody (hround ds hI) (by simp [hA, Tmpl.st]) H2).wp
            refine wp_mono hx fun e a' w' hpost => ?_
            obtain ⟨ex, hex, S', ρ', β', ir', As', hK, hw', ⟨l', hl'⟩, hlen, hnt, H'⟩ := hpost
            cases ex with
            | nor =>
              cases e <;> simp only [ExM] at hex
              simp only [Option.bind_eq_some_iff] at hK
              obtain ⟨l2, hfit2, hj⟩ := hK
              split at hj
              · rename_i hlt2
                cases hj
                obtain ⟨X, hX, hXl⟩ := hw'
                have : As'[S.dp]? = some (fun ds' => I ds' ∧ μ ds' < μ ds) := by
                  rw [hl', List.append_assoc, List.getElem?_append_right (by omega), hA]; simp
                rw [this] at hX; cases hX
                obtain ⟨β3, H3⟩ := fit_sound (S0 := S) (dp := S.dp + 1) hfit2 hcl hlt2 H' hnt.symm hst
                exact ⟨μ (l2.map (A.ev ρ')), hXl.2, _, β3, hXl.1, rfl, H3⟩
              · cases hj
            | exit id =>
              cases e <;> simp only [ExM] at hex
              subst hex
              exact ⟨.exit id, rfl, S', ρ', β', ir', As', hK, hw', ⟨_, by rw [hl', List.append_assoc]⟩, hlen, hnt, H'⟩
            | ret =>
              cases e <;> simp only [ExM] at hex
              exact ⟨.ret, trivial, S', ρ', β', ir', As', hK, hw', ⟨_, by rw [hl', List.append_assoc]⟩, hlen, hnt, H'⟩
        · cases h
      · have hx := (ih b S _ ir fs As ρ β a w h hw hA HS).wp
        refine LoopAt.unroll (wp_mono hx fun e a' w' hpost => ?_)
        obtain ⟨ex, hex, S', ρ', β', ir', As', hK, hw', hpre, hlen, hnt, H'⟩ := hpost
        cases ex with
        | nor =>
          cases e <;> simp only [ExM] at hex
          have := ih (.loop b) S' K ir' fs As' ρ' β' a' w' hK hw' hlen H'
          intro bb k cs
          obtain ⟨e, a2, w2, hq, harr⟩ := this bb k cs
          rw [hnt] at hq
          exact ⟨e, a2, w2, hq.mono hpre, harr⟩
        | exit id =>
          cases e <;> simp only [ExM] at hex
          subst hex
          exact ⟨.exit id, rfl, S', ρ', β', ir', As', hK, hw', hpre, hlen, hnt, H'⟩
        | ret =>
          cases e <;> simp only [ExM] at hex
          exact ⟨.ret, trivial, S', ρ', β', ir', As', hK, hw', hpre, hlen, hnt, H'⟩
    | _ => simp only [symCode] at h; cases h

end
end Go.Px

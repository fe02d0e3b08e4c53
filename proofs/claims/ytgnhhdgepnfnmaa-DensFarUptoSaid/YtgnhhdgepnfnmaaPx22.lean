/- Px22: code, the main induction. -/
import Derived.Test.YtgnhhdgepnfnmaaPx21
import Derived.Laws.Cover3
set_option linter.unusedSimpArgs false
set_option linter.unusedVariables false
namespace Go.Px
open Go.RowKit

def ExM : Ex → Exit → Prop
  | .nor, .normal => True
  | .exit i, .exit j => i = j
  | .ret, .ret => True
  | _, _ => False

def PostK (P : Program) (Q : List AV → Prop) (w0 : World) (ok0 : Nat → Prop) (fs : List (Array Value)) (nt : Nat) (As : List (List DV → Prop)) (K : Ex → St → Option IR) : Exit → Act → World → Prop :=
  fun e a w => ∃ ex, ExM ex e ∧ Cont P Q w0 ok0 fs nt As (K ex) a w

/-- What a way through code must show. -/
def GoOK (P : Program) (Q : List AV → Prop) (w0 : World) (ok0 : Nat → Prop) (go : Code → St → (Ex → St → Option IR) → Option IR) : Prop :=
  ∀ (c : Code) (S : St) (K : Ex → St → Option IR) (ir : IR) (fs : List (Array Value)) (As : List (List DV → Prop)) (ρ : List DV) (β : Bm) (a : Act) (w : World), go c S K = some ir → IRwp P As ρ ir Q → As.length = S.dp → AtS w0 ok0 fs S ρ β a w →
    wpL P c (PostK P Q w0 ok0 fs S.fr.nt As K) a w

section
variable {P : Program} {H : Hints} {Q : List AV → Prop} {w0 : World} {ok0 : Nat → Prop} {go : Code → St → (Ex → St → Option IR) → Option IR}

theorem run_eqnil {t e : TypeId} {X Y : Operand} {ad : Option Addr} {n cap : Nat} {w : World} (hu : P.underlying t = some (.slice e)) :
    (do eqGuard .eql t X Y (.slice ad n cap) (.slice none 0 0); binOp .eql t (.slice ad n cap) (.slice none 0 0) : Sem Value).run P w = .ok (.bool ad.isNone) w := by
  simp only [eqGuard, Sem.run_bind, binOp, run_equal_slice_nil w t e ad n cap hu, Result.andThen_ok, Sem.run_pure]
  simp [run_equal_slice_nil w t e ad n cap hu]

/-- What a slice holds, read off the state. -/
theorem listOf_sound {S : St} {ρ : List DV} {β : Bm} {fs : List (Array Value)} {a : Act} {w : World} (H : AtS w0 ok0 fs S ρ β a w) {c : C} {x : A} (h : S.listOf c = some x) {v : Value} (hv : CRep ρ β (okS w0 ok0 S.bl β) w c v) :
    ∃ d, x.rd ρ = some d ∧ ∀ n cells, d = .list n cells → ∃ ad cap, v = .slice ad n cap ∧ (ad = none → cells = []) := by
  have rl : ∀ {d : DV}, Reads (okS w0 ok0 S.bl β) w d v → ∀ n cells, d = .list n cells → ∃ ad cap, v = .slice ad n cap ∧ (ad = none → cells = []) := by
    intro d hr n cells hd
    subst hd
    obtain ⟨ad, cap, e, _, f, hm, _⟩ := reads_list hr
    refine ⟨ad, cap, e, fun hn => ?_⟩
    by_cases hc : cells = []
    · exact hc
    · obtain ⟨a0, ha, _⟩ := hm hc
      rw [hn] at ha; cases ha
  cases c <;> simp only [St.listOf] at h
  case «at» y => cases h; obtain ⟨d, hd, hr⟩ := hv; exact ⟨d, hd, rl hr⟩
  case ful y => cases h; obtain ⟨d, hd, hr, _⟩ := hv; exact ⟨d, hd, rl hr⟩
  case own k =>
    split at h
    · rename_i y s E hk
      cases h
      obtain ⟨v', n, cells, h1, h2, xs, ho, hl, _⟩ := H.rm.hbl k _ hk
      simp only [CRep] at hv
      rw [hv] at h1; cases h1
      refine ⟨_, h2, fun n' cells' he => ?_⟩
      cases he
      rcases ho.2 with ⟨rfl, rfl⟩ | ⟨g, cap, cur, rfl, _⟩
      · refine ⟨none, 0, rfl, fun _ => List.eq_nil_of_length_eq_zero ?_⟩
        rw [← hl, ho.1]; simp
      · exact ⟨_, cap, rfl, fun hn => by cases hn⟩
    · rename_i y hk
      cases h
      obtain ⟨v', n, cells, h1, h2, h3, _⟩ := H.rm.hbl k _ hk
      simp only [CRep] at hv
      rw [hv] at h1; cases h1
      exact ⟨_, h2, rl h3⟩
    · cases h
  all_goals cases h

theorem nilq_ok {o : Oper} {S : St} {t : TypeId} {x : Operand} {ty : TypeId} {e : TypeId} {c : C} {y : A} (ho : o.op = .binOp .eql t x (.const (.slice none 0 0)) ty) (hu : P.underlying t = some (.slice e)) (hx : S.ev x = some (.s (.one c))) (hy : S.listOf c = some y)
    {fs : List (Array Value)} {K : Option SV → St → Option IR} {ir : IR} {As : List (List DV → Prop)} {ρ : List DV} {β : Bm} {a : Act} {w : World}
    (h : (if y.lt S.nv then (K (some (.s (.one (.at (.var S.nv))))) { S with nv := S.nv + 1 }).map (IR.nilq y) else none) = some ir) (hw : IRwp P As ρ ir Q) (hA : As.length = S.dp) (H : AtS w0 ok0 fs S ρ β a w) (Qx : Exit → Act → World → Prop) :
    o.wp P a w (fun a' w' => ∃ v sv S' ρ' β' ir' As', a' = a.put o.dst v ∧ K sv S' = some ir' ∧ IRwp P As' ρ' ir' Q ∧ (∃ l, As' = As ++ l) ∧ As'.length = S'.dp ∧
      AtS w0 ok0 fs S' ρ' β' a w' ∧ S'.fr.nt = S.fr.nt ∧ ∀ s, sv = some s → SVRep ρ' β' (okS w0 ok0 S'.bl β') w' s v) Qx := by
  split at h
  · rename_i hlt
    simp only [Option.map_eq_some_iff] at h
    obtain ⟨ir', hK, rfl⟩ := h
    obtain ⟨⟨n, cells, hd⟩, hb⟩ := hw
    obtain ⟨d, hd', hl⟩ := listOf_sound H hy (H.rm.one (x := x) (by rw [← St.ev_eq]; exact hx))
    rw [A.ev_of_rd hd'] at hd
    obtain ⟨ad, cap, hv, hn⟩ := hl n cells hd
    have hrun : (execOp a.eval o).run P w = .ok (.value (.bool ad.isNone)) w := by
      have := run_eqnil (P := P) (X := x) (Y := .const (.slice none 0 0)) (ad := ad) (n := n) (cap := cap) (w := w) hu
      have hc : a.eval (.const (.slice none 0 0)) = .slice none 0 0 := rfl
      simp only [execOp, ho, hv, hc]
      rw [Sem.run_bind, this]; rfl
    refine wp_value hrun ⟨_, _, _, ρ ++ [.bool ad.isNone], β, ir', As, rfl, hK, hb ad.isNone (fun ht => ⟨n, ?_⟩), ⟨[], by simp⟩, hA, ?_, rfl, fun s hs => ?_⟩
    · rw [A.ev_of_rd hd', hd]
      have : ad = none := by simpa using ht
      rw [hn this]
    · exact ⟨H.rm.env (Ext.app _ _), H.kn.ext (Ext.app _ _), by simp [H.len], H.bln, H.βn⟩
    · cases hs
      exact ⟨.bool ad.isNone, by simp [A.rd, ← H.len], .bool _⟩
  · cases h

/-- A call that is walked into. -/
theorem inl_ok (hgo : GoOK P Q w0 ok0 go) {o : Oper} {S : St} {x : Operand} {args : Array Operand} {argTypes : Array TypeId} {f : FuncId} {ks : List Nat} {fn : Func} {body : Code} (ho : o.op = .call { callee := .value x, args := args, argTypes := argTypes })
    (hx : S.ev x = some (.s (.one (.fn f ks)))) (hfn : P.funcs[f]? = some fn) (hb : fn.body = some body)
    {fs : List (Array Value)} {K : Option SV → St → Option IR} {ir : IR} {As : List (List DV → Prop)} {ρ : List DV} {β : Bm} {a : Act} {w : World}
    (h : (if (fn.name == "runtime.NumGoroutine") then none else
              go body { S with fr := { tm := paramTm (args.toList.map S.ev ++ capSVs ks) 0, nt := max fn.ntmps (args.size + ks.length), fn := f }, stk := S.fr :: S.stk } fun ex S' =>
                match ex with
                | .exit _ => none
                | _ =>
                  match resCells P S' fn.results.toList, S'.stk with
                  | some l, fr :: stk => K (some (svOf l)) { S' with fr := fr, stk := stk }
                  | _, _ => none) = some ir) (hw : IRwp P As ρ ir Q) (hA : As.length = S.dp) (H : AtS w0 ok0 fs S ρ β a w) (Qx : Exit → Act → World → Prop) :
    o.wp P a w (fun a' w' => ∃ v sv S' ρ' β' ir' As', a' = a.put o.dst v ∧ K sv S' = some ir' ∧ IRwp P As' ρ' ir' Q ∧ (∃ l, As' = As ++ l) ∧ As'.length = S'.dp ∧
      AtS w0 ok0 fs S' ρ' β' a w' ∧ S'.fr.nt = S.fr.nt ∧ ∀ s, sv = some s → SVRep ρ' β' (okS w0 ok0 S'.bl β') w' s v) Qx := by
  split at h
  · cases h
  · rename_i hname
    have hname' : (fn.name == "runtime.NumGoroutine") = false := by simpa using hname
    obtain ⟨capv, hfv, hcs, hcap⟩ := H.rm.one (x := x) (by rw [← St.ev_eq]; exact hx)
    have hrun : (execOp a.eval o).run P w = .ok (.enter f (args.map a.eval ++ capv)) w := by
      simp only [execOp, ho, resolve, hfv, Deferred.ofValue, invoke, callFunc, Sem.run_bind, Sem.run_pure, Result.andThen_ok, program, Sem.run, hfn, Array.empty_append, hname', hb, Option.isNone_some, Bool.false_eq_true, if_false]
    have hvals : ∀ (j : Nat) (v : SV), (args.toList.map S.ev ++ capSVs ks)[j]? = some (some v) → ∃ u, (args.map a.eval ++ capv)[j]? = some u ∧ SVRep ρ β (okS w0 ok0 S.bl β) w v u := by
      intro j v hj
      by_cases hja : j < args.size
      · rw [List.getElem?_append_left (by simpa using hja), List.getElem?_map] at hj
        have hj2 : args.toList[j]? = some args[j] := by simp [hja]
        rw [hj2] at hj
        simp only [Option.map_some, Option.some.injEq] at hj
        refine ⟨a.eval args[j], ?_, H.rm.eval (by rw [← St.ev_eq]; exact hj)⟩
        rw [Array.getElem?_append_left (by simpa using hja)]
        simp [hja]
      · rw [List.getElem?_append_right (by simpa using hja)] at hj
        simp only [capSVs, List.getElem?_map, List.length_map, Array.length_toList] at hj
        cases hk : ks[j - args.size]? with
        | none => rw [hk] at hj; cases hj
        | some k =>
          rw [hk] at hj
          simp only [Option.map_some, Option.some.injEq] at hj
          subst hj
          obtain ⟨b, hb1, hb2⟩ := hcap _ k hk
          refine ⟨.pointer (some ⟨b, 0, none⟩), ?_, b, hb1, rfl⟩
          rw [Array.getElem?_append_right (by simp; omega)]
          simpa using hb2
    unfold Oper.wp
    rw [hrun]
    have hvsz : (args.map a.eval ++ capv).size = args.size + ks.length := by simp [hcs]
    have H0 : AtS w0 ok0 (a.tmps :: fs) { S with fr := { tm := paramTm (args.toList.map S.ev ++ capSVs ks) 0, nt := max fn.ntmps (args.size + ks.length), fn := f }, stk := S.fr :: S.stk } ρ β
        { tmps := (args.map a.eval ++ capv) ++ Array.replicate (fn.ntmps - (args.map a.eval ++ capv).size) undef, defers := [] } w := by
      refine ⟨{ sz := ?_, df := rfl, htm := fun t sv ht => ?_, hst := ⟨H.rm.htm, H.rm.sz, H.rm.hst⟩, hbl := H.rm.hbl, inj := H.rm.inj, bel := H.rm.bel, na := H.rm.na }, H.kn, H.len, H.bln, H.βn⟩
      · simp only [Array.size_append, Array.size_replicate, hcs, Array.size_map]; omega
      · obtain ⟨_, hg⟩ := paramTm_get _ _ _ _ ht
        obtain ⟨u, hu, hr⟩ := hvals _ _ hg
        refine ⟨u, ?_, hr⟩
        rw [Array.getElem?_append_left (by have := (Array.getElem?_eq_some_iff.1 hu).1; simpa using this)]
        simpa using hu
    have hwp := (hgo body _ _ ir (a.tmps :: fs) As ρ β _ w h hw hA H0).wp
    refine calls_of_wp hfn hb (wp_mono hwp fun e a' w' hpost => ?_)
    obtain ⟨ex, hex, S', ρ', β', ir', As', hK, hw', hpre, hlen, hnt, H'⟩ := hpost
    have fin : ∀ l, resCells P S' fn.results.toList = some l → ∀ fr stk, S'.stk = fr :: stk → K (some (svOf l)) { S' with fr := fr, stk := stk } = some ir' →
        a'.defers = [] ∧ ∃ v, (results fn a'.tmps).run P w' = .ok v w' ∧ ∃ u sv S'' ρ'' β'' ir'' As'', a.put o.dst v = a.put o.dst u ∧ K sv S'' = some ir'' ∧ IRwp P As'' ρ'' ir'' Q ∧ (∃ l, As'' = As ++ l) ∧ As''.length = S''.dp ∧
          AtS w0 ok0 fs S'' ρ'' β'' a w' ∧ S''.fr.nt = S.fr.nt ∧ ∀ s, sv = some s → SVRep ρ'' β'' (okS w0 ok0 S''.bl β'') w' s u := by
      intro l hl fr stk hstk hK
      obtain ⟨v, hv, hr⟩ := results_sound H' hl
      refine ⟨H'.rm.df, v, hv, v, _, _, ρ', β', ir', As', rfl, hK, hw', hpre, hlen, ?_, ?_, fun s hs => by cases hs; exact hr⟩
      · have hst := H'.rm.hst
        rw [hstk] at hst
        obtain ⟨s1, s2, s3⟩ := hst
        exact ⟨{ sz := s2, df := H.rm.df, htm := s1, hst := s3, hbl := H'.rm.hbl, inj := H'.rm.inj, bel := H'.rm.bel, na := H'.rm.na }, H'.kn, H'.len, H'.bln, H'.βn⟩
      · have hst := H'.rm.hst
        rw [hstk] at hst
        exact hst.2.1.symm.trans H.rm.sz
    cases ex with
    | exit id => simp only at hK; cases hK
    | nor =>
      cases e <;> simp only [ExM] at hex
      simp only at hK
      split at hK
      · rename_i l fr stk hl hstk
        exact fin l hl fr stk hstk hK
      · cases hK
    | ret =>
      cases e <;> simp only [ExM] at hex
      simp only at hK
      split at hK
      · rename_i l fr stk hl hstk
        exact fin l hl fr stk hstk hK
      · cases hK

theorem inlH_ok (hgo : GoOK P Q w0 ok0 go) : InlOK P Q w0 ok0 (inlH P H go) := by
  intro o S h hi fs K ir As ρ β a w hk hw hA HS Qx
  unfold inlH at hi
  split at hi
  · rename_i t x ty ho
    split at hi
    · rename_i e c hu hx
      split at hi
      · rename_i y hy
        cases hi
        exact nilq_ok ho hu hx hy hk hw hA HS Qx
      · cases hi
    · cases hi
  · rename_i x args argTypes ho
    split at hi
    · rename_i f ks hx
      split at hi
      · split at hi
        · rename_i fn hfn
          split at hi
          · rename_i body hb
            cases hi
            exact inl_ok hgo ho hx hfn hb hk hw hA HS Qx
          · cases hi
        · cases hi
      · cases hi
    · cases hi
  · cases hi

end
end Go.Px

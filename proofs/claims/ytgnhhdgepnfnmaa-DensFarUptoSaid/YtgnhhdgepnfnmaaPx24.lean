/- Px24: a function: what its tree says is a contract. -/
import Derived.Test.YtgnhhdgepnfnmaaPx23
set_option linter.unusedSimpArgs false
set_option linter.unusedVariables false
namespace Go.Px
open Go.RowKit

def Prm.fits : Prm → AV → Bool
  | .one, .one _ => true
  | .agg n, .agg ds => ds.length == n
  | .ref n _, .ref ds => ds.length == n
  | _, _ => false
def prmFit : List Prm → List AV → Bool
  | [], [] => true
  | p :: r, a :: l => p.fits a && prmFit r l
  | _, _ => false

theorem prmFit_len : ∀ {ps : List Prm} {args : List AV}, prmFit ps args = true → ps.length = args.length
  | [], [], _ => rfl
  | p :: r, a :: l, h => by simp only [prmFit, Bool.and_eq_true] at h; simp [prmFit_len h.2]
  | [], _ :: _, h => by cases h
  | _ :: _, [], h => by cases h

theorem prm_count {p : Prm} {a : AV} (h : p.fits a = true) : a.flat.length = p.count := by
  cases p <;> cases a <;> simp_all [Prm.fits, AV.flat, Prm.count]

theorem prmFit_count : ∀ {ps : List Prm} {args : List AV}, prmFit ps args = true → (flatAll args).length = countP ps
  | [], [], _ => rfl
  | p :: r, a :: l, h => by
    simp only [prmFit, Bool.and_eq_true] at h
    have ih := prmFit_count h.2
    simp only [flatAll, List.flatMap_cons, List.length_append, countP, List.map_cons, List.sum_cons] at ih ⊢
    rw [ih, prm_count h.1]
  | [], _ :: _, h => by cases h
  | _ :: _, [], h => by cases h

/-- The boxes handed over, by their numbers. -/
def startβ : List Prm → Nat → List Value → Bm
  | .ref _ _ :: r, k, v :: l => upd (startβ r (k + 1) l) k (some v)
  | _ :: r, k, _ :: l => startβ r k l
  | _, _, _ => fun _ => none

theorem startβ_lt : ∀ (ps : List Prm) (k : Nat) (l : List Value) (j : Nat) (v : Value), startβ ps k l j = some v → k ≤ j ∧ j < k + ps.length
  | [], k, l, j, v, h => by cases l <;> cases h
  | .one :: r, k, [], j, v, h => by cases h
  | .agg _ :: r, k, [], j, v, h => by cases h
  | .ref _ _ :: r, k, [], j, v, h => by cases h
  | .one :: r, k, x :: l, j, v, h => by have := startβ_lt r k l j v h; simp; omega
  | .agg _ :: r, k, x :: l, j, v, h => by have := startβ_lt r k l j v h; simp; omega
  | .ref _ _ :: r, k, x :: l, j, v, h => by
    simp only [startβ, upd] at h
    split at h
    · rename_i he; simp; omega
    · have := startβ_lt r (k + 1) l j v h; simp; omega

theorem startBl_lt : ∀ (ps : List Prm) (v k j : Nat) (b : Blk), alook (startBl ps v k) j = some b → k ≤ j ∧ j < k + ps.length ∧ b.mut = false
  | [], v, k, j, b, h => by cases h
  | .one :: r, v, k, j, b, h => by have := startBl_lt r (v + 1) k j b h; simp; exact ⟨this.1, by omega, this.2.2⟩
  | .agg n :: r, v, k, j, b, h => by have := startBl_lt r (v + n) k j b h; simp; exact ⟨this.1, by omega, this.2.2⟩
  | .ref n T :: r, v, k, j, b, h => by
    simp only [startBl, alook] at h
    split at h
    · rename_i he; cases h; simp; exact ⟨by omega, by omega, rfl⟩
    · have := startBl_lt r (v + n) (k + 1) j b h; simp; exact ⟨by omega, by omega, this.2.2⟩

section
variable {w : World} {ok ok' : Nat → Prop} {ρ : List DV}

theorem vars_rep {ds : List DV} {v n : Nat} {β : Bm} (hn : ds.length = n) (hρ : ∀ (i : Nat) (d : DV), ds[i]? = some d → ρ[v + i]? = some d) (hok : ∀ b, ok b → ok' b) {arr : Array Value} (hs : arr.size = ds.length)
    (hc : ∀ (j : Nat) (d : DV), ds[j]? = some d → ∃ u, arr[j]? = some u ∧ Reads ok w d u) : CsRep ρ β ok' w (varsFrom n v) arr := by
  refine ⟨by simp [varsFrom, hs, hn], fun j c hj => ?_⟩
  simp only [varsFrom, List.getElem?_map] at hj
  by_cases hjl : j < n
  · rw [List.getElem?_range hjl] at hj
    simp only [Option.map_some, Option.some.injEq] at hj
    subst hj
    obtain ⟨u, hu, hr⟩ := hc j (ds[j]'(by omega)) (by simp)
    exact ⟨u, hu, _, hρ j _ (by simp), hr.mono hok⟩
  · rw [List.getElem?_eq_none (by simpa using hjl)] at hj; cases hj

/-- The parameters' values are told. -/
theorem start_sv (hok : ∀ b, ok b → ok' b) : ∀ (ps : List Prm) (args : List AV) (vs : List Value) (v k : Nat) (β : Bm), prmFit ps args = true → (∀ (i : Nat) (d : DV), (flatAll args)[i]? = some d → ρ[v + i]? = some d) →
    (∀ j u, startβ ps k vs j = some u → β j = some u) → vs.length = args.length → (∀ (j : Nat) (x : AV), args[j]? = some x → ∃ u, vs[j]? = some u ∧ RepAV ok w x u) →
    ∀ (j : Nat) (sv : SV), (startSV ps v k)[j]? = some (some sv) → ∃ u, vs[j]? = some u ∧ SVRep ρ β ok' w sv u
  | [], args, vs, v, k, β, _, _, _, _, _, j, sv, h => by simp [startSV] at h
  | p :: ps, [], vs, v, k, β, hf, _, _, _, _, j, sv, h => by cases hf
  | p :: ps, x :: args, [], v, k, β, _, _, _, hl, _, j, sv, h => by cases hl
  | p :: ps, x :: args, u :: vs, v, k, β, hf, hρ, hβ, hl, hr, j, sv, h => by
    simp only [prmFit, Bool.and_eq_true] at hf
    have hu : RepAV ok w x u := by
      obtain ⟨u', hu', hq⟩ := hr 0 x rfl
      simp at hu'; subst hu'; exact hq
    have hr' : ∀ (j : Nat) (x : AV), args[j]? = some x → ∃ u, vs[j]? = some u ∧ RepAV ok w x u := fun j x hj => by simpa using hr (j + 1) x (by simpa using hj)
    have hl' : vs.length = args.length := by simpa using hl
    have hρh : ∀ (i : Nat) (d : DV), x.flat[i]? = some d → ρ[v + i]? = some d := fun i d hd => hρ i d (by
      simp only [flatAll, List.flatMap_cons]
      rw [List.getElem?_append_left (List.getElem?_eq_some_iff.1 hd).1]; exact hd)
    have hρt : ∀ (n : Nat), x.flat.length = n → ∀ (i : Nat) (d : DV), (flatAll args)[i]? = some d → ρ[v + n + i]? = some d := fun n hn i d hd => by
      have := hρ (n + i) d (by
        simp only [flatAll, List.flatMap_cons] at hd ⊢
        rw [List.getElem?_append_right (by omega), show n + i - x.flat.length = i by omega]; exact hd)
      rwa [show v + (n + i) = v + n + i by omega] at this
    cases p with
    | one =>
      cases x <;> simp only [Prm.fits] at hf <;> try (cases hf.1; done)
      rename_i d
      cases j with
      | zero =>
        simp only [startSV, List.getElem?_cons_zero, Option.some.injEq] at h
        subst h
        exact ⟨u, rfl, d, by simpa [A.rd] using hρh 0 d rfl, Reads.mono hok hu⟩
      | succ j => simpa using start_sv hok ps args vs (v + 1) k β hf.2 (hρt 1 rfl) hβ hl' hr' j sv (by simpa [startSV] using h)
    | agg n =>
      cases x <;> simp only [Prm.fits] at hf <;> try (cases hf.1; done)
      rename_i ds
      have hn : ds.length = n := by simpa using hf.1
      cases j with
      | zero =>
        simp only [startSV, List.getElem?_cons_zero, Option.some.injEq] at h
        subst h
        obtain ⟨arr, he, hs, hc⟩ := hu
        exact ⟨u, rfl, arr, he, vars_rep hn hρh hok hs hc⟩
      | succ j => simpa using start_sv hok ps args vs (v + n) k β hf.2 (hρt n hn) hβ hl' hr' j sv (by simpa [startSV] using h)
    | ref n T =>
      cases x <;> simp only [Prm.fits] at hf <;> try (cases hf.1; done)
      rename_i ds
      have hn : ds.length = n := by simpa using hf.1
      cases j with
      | zero =>
        simp only [startSV, List.getElem?_cons_zero, Option.some.injEq] at h
        subst h
        obtain ⟨b, arr, T', fz, he, hh, hs, hc⟩ := hu
        exact ⟨u, rfl, b, by rw [hβ k u (by simp [startβ, upd]), he], he⟩
      | succ j =>
        refine (fun hh => by simpa using hh) (start_sv hok ps args vs (v + n) (k + 1) β hf.2 (hρt n hn) (fun i z hz => hβ i z ?_) hl' hr' j sv (by simpa [startSV] using h))
        have := startβ_lt _ _ _ _ _ hz
        have hne : i ≠ k := by omega
        simp only [startβ, upd, hne, if_false]; exact hz

/-- The boxes handed over are as told. -/
theorem start_bl {w0 : World} (hok : ∀ b, ok b → ok' b) (hw : w0.heap.size = w.heap.size) : ∀ (ps : List Prm) (args : List AV) (vs : List Value) (v k : Nat) (β : Bm), prmFit ps args = true → (∀ (i : Nat) (d : DV), (flatAll args)[i]? = some d → ρ[v + i]? = some d) →
    (∀ j u, startβ ps k vs j = some u → β j = some u) → vs.length = args.length → (∀ (j : Nat) (x : AV), args[j]? = some x → ∃ u, vs[j]? = some u ∧ RepAV ok w x u) →
    ∀ (j : Nat) (b : Blk), alook (startBl ps v k) j = some b → BlkRep w0 ρ β ok' w j b
  | [], args, vs, v, k, β, _, _, _, _, _, j, b, h => by cases h
  | p :: ps, [], vs, v, k, β, hf, _, _, _, _, j, b, h => by cases hf
  | p :: ps, x :: args, [], v, k, β, _, _, _, hl, _, j, b, h => by cases hl
  | p :: ps, x :: args, u :: vs, v, k, β, hf, hρ, hβ, hl, hr, j, b, h => by
    simp only [prmFit, Bool.and_eq_true] at hf
    have hu : RepAV ok w x u := by
      obtain ⟨u', hu', hq⟩ := hr 0 x rfl
      simp at hu'; subst hu'; exact hq
    have hr' : ∀ (j : Nat) (x : AV), args[j]? = some x → ∃ u, vs[j]? = some u ∧ RepAV ok w x u := fun j x hj => by simpa using hr (j + 1) x (by simpa using hj)
    have hl' : vs.length = args.length := by simpa using hl
    have hρh : ∀ (i : Nat) (d : DV), x.flat[i]? = some d → ρ[v + i]? = some d := fun i d hd => hρ i d (by
      simp only [flatAll, List.flatMap_cons]
      rw [List.getElem?_append_left (List.getElem?_eq_some_iff.1 hd).1]; exact hd)
    have hρt : ∀ (n : Nat), x.flat.length = n → ∀ (i : Nat) (d : DV), (flatAll args)[i]? = some d → ρ[v + n + i]? = some d := fun n hn i d hd => by
      have := hρ (n + i) d (by
        simp only [flatAll, List.flatMap_cons] at hd ⊢
        rw [List.getElem?_append_right (by omega), show n + i - x.flat.length = i by omega]; exact hd)
      rwa [show v + (n + i) = v + n + i by omega] at this
    cases p with
    | one =>
      cases x <;> simp only [Prm.fits] at hf <;> try (cases hf.1; done)
      exact start_bl hok hw ps args vs (v + 1) k β hf.2 (hρt 1 rfl) hβ hl' hr' j b h
    | agg n =>
      cases x <;> simp only [Prm.fits] at hf <;> try (cases hf.1; done)
      rename_i ds
      have hn : ds.length = n := by simpa using hf.1
      exact start_bl hok hw ps args vs (v + n) k β hf.2 (hρt n hn) hβ hl' hr' j b h
    | ref n T =>
      cases x <;> simp only [Prm.fits] at hf <;> try (cases hf.1; done)
      rename_i ds
      have hn : ds.length = n := by simpa using hf.1
      simp only [startBl, alook] at h
      split at h
      · rename_i he
        cases h
        obtain ⟨bb, arr, T', fz, hv, hh, hs, hc⟩ := hu
        exact ⟨bb, arr, T', fz, by rw [he, hβ k u (by simp [startβ, upd]), hv], hh, vars_rep hn hρh hok hs hc, (fun hh => by cases hh), fun _ => by rw [hw]; exact (Array.getElem?_eq_some_iff.1 hh).1⟩
      · refine start_bl hok hw ps args vs (v + n) (k + 1) β hf.2 (hρt n hn) (fun i z hz => hβ i z ?_) hl' hr' j b h
        have := startβ_lt _ _ _ _ _ hz
        have hne : i ≠ k := by omega
        simp only [startβ, upd, hne, if_false]; exact hz

theorem startβ_one : ∀ (ps : List Prm) (args : List AV) (vs : List Value) (k : Nat), prmFit ps args = true → vs.length = args.length → (∀ (j : Nat) (x : AV), args[j]? = some x → ∃ u, vs[j]? = some u ∧ RepAV ok w x u) →
    ∀ j u, startβ ps k vs j = some u → u.oneCell' = true
  | [], args, vs, k, _, _, _, j, u, h => by cases vs <;> cases h
  | p :: ps, [], vs, k, hf, _, _, j, u, h => by cases hf
  | p :: ps, x :: args, [], k, _, hl, _, j, u, h => by cases hl
  | p :: ps, x :: args, v :: vs, k, hf, hl, hr, j, u, h => by
    simp only [prmFit, Bool.and_eq_true] at hf
    have hr' : ∀ (j : Nat) (x : AV), args[j]? = some x → ∃ u, vs[j]? = some u ∧ RepAV ok w x u := fun j x hj => by simpa using hr (j + 1) x (by simpa using hj)
    have hl' : vs.length = args.length := by simpa using hl
    cases p with
    | one => exact startβ_one ps args vs k hf.2 hl' hr' j u h
    | agg n => exact startβ_one ps args vs k hf.2 hl' hr' j u h
    | ref n T =>
      simp only [startβ, upd] at h
      split at h
      · cases h
        cases x <;> simp only [Prm.fits] at hf <;> try (cases hf.1; done)
        obtain ⟨u', hu', hq⟩ := hr 0 _ rfl
        simp at hu'; subst hu'
        obtain ⟨bb, arr, T', fz, rfl, _⟩ := hq
        rfl
      · exact startβ_one ps args vs (k + 1) hf.2 hl' hr' j u h
end

theorem startSV_len : ∀ (ps : List Prm) (v k : Nat), (startSV ps v k).length = ps.length
  | [], _, _ => rfl
  | .one :: r, v, k => by simp [startSV, startSV_len r]
  | .agg _ :: r, v, k => by simp [startSV, startSV_len r]
  | .ref _ _ :: r, v, k => by simp [startSV, startSV_len r]

def okName (P : Program) (f : FuncId) : Bool :=
  match P.funcs[f]? with
  | some fn => !(fn.name == "runtime.NumGoroutine") && !fn.body.isNone
  | none => false

/-- THE CONTRACT OF A FUNCTION. -/
theorem symFunc_sound {P : Program} {H : Hints} {fuel : Nat} {f : FuncId} {ps : List Prm} {ir : IR} (hm : P.follows .mixedOrders = true) (h : symFunc P H fuel f ps = some ir) (hn : okName P f = true) {args res : List AV} (hf : prmFit ps args = true)
    (hw : IRwp P [] (flatAll args) ir (· = res)) : PureCalls P f args res := by
  unfold okName at hn
  unfold symFunc at h
  split at h
  · rename_i fn hfn
    rw [hfn] at hn
    simp only [Bool.and_eq_true, Bool.not_eq_true'] at hn
    refine ⟨⟨fn, hfn, hn.1, hn.2⟩, fun w ok vs hvs => ?_⟩
    split at h
    · rename_i body hb
      have hlen := prmFit_len hf
      have hvl : vs.toList.length = args.length := by simpa using hvs.1
      have hvr : ∀ (j : Nat) (x : AV), args[j]? = some x → ∃ u, vs.toList[j]? = some u ∧ RepAV ok w x u := fun j x hj => let ⟨u, hu, hr⟩ := hvs.2 j x hj; ⟨u, by simpa using hu, hr⟩
      have hok : ∀ b, ok b → okS w ok (alook (startBl ps 0 0)) (startβ ps 0 vs.toList) b := fun b hb => ⟨.inl hb, fun k blk v hk hmu => by
        have := (startBl_lt ps 0 0 k blk hk).2.2
        rw [this] at hmu; cases hmu⟩
      have hρ : ∀ (i : Nat) (d : DV), (flatAll args)[i]? = some d → (flatAll args)[0 + i]? = some d := fun i d hd => by simpa using hd
      have H0 : AtS w ok [] (startSt H f fn ps) (flatAll args) (startβ ps 0 vs.toList) { tmps := vs ++ Array.replicate (fn.ntmps - vs.size) undef, defers := [] } w := by
        refine ⟨{ sz := ?_, df := rfl, htm := fun t sv ht => ?_, hst := trivial, hbl := start_bl hok rfl ps args vs.toList 0 0 _ hf hρ (fun _ _ h => h) hvl hvr, inj := fun k k' b b' v v' m e1 m1 => ?_, bel := Below.refl _ _, na := startβ_one ps args vs.toList 0 hf hvl hvr }, fun i b hi => (by cases hi), ?_, fun k hk => ?_, fun k hk => ?_⟩
        · show (vs ++ Array.replicate (fn.ntmps - vs.size) undef).size = max fn.ntmps ps.length
          simp only [Array.size_append, Array.size_replicate]
          have : vs.size = ps.length := by rw [hlen]; exact hvs.1
          omega
        · obtain ⟨_, hg⟩ := paramTm_get _ _ _ _ ht
          obtain ⟨u, hu, hr⟩ := start_sv hok ps args vs.toList 0 0 _ hf hρ (fun _ _ h => h) hvl hvr _ sv hg
          refine ⟨u, ?_, hr⟩
          have hu' : vs[t]? = some u := by simpa using hu
          rw [Array.getElem?_append_left (Array.getElem?_eq_some_iff.1 hu').1]
          exact hu'
        · have := (startBl_lt ps 0 0 k b e1).2.2
          rw [this] at m1; cases m1
        · exact prmFit_count hf
        · show alook (startBl ps 0 0) k = none
          cases hb : alook (startBl ps 0 0) k with
          | none => rfl
          | some b =>
            have := (startBl_lt ps 0 0 k b hb).2.1
            have hk' : ps.length ≤ k := hk
            omega
        · cases hb : startβ ps 0 vs.toList k with
          | none => rfl
          | some b =>
            have := (startβ_lt ps 0 _ k b hb).2
            have hk' : ps.length ≤ k := hk
            omega
      have hwp := (symCode_ok (H := H) (Q := (· = res)) (w0 := w) (ok0 := ok) hm fuel body _ _ ir [] [] _ _ _ w h hw rfl H0).wp
      refine calls_of_wp hfn hb (wp_mono hwp fun e a' w' hpost => ?_)
      obtain ⟨ex, hex, S', ρ', β', ir', As', hK, hw', hpre, hdp, hnt, H'⟩ := hpost
      have fin : (match resCells P S' fn.results.toList with
          | some l =>
            if H.own f then
              match l with
              | .one c :: r =>
                (S'.argsOf (r.map fun v => some (.s v))).bind fun (args, S2) =>
                  match ownShp P fn with
                  | some (s, E) =>
                    match S2.handOver s E c with
                    | some x => if args.all (fun | .ref _ => false | .own .. => false | _ => true) && args.all (Arg.lt S'.nv) && x.lt S'.nv then some (.ret (.own s E x :: args)) else none
                    | none => none
                  | none => none
              | _ => none
            else (S'.argsOf (l.map fun v => some (.s v))).bind fun (args, _) => if args.all (fun | .ref _ => false | .own .. => false | _ => true) && args.all (Arg.lt S'.nv) then some (.ret args) else none
          | none => none) = some ir' → a'.defers = [] ∧ ∃ v, (results fn a'.tmps).run P w' = .ok v w' ∧ ∃ v', Ending.returned v = .returned v' ∧ RepRes w.heap.size ok w' res v' ∧ Below w.heap.size w w' := by
        intro hK
        split at hK
        · rename_i l hl
          obtain ⟨v, hv, hr⟩ := results_sound H' hl
          refine ⟨H'.rm.df, v, hv, v, rfl, ?_, H'.rm.bel⟩
          -- results that are no rows handed over, each by itself
          have key : ∀ (l : List S1) (gs : List Arg) (S2 : St), S'.argsOf (l.map fun v => some (.s v)) = some (gs, S2) → gs.all (Arg.lt S'.nv) = true → ∀ (u : Nat → Value), (∀ (j : Nat) (x : S1), l[j]? = some x → S1Rep ρ' β' (okS w ok S'.bl β') w' x (u j)) →
              gs.length = l.length ∧ RM w ok [] S'.stk ρ' β' S'.fr.nt S'.fr.tm S2.bl a' w' ∧ (∀ b, okS w ok S'.bl β' b → okS w ok S2.bl β' b) ∧ ∀ (j : Nat) (g : Arg), gs[j]? = some g → RepAV (okS w ok S2.bl β') w' (g.ev ρ') (u j) := by
            intro l gs S2 hgs hlt u hu
            obtain ⟨_, uS, _, hgl⟩ := argsOf_facts hgs
            obtain ⟨HM, hmono, harg⟩ := argsOf_sound hgs H'.rm (fun k hk => rfl) u (fun j x hj => by
              rw [List.getElem?_map] at hj
              cases hx : l[j]? with
              | none => rw [hx] at hj; cases hj
              | some y => rw [hx] at hj; cases hj; exact hu j y hx)
            rw [patch_all (b' := S2.bl) uS] at HM hmono harg
            exact ⟨by simpa using hgl, HM, hmono, fun j g hg => (harg j g hg).rep H'.len (Ext.refl _) (List.all_eq_true.1 hlt g (List.mem_of_getElem? hg))⟩
          have toR : ∀ {g : Arg} {u : Value} {ow : Option Nat} {bl : Nat → Option Blk}, (match g with | .ref _ => false | .own .. => false | _ => true) = true → (∀ b, okS w ok bl β' b → ow ≠ some b) → RepAV (okS w ok bl β') w' (g.ev ρ') u → RepR w.heap.size ok ow w' (g.ev ρ') u := by
            intro g u ow bl hg how h
            have h2 : RepAV (fun b => (ok b ∨ w.heap.size ≤ b) ∧ ow ≠ some b) w' (g.ev ρ') u := h.mono fun b hb => ⟨hb.1, how b hb⟩
            cases g with
            | one a => exact h2
            | agg l => exact h2
            | ref l => cases hg
            | own s E a => cases hg
          split at hK
          · split at hK
            · rename_i c r
              simp only [Option.bind_eq_some_iff] at hK
              obtain ⟨⟨gs, S2⟩, hgs, hK⟩ := hK
              simp only at hK
              split at hK
              · rename_i s E hsh
                split at hK
                · rename_i x hx
                  split at hK
                  · rename_i hc
                    simp only [Bool.and_eq_true] at hc
                    cases hK
                    have hres : Arg.ev ρ' (.own s E x) :: gs.map (Arg.ev ρ') = res := hw'
                    -- the row and the others
                    have main : ∀ (v0 : Value) (u : Nat → Value), CRep ρ' β' (okS w ok S'.bl β') w' c v0 → (∀ (j : Nat) (x : S1), r[j]? = some x → S1Rep ρ' β' (okS w ok S'.bl β') w' x (u j)) →
                        gs.length = r.length ∧ RepR w.heap.size ok (blockOf v0) w' (Arg.ev ρ' (.own s E x)) v0 ∧ ∀ (j : Nat) (g : Arg), gs[j]? = some g → RepR w.heap.size ok (blockOf v0) w' (g.ev ρ') (u j) := by
                      intro v0 u hv0 hu
                      obtain ⟨k1, k2, k3, k4⟩ := key r gs S2 hgs hc.1.2 u hu
                      cases c <;> simp only [St.handOver] at hx
                      case nils =>
                        cases hx
                        simp only [CRep] at hv0
                        subst hv0
                        exact ⟨k1, ⟨⟨[], World.ownsR_nil w' _ _ _, rfl, fun j d hj => by simp at hj⟩, fun b hb => hb⟩, fun j g hg => toR (List.all_eq_true.1 hc.1.1 g (List.mem_of_getElem? hg)) (fun b _ => by simp [blockOf]) (k4 j g hg)⟩
                      case own k =>
                        split at hx
                        · rename_i x' s' E' hk
                          split at hx
                          · rename_i hse
                            obtain ⟨rfl, rfl⟩ := hse
                            cases hx
                            obtain ⟨v1, n, cells, g1, g2, xs, g3, g4, g5⟩ := k2.hbl k _ hk
                            simp only [CRep] at hv0
                            rw [hv0] at g1; cases g1
                            have hnot : ∀ b, okS w ok S2.bl β' b → blockOf v0 ≠ some b := fun b hb => hb.2 k _ v0 hk rfl hv0
                            refine ⟨k1, ?_, fun j g hg => toR (List.all_eq_true.1 hc.1.1 g (List.mem_of_getElem? hg)) hnot (k4 j g hg)⟩
                            simp only [Arg.ev, A.ev_of_rd g2]
                            exact ⟨⟨xs, g3, g4, fun j d hj => let ⟨u, hu, hr⟩ := g5 j d hj; ⟨u, hu, hr.mono fun b hb => ⟨hb.1, hnot b hb⟩⟩⟩, fun b hb => hb⟩
                          · cases hx
                        · cases hx
                      all_goals cases hx
                    match r, gs, hgs, hr, hres, main with
                    | [], gs, hgs, hr, hres, main =>
                      obtain ⟨m1, m2, m3⟩ := main v (fun _ => v) hr (fun j x hj => by simp at hj)
                      have : gs = [] := List.eq_nil_of_length_eq_zero m1
                      subst this
                      rw [← hres]
                      exact ⟨blockOf v, m2⟩
                    | y :: r, gs, hgs, hr, hres, main =>
                      obtain ⟨vs, rfl, hs, hc2⟩ := hr
                      obtain ⟨v0, hv0, hr0⟩ := hc2 0 _ rfl
                      obtain ⟨m1, m2, m3⟩ := main v0 (fun j => vs.getD (j + 1) undef) hr0 (fun j z hj => by
                        obtain ⟨u, hu, hq⟩ := hc2 (j + 1) z (by simpa using hj)
                        simpa [Array.getD_eq_getD_getElem?, hu] using hq)
                      match gs, m1, m3, hres with
                      | g :: gs, m1, m3, hres =>
                        rw [← hres]
                        refine ⟨blockOf v0, vs, rfl, by simp only [List.length_cons, List.length_map] at m1 ⊢; rw [hs]; simp; omega, fun j d hj => ?_⟩
                        cases j with
                        | zero => simp only [List.getElem?_cons_zero, Option.some.injEq] at hj; subst hj; exact ⟨v0, hv0, m2⟩
                        | succ j =>
                          simp only [List.getElem?_cons_succ] at hj
                          rw [List.getElem?_map] at hj
                          cases hg : (g :: gs)[j]? with
                          | none => rw [hg] at hj; cases hj
                          | some g' =>
                            rw [hg] at hj; cases hj
                            have hjl : j + 1 < vs.size := by
                              have := (List.getElem?_eq_some_iff.1 hg).1
                              rw [hs]; simp only [List.length_cons] at this m1 ⊢; omega
                            exact ⟨vs[j + 1], by simp [hjl], by simpa [Array.getD_eq_getD_getElem?, hjl] using m3 j g' hg⟩
                  · cases hK
                · cases hK
              · cases hK
            · cases hK
          · simp only [Option.bind_eq_some_iff] at hK
            obtain ⟨⟨gs, S2⟩, hgs, hK⟩ := hK
            simp only at hK
            split at hK
            · rename_i hc
              simp only [Bool.and_eq_true] at hc
              cases hK
              have hres : gs.map (Arg.ev ρ') = res := hw'
              have key2 : ∀ (u : Nat → Value), (∀ (j : Nat) (x : S1), l[j]? = some x → S1Rep ρ' β' (okS w ok S'.bl β') w' x (u j)) → ∀ (j : Nat) (r : AV), res[j]? = some r → RepR w.heap.size ok none w' r (u j) := by
                intro u hu j r hj
                obtain ⟨_, _, _, k4⟩ := key l gs S2 hgs hc.2 u hu
                rw [← hres, List.getElem?_map] at hj
                cases hg : gs[j]? with
                | none => rw [hg] at hj; cases hj
                | some g =>
                  rw [hg] at hj; cases hj
                  exact toR (List.all_eq_true.1 hc.1 g (List.mem_of_getElem? hg)) (fun b _ => by simp) (k4 j g hg)
              have hgl : gs.length = l.length := by
                obtain ⟨_, _, _, hgl⟩ := argsOf_facts hgs
                simpa using hgl
              have hrl : res.length = l.length := by rw [← hres]; simp [hgl]
              refine ⟨none, ?_⟩
              match l, hr, hrl, key2 with
              | [x], hr, hrl, key2 =>
                obtain ⟨r, rfl⟩ := List.length_eq_one_iff.1 hrl
                exact key2 (fun _ => v) (fun j y hj => by
                  cases j with
                  | zero => simp at hj; subst hj; exact hr
                  | succ j => simp at hj) 0 r rfl
              | [], hr, hrl, key2 =>
                have hr0 : res = [] := List.eq_nil_of_length_eq_zero hrl
                rw [hr0]
                obtain ⟨arr, rfl, hs, _⟩ := hr
                exact ⟨arr, rfl, hs, fun j d hj => by simp at hj⟩
              | x :: y :: l, hr, hrl, key2 =>
                obtain ⟨arr, rfl, hs, hc2⟩ := hr
                have hne : ∀ r, res ≠ [r] := fun r he => by rw [he] at hrl; simp at hrl
                have k2 := key2 (fun j => arr.getD j undef) (fun j z hj => by
                  obtain ⟨u, hu, hq⟩ := hc2 j z hj
                  simpa [Array.getD_eq_getD_getElem?, hu] using hq)
                have : ∃ vs : Array Value, Value.tuple arr = .tuple vs ∧ RepRs w.heap.size ok none w' res vs := by
                  refine ⟨arr, rfl, by rw [hs, hrl], fun j d hj => ?_⟩
                  have hjl : j < arr.size := by rw [hs, ← hrl]; exact (List.getElem?_eq_some_iff.1 hj).1
                  exact ⟨arr[j], by simp [hjl], by simpa [Array.getD_eq_getD_getElem?, hjl] using k2 j d hj⟩
                match res, hne, this with
                | [], _, this => exact this
                | [r], hne, _ => exact absurd rfl (hne r)
                | r :: r2 :: q, _, this => exact this
            · cases hK
        · cases hK
      cases ex with
      | exit id => simp only at hK; cases hK
      | nor =>
        cases e <;> simp only [ExM] at hex
        exact fin hK
      | ret =>
        cases e <;> simp only [ExM] at hex
        exact fin hK
    · cases h
  · cases h

end Go.Px

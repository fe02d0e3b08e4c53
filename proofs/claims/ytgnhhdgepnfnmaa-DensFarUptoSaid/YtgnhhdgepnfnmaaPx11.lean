/- Px11: one operation, part nine: calls by contract, builtins. -/
import Derived.Test.YtgnhhdgepnfnmaaPx10
set_option linter.unusedSimpArgs false
set_option linter.unusedVariables false
namespace Go.Px
open Go.RowKit

/-! ### Results -/
theorem reads_at {ρ : List DV} {β : Bm} {ok : Nat → Prop} {w : World} {i : Nat} {d : DV} {v : Value} (h : ρ[i]? = some d) (hr : Reads ok w d v) : CRep ρ β ok w (.at (.var i)) v := ⟨d, h, hr⟩

theorem resOf_len : ∀ (l : List Shp) (n : Nat), (resOf l n).length = l.length
  | [], _ => rfl
  | .one :: r, n => by simp [resOf, resOf_len r]
  | .agg m :: r, n => by simp [resOf, resOf_len r]
  | .own _ _ :: r, n => by simp [resOf, resOf_len r]

/-- A call's results are told by the variables that stand for them. -/
theorem resOf_rep {ρ : List DV} {β : Bm} {ok : Nat → Prop} {w : World} : ∀ {shp : List Shp} {res : List AV} {n : Nat}, fitAll shp res = true → (∀ (i : Nat) (d : DV), (flatAll res)[i]? = some d → ρ[n + i]? = some d) →
    ∀ (j : Nat) (x : S1) (r : AV) (u : Value), (resOf shp n)[j]? = some x → res[j]? = some r → RepAV ok w r u → S1Rep ρ β ok w x u
  | [], [], n, _, _, j, x, r, u, hx, hr, _ => by simp [resOf] at hx
  | s :: shp, a :: res, n, hf, hρ, j, x, r, u, hx, hr, hu => by
    simp only [fitAll, Bool.and_eq_true] at hf
    cases s with
    | one =>
      cases a with
      | one d =>
        cases j with
        | zero =>
          simp only [resOf, List.getElem?_cons_zero, Option.some.injEq] at hx hr
          subst hx hr
          exact ⟨d, by have := hρ 0 d (by simp [flatAll, AV.flat]); simpa [A.rd] using this, hu⟩
        | succ j =>
          simp only [resOf, List.getElem?_cons_succ] at hx hr
          refine resOf_rep hf.2 (fun i d hd => ?_) j x r u hx hr hu
          have := hρ (i + 1) d (by simpa [flatAll, AV.flat] using hd)
          rwa [show n + (i + 1) = n + 1 + i by omega] at this
      | agg ds => simp [AV.fits] at hf
      | ref ds => simp [AV.fits] at hf
      | own s E n cells => simp [AV.fits] at hf
    | agg m =>
      cases a with
      | agg ds =>
        have hm : ds.length = m := by simpa [AV.fits] using hf.1
        cases j with
        | zero =>
          simp only [resOf, List.getElem?_cons_zero, Option.some.injEq] at hx hr
          subst hx hr
          obtain ⟨vs, hv, hs, hc⟩ := hu
          refine ⟨vs, hv, by simp [hs, hm], fun j c hj => ?_⟩
          rw [List.getElem?_map] at hj
          by_cases hjl : j < m
          · rw [List.getElem?_range hjl] at hj
            simp only [Option.map_some, Option.some.injEq] at hj
            obtain ⟨u', hu', hr'⟩ := hc j (ds[j]'(by omega)) (by simp)
            refine ⟨u', hu', ?_⟩
            subst hj
            refine reads_at (hρ j _ ?_) hr'
            simp [flatAll, AV.flat, List.getElem?_append, hm, hjl]
          · rw [List.getElem?_eq_none (by simpa using hjl)] at hj; cases hj
        | succ j =>
          simp only [resOf, List.getElem?_cons_succ] at hx hr
          refine resOf_rep hf.2 (fun i d hd => ?_) j x r u hx hr hu
          have := hρ (m + i) d (by
            simp only [flatAll, List.flatMap_cons, AV.flat] at hd ⊢
            rw [List.getElem?_append_right (by omega)]
            rw [show m + i - ds.length = i by omega]; exact hd)
          rwa [show n + (m + i) = n + m + i by omega] at this
      | one d => simp [AV.fits] at hf
      | ref ds => simp [AV.fits] at hf
      | own s E n cells => simp [AV.fits] at hf
    | own s0 E0 =>
      cases a with
      | own s1 E1 n1 cells1 =>
        cases j with
        | zero =>
          simp only [List.getElem?_cons_zero, Option.some.injEq] at hr
          subst hr
          exact hu.elim
        | succ j =>
          simp only [resOf, List.getElem?_cons_succ] at hx hr
          refine resOf_rep hf.2 (fun i d hd => ?_) j x r u hx hr hu
          have := hρ (i + 1) d (by simpa [flatAll, AV.flat] using hd)
          rwa [show n + (i + 1) = n + 1 + i by omega] at this
      | one d => simp [AV.fits] at hf
      | agg ds => simp [AV.fits] at hf
      | ref ds => simp [AV.fits] at hf
  | [], _ :: _, n, hf, _, j, x, r, u, hx, hr, _ => by simp [fitAll] at hf
  | _ :: _, [], n, hf, _, j, x, r, u, hx, hr, _ => by simp [fitAll] at hf

theorem fitAll_len : ∀ {shp : List Shp} {res : List AV}, fitAll shp res = true → shp.length = res.length
  | [], [], _ => rfl
  | s :: shp, a :: res, h => by simp only [fitAll, Bool.and_eq_true] at h; simp [fitAll_len h.2]
  | [], _ :: _, h => by simp [fitAll] at h
  | _ :: _, [], h => by simp [fitAll] at h

theorem flat_count : ∀ {shp : List Shp} {res : List AV}, fitAll shp res = true → (flatAll res).length = countAll shp
  | [], [], _ => rfl
  | s :: shp, a :: res, h => by
    simp only [fitAll, Bool.and_eq_true] at h
    have ih := flat_count h.2
    simp only [flatAll, List.flatMap_cons, List.length_append, countAll, List.map_cons, List.sum_cons] at ih ⊢
    rw [ih]
    congr 1
    cases s <;> cases a <;> simp_all [AV.fits, AV.flat, Shp.count]
  | [], _ :: _, h => by simp [fitAll] at h
  | _ :: _, [], h => by simp [fitAll] at h

theorem RepAV.mono {ok ok' : Nat → Prop} {w : World} (h : ∀ b, ok b → ok' b) {r : AV} {u : Value} (hr : RepAV ok w r u) : RepAV ok' w r u := by
  cases r with
  | one d => exact Reads.mono h hr
  | agg ds => obtain ⟨vs, h1, h2, h3⟩ := hr; exact ⟨vs, h1, h2, fun j d hj => let ⟨u, hu, hq⟩ := h3 j d hj; ⟨u, hu, hq.mono h⟩⟩
  | ref ds => obtain ⟨b, arr, T, fz, h1, h2, h3, h4⟩ := hr; exact ⟨b, arr, T, fz, h1, h2, h3, fun j d hj => let ⟨u, hu, hq⟩ := h4 j d hj; ⟨u, hu, hq.mono h⟩⟩
  | own s E n cells => exact hr.elim

/-- Results, none of which is a row handed over. -/
def RepRes0 (ok : Nat → Prop) (w : World) (l : List AV) (v : Value) : Prop :=
  match l with
  | [x] => RepAV ok w x v
  | l => ∃ vs : Array Value, v = .tuple vs ∧ RepAVs ok w l vs

theorem RepRes0.mono {ok ok' : Nat → Prop} {w : World} (h : ∀ b, ok b → ok' b) {l : List AV} {v : Value} (hr : RepRes0 ok w l v) : RepRes0 ok' w l v := by
  match l, hr with
  | [], ⟨vs, h1, h2, h3⟩ => exact ⟨vs, h1, h2, fun j d hj => let ⟨u, hu, hq⟩ := h3 j d hj; ⟨u, hu, hq.mono h⟩⟩
  | [x], hr => exact RepAV.mono h hr
  | x :: y :: r, ⟨vs, h1, h2, h3⟩ => exact ⟨vs, h1, h2, fun j d hj => let ⟨u, hu, hq⟩ := h3 j d hj; ⟨u, hu, hq.mono h⟩⟩

def AV.isOwn : AV → Bool
  | .own .. => true
  | _ => false
def Shp.isOwn : Shp → Bool
  | .own .. => true
  | _ => false

theorem RepR.plain {base : Nat} {ok : Nat → Prop} {ow : Option Nat} {w : World} {x : AV} {v : Value} (hx : x.isOwn = false) (h : RepR base ok ow w x v) : RepAV (fun b => (ok b ∨ base ≤ b) ∧ ow ≠ some b) w x v := by
  cases x with
  | own s E n cells => cases hx
  | _ => exact h

theorem fit_noOwn : ∀ {shp : List Shp} {res : List AV}, fitAll shp res = true → (∀ s ∈ shp, s.isOwn = false) → ∀ x ∈ res, x.isOwn = false
  | [], [], _, _, x, hx => by cases hx
  | s :: shp, a :: res, h, hs, x, hx => by
    simp only [fitAll, Bool.and_eq_true] at h
    rcases List.mem_cons.1 hx with rfl | hx
    · have := hs s (by simp)
      cases s <;> cases x <;> simp_all [AV.fits, AV.isOwn, Shp.isOwn]
    · exact fit_noOwn h.2 (fun s hs' => hs s (by simp [hs'])) x hx
  | [], _ :: _, h, _, x, hx => by cases h
  | _ :: _, [], h, _, x, hx => by cases h

theorem shps_noOwn {P : Program} {fn : Func} : ∀ s ∈ shpsOf P fn, s.isOwn = false := by
  intro s hs
  simp only [shpsOf, List.mem_map] at hs
  obtain ⟨t, _, rfl⟩ := hs
  unfold shpOf
  split <;> rfl

theorem RepRes.plain {base : Nat} {ok : Nat → Prop} {w : World} {l : List AV} {v : Value} (hl : ∀ x ∈ l, x.isOwn = false) (h : RepRes base ok w l v) : RepRes0 (fun b => ok b ∨ base ≤ b) w l v := by
  obtain ⟨ow, h⟩ := h
  match l, hl, h with
  | [], hl, ⟨vs, h1, h2, h3⟩ => exact ⟨vs, h1, h2, fun j d hj => by simp at hj⟩
  | [x], hl, h => exact (RepR.plain (hl x (by simp)) h).mono fun b hb => hb.1
  | x :: y :: r, hl, ⟨vs, h1, h2, h3⟩ => exact ⟨vs, h1, h2, fun j d hj => let ⟨u, hu, hq⟩ := h3 j d hj; ⟨u, hu, (RepR.plain (hl d (List.mem_of_getElem? hj)) hq).mono fun b hb => hb.1⟩⟩

section
variable {P : Program} {o : Oper} {ks : List Nat} {S : St} {K : Option SV → St → Option IR} {As : List (List DV → Prop)} {ρ : List DV} {Q : List AV → Prop} {ir : IR}

theorem svOf_rep {ρ : List DV} {β : Bm} {ok : Nat → Prop} {w : World} {shp : List Shp} {res : List AV} {n : Nat} {v : Value} (hf : fitAll shp res = true) (hρ : ∀ (i : Nat) (d : DV), (flatAll res)[i]? = some d → ρ[n + i]? = some d)
    (hv : RepRes0 ok w res v) : SVRep ρ β ok w (svOf (resOf shp n)) v := by
  have hlen := fitAll_len hf
  have hrl := resOf_len shp n
  have key := resOf_rep (β := β) (ok := ok) (w := w) hf hρ
  unfold RepRes0 at hv
  split at hv
  · rename_i r
    have : ∃ x, resOf shp n = [x] := by
      rw [hlen] at hrl
      match hh : resOf shp n, hrl with
      | [x], _ => exact ⟨x, rfl⟩
    obtain ⟨x, hx⟩ := this
    rw [hx]
    exact key 0 x r v (by rw [hx]; rfl) rfl hv
  · rename_i hne
    obtain ⟨vs, hvt, hsz, hc⟩ := hv
    have : svOf (resOf shp n) = .tup (resOf shp n) := by
      unfold svOf
      split
      · rename_i x hx
        exfalso
        rw [hx] at hrl
        rw [hlen] at hrl
        obtain ⟨r, hr⟩ := List.length_eq_one_iff.1 hrl.symm
        exact hne r hr
      · rfl
    rw [this]
    refine ⟨vs, hvt, by rw [hsz, hrl, hlen], fun j x hj => ?_⟩
    have hjl : j < res.length := by rw [← hlen, ← hrl]; exact (List.getElem?_eq_some_iff.1 hj).1
    obtain ⟨u, hu, hr⟩ := hc j (res[j]) (by simp)
    exact ⟨u, hu, key j x _ u hj (by simp) hr⟩

theorem op_call {c : Call} {x : Operand} (ho : o.op = .call c) (hcal : c.callee = .value x) (hks : ∀ k ∈ namedOf S o.op, k ∈ ks) (h : symOp P o 0 S.nb S K = some ir) (hw : IRwp P As ρ ir Q) (hl : ρ.length = S.nv) (hid : S.bl S.nb = none) : OpOut P o S.nb S ks K As ρ Q := by
  obtain ⟨callee, args, argTypes⟩ := c
  simp only at hcal
  subst hcal
  have hmx : x ∈ o.op.operands := by simp [ho, Op.operands, Call.operands]
  have hma : ∀ y ∈ args, y ∈ o.op.operands := fun y hy => by simp [ho, Op.operands, Call.operands, hy]
  unfold symOp at h
  simp only [ho] at h
  split at h
  · rename_i f caps hx
    split at h
    · rename_i fn hfn
      split at h
      · rename_i gs S1 hgs
        split at h
        · rename_i hlt
          obtain ⟨eS, uS, nS, lS⟩ := argsOf_facts hgs
          have hnv : S1.nv = S.nv := by rw [eS]
          have hcapk : ∀ k ∈ caps, k ∈ ks := fun k hk => hks k (by
            refine List.mem_append.2 (.inr ?_)
            simp only [ho, capsOf, hx]; exact hk)
          have hfb : ∀ k ∈ (args.toList.map S.ev ++ capSVs caps).flatMap SV.blocks, k ∈ ks := fun k hk => by
            rw [List.flatMap_append, List.mem_append] at hk
            rcases hk with hk | hk
            · obtain ⟨v, hv, hkv⟩ := List.mem_flatMap.1 hk
              obtain ⟨y, hy, rfl⟩ := List.mem_map.1 hv
              exact hks k (named_mem (hma y (by simpa using hy)) hkv)
            · obtain ⟨v, hv, hkv⟩ := List.mem_flatMap.1 hk
              simp only [capSVs] at hv
              obtain ⟨y, hy, rfl⟩ := List.mem_map.1 hv
              simp only [SV.blocks, Px.S1.cells, List.flatMap_cons, C.blocks, List.flatMap_nil, List.append_nil, List.mem_singleton] at hkv
              subst hkv
              exact hcapk _ hy
          -- up to the callee's door
          have enter : ∀ {res : List AV}, PureCalls P f (gs.map (Arg.ev ρ)) res → ∀ (ρf : List DV), Ext ρ ρf → ∀ (w0 : World) (ok0 : Nat → Prop) (fs : List (Array Value)) (stk : List Frm) (β : Bm) (nt : Nat) (tm : Nat → Option SV) (bl : Nat → Option Blk) (a : Act) (w : World),
              RM w0 ok0 fs stk ρf β nt tm bl a w → (∀ x ∈ o.op.operands, evT tm x = S.ev x) → (∀ k ∈ ks, bl k = S.bl k) → ∀ (K' : Act → World → Prop) (Q' : Exit → Act → World → Prop),
              RM w0 ok0 fs stk ρf β nt tm (patch bl S1.bl ((args.toList.map S.ev ++ capSVs caps).flatMap SV.blocks)) a w ∧
              ((∀ v w', RepRes w.heap.size (okS w0 ok0 (patch bl S1.bl ((args.toList.map S.ev ++ capSVs caps).flatMap SV.blocks)) β) w' res v → Below w.heap.size w w' → K' (a.put o.dst v) w') → o.wp P a w K' Q') := by
            intro res hpc ρf hE w0 ok0 fs stk β nt tm bl a w H hag hb K' Q'
            obtain ⟨capv, hfv, hcs, hcap⟩ := H.one (x := x) (by rw [hag x hmx]; exact hx)
            -- the arguments' values
            have hvals : ∀ (j : Nat) (v : SV), (args.toList.map S.ev ++ capSVs caps)[j]? = some (some v) → SVRep ρf β (okS w0 ok0 bl β) w v ((args.map a.eval ++ capv).getD j undef) := by
              intro j v hj
              by_cases hja : j < args.size
              · rw [List.getElem?_append_left (by simpa using hja), List.getElem?_map] at hj
                have hj2 : args.toList[j]? = some args[j] := by simp [hja]
                rw [hj2] at hj
                simp only [Option.map_some, Option.some.injEq] at hj
                have : (args.map a.eval ++ capv).getD j undef = a.eval args[j] := by
                  rw [Array.getD_eq_getD_getElem?, Array.getElem?_append_left (by simpa using hja)]
                  simp [hja]
                rw [this]
                exact H.eval (by rw [hag _ (hma _ (by simp))]; exact hj)
              · rw [List.getElem?_append_right (by simpa using hja)] at hj
                simp only [capSVs, List.getElem?_map, List.length_map, Array.length_toList] at hj
                cases hk : caps[j - args.size]? with
                | none => rw [hk] at hj; cases hj
                | some k =>
                  rw [hk] at hj
                  simp only [Option.map_some, Option.some.injEq] at hj
                  subst hj
                  obtain ⟨b, hb1, hb2⟩ := hcap _ k hk
                  have : (args.map a.eval ++ capv).getD j undef = .pointer (some ⟨b, 0, none⟩) := by
                    rw [Array.getD_eq_getD_getElem?, Array.getElem?_append_right (by simp; omega)]
                    simp [hb2]
                  rw [this]
                  exact ⟨b, hb1, rfl⟩
            obtain ⟨HM, hmono, harg⟩ := argsOf_sound hgs H (fun k hk => hb k (hfb k hk)) (fun j => (args.map a.eval ++ capv).getD j undef) hvals
            have hrep : RepAVs (okS w0 ok0 (patch bl S1.bl ((args.toList.map S.ev ++ capSVs caps).flatMap SV.blocks)) β) w (gs.map (Arg.ev ρ)) (args.map a.eval ++ capv) := by
              refine ⟨by simp [lS, hcs, capSVs], fun j d hj => ?_⟩
              rw [List.getElem?_map] at hj
              cases hg : gs[j]? with
              | none => rw [hg] at hj; cases hj
              | some g =>
                rw [hg] at hj; simp only [Option.map_some, Option.some.injEq] at hj
                have hjl : j < (args.map a.eval ++ capv).size := by
                  have := (List.getElem?_eq_some_iff.1 hg).1
                  rw [lS] at this; simp [capSVs] at this; simp [hcs]; omega
                refine ⟨(args.map a.eval ++ capv)[j], by simp [hjl], ?_⟩
                have := (harg j g hg).rep hl hE (by rw [← hnv]; exact List.all_eq_true.1 hlt g (List.mem_of_getElem? hg))
                rw [← hj]
                rw [Array.getD_eq_getD_getElem?, Array.getElem?_eq_getElem hjl, Option.getD_some] at this
                exact this
            obtain ⟨⟨fn', hfn', hname, hbody⟩, hcalls⟩ := hpc
            have hrun : (execOp a.eval o).run P w = .ok (.enter f (args.map a.eval ++ capv)) w := by
              simp only [execOp, ho, resolve, hfv, Deferred.ofValue, invoke, callFunc, Sem.run_bind, Sem.run_pure, Result.andThen_ok, program, Sem.run, hfn', Array.empty_append, hname, hbody, Bool.false_eq_true, if_false]
            refine ⟨HM, fun hk => ?_⟩
            unfold Oper.wp
            rw [hrun]
            refine (hcalls w _ _ hrep).mono fun e w' => ?_
            rintro ⟨v, rfl, hres, hbel⟩
            exact hk v w' hres hbel
          have hp2 : ∀ bl : Nat → Option Blk, bl S.nb = none → (∀ k ∈ ks, bl k = S.bl k) → patch bl S1.bl (S.nb :: ks) = patch bl S1.bl ((args.toList.map S.ev ++ capSVs caps).flatMap SV.blocks) := fun bl hbl hb =>
            patch_wide (b0 := S.bl) (fun k hk => by simp [hfb k hk]) (fun k hk => by
              rcases List.mem_cons.1 hk with rfl | hk
              · rw [hbl, hid]
              · exact hb k hk) uS
          split at h
          · split at h
            · rename_i s E r hown hshp
              simp only [Option.map_eq_some_iff] at h
              obtain ⟨ir', hK, rfl⟩ := h
              obtain ⟨res, hpc, hfit, hw'⟩ := hw
              have hrno : ∀ x ∈ r, x.isOwn = false := fun x hx => shps_noOwn (P := P) (fn := fn) x (by rw [hshp]; simp [hx])
              match res, hfit with
              | .own s' E' n cells :: rest, hfit =>
              simp only [fitAll, AV.fits, Bool.and_eq_true, beq_iff_eq] at hfit
              obtain ⟨⟨rfl, rfl⟩, hfit⟩ := hfit
              have hflat : flatAll (AV.own s E n cells :: rest) = .list n cells :: flatAll rest := rfl
              rw [hflat] at hw'
              have hcnt := flat_count hfit
              refine ⟨ρ ++ .list n cells :: flatAll rest, _, ({ S1 with nv := S1.nv + 1 + countAll r } : St).setB S.nb (.own (.var S1.nv) s E), ir', Ext.app _ _, by simp [St.setB, hl, hnv, hcnt]; omega, hK, hw', by rw [eS]; exact ⟨rfl, rfl, rfl, rfl, rfl⟩,
                fun k hk => ?_, ⟨fun ht => by simp [turnsOp, ho] at ht, fun k hk hn0 => by simp only [St.setB, upd, hk, if_false]; exact nS k hn0⟩, ?_⟩
              · have hne : k ≠ S.nb := fun he => hk (by simp [he])
                simp only [St.setB, upd, hne, if_false]
                exact uS k fun hk2 => hk (by simp [hfb k hk2])
              intro ρf hE w0 ok0 fs stk β nt tm bl a w H hag hb hβ hbl K' Q' hk
              obtain ⟨HM, hgo⟩ := enter hpc ρf ((Ext.app _ _).trans hE) w0 ok0 fs stk β nt tm bl a w H hag hb K' Q'
              refine hgo fun v w' hres hbel => ?_
              have hid2 : patch bl S1.bl ((args.toList.map S.ev ++ capSVs caps).flatMap SV.blocks) S.nb = none := by
                unfold patch; split
                · exact nS _ hid
                · exact hbl
              have hp3 : patch bl (({ S1 with nv := S1.nv + 1 + countAll r } : St).setB S.nb (.own (.var S1.nv) s E)).bl (S.nb :: ks) = upd (patch bl S1.bl ((args.toList.map S.ev ++ capSVs caps).flatMap SV.blocks)) S.nb (some (.own (.var S1.nv) s E)) :=
                patch_upd2 (b0 := S.bl) hfb hb uS
              rw [hp3] at hk
              have hx0 : (A.var S1.nv).rd ρf = some (.list n cells) := by
                simp only [A.rd]
                refine hE _ _ ?_
                rw [hnv, ← hl, List.getElem?_append_right (Nat.le_refl _)]; simp
              -- the row and the others
              obtain ⟨ow, hres⟩ := hres
              have main : ∀ (v0 : Value), RepR w.heap.size (okS w0 ok0 (patch bl S1.bl ((args.toList.map S.ev ++ capSVs caps).flatMap SV.blocks)) β) ow w' (.own s E n cells) v0 → ∀ v : Value,
                  (∀ (β' : Bm) (ok' : Nat → Prop), β' S.nb = some v0 → (∀ b, ((okS w0 ok0 (patch bl S1.bl ((args.toList.map S.ev ++ capSVs caps).flatMap SV.blocks)) β b ∨ w.heap.size ≤ b) ∧ ow ≠ some b) → ok' b) →
                    SVRep ρf β' ok' w' (svOf (.one (.own S.nb) :: resOf r (S1.nv + 1))) v) → K' (a.put o.dst v) w' := by
                intro v0 ⟨⟨xs, hown, hxl, hxc⟩, hblk⟩ v hsv
                have hna : v0.oneCell' = true := by
                  obtain ⟨ad, cap, e, _⟩ := ownsR_slice hown
                  rw [e]; rfl
                have hnew : ∀ m, blockOf v0 = some m → w.heap.size ≤ m ∨ (none : Option Nat) = some m := fun m hm => by
                  rcases hown.2 with ⟨rfl, _⟩ | ⟨g, cap, cur, rfl, hbg, _⟩
                  · cases hm
                  · cases hm; exact .inl hbg
                have hgr : w.grownBy w' none := ⟨hbel.os, hbel.tape, hbel.output, hbel.size, fun k hk _ => hbel.block k hk⟩
                have hokn : ∀ b, ((okS w0 ok0 (patch bl S1.bl ((args.toList.map S.ev ++ capSVs caps).flatMap SV.blocks)) β b ∨ w.heap.size ≤ b) ∧ ow ≠ some b) →
                    okS w0 ok0 (upd (dropO (patch bl S1.bl ((args.toList.map S.ev ++ capSVs caps).flatMap SV.blocks)) none) S.nb (some (.own (.var S1.nv) s E))) (upd β S.nb (some v0)) b := by
                  intro b hb
                  refine ⟨?_, fun k blk u hbk hm hu he => ?_⟩
                  · rcases hb.1 with h1 | h1
                    · exact h1.1
                    · exact .inr (Nat.le_trans HM.bel.size h1)
                  · by_cases hki : k = S.nb
                    · rw [hki] at hu
                      simp only [upd, if_true] at hu
                      cases hu
                      exact hb.2 (hblk b he)
                    · simp only [upd, if_neg hki] at hbk hu
                      have hbk' := (dropO_some hbk).1
                      rcases hb.1 with h1 | h1
                      · exact h1.2 k blk u hbk' hm hu he
                      · have := (HM.lt_of_mut hbk' hm hu he).2; omega
                obtain ⟨H2, _⟩ := HM.turn (k0 := none) (row := none) (blk := .own (.var S1.nv) s E) (v := v0) hβ hid2 hgr (fun r hr => by cases hr) hnew hna fun hmono2 _ => by
                  have hown2 : w'.ownsR w0.heap.size E s v0 n xs := by
                    refine ⟨hown.1, ?_⟩
                    rcases hown.2 with h1 | ⟨g, cap, cur, h1, h2, h3⟩
                    · exact .inl h1
                    · exact .inr ⟨g, cap, cur, h1, Nat.le_trans HM.bel.size h2, h3⟩
                  exact ⟨v0, n, cells, by simp [upd], hx0, xs, hown2, hxl, fun j d hj => let ⟨u, hu, hr⟩ := hxc j d hj; ⟨u, hu, hr.mono hokn⟩⟩
                refine hk v _ w' H2 (upd_none β hβ).1 (upd_none β hβ).2 fun s' hs' => ?_
                cases hs'
                exact hsv _ _ (by simp [upd]) hokn
              have hρr : ∀ (i : Nat) (d : DV), (flatAll rest)[i]? = some d → ρf[S1.nv + 1 + i]? = some d := fun i d hd => hE _ _ (by
                rw [hnv, ← hl, List.getElem?_append_right (by omega), show ρ.length + 1 + i - ρ.length = i + 1 by omega]
                simpa using hd)
              have hrest := fit_noOwn hfit hrno
              match rest, hres, hfit, hρr, hrest with
              | [], hres, hfit, hρr, hrest =>
                refine main v hres v fun β' ok' hβ' hok' => ?_
                have : r = [] := List.eq_nil_of_length_eq_zero (by have := fitAll_len hfit; simpa using this)
                subst this
                exact hβ'
              | x1 :: rest, hres, hfit, hρr, hrest =>
                obtain ⟨vs, rfl, hsz, hc⟩ := hres
                obtain ⟨v0, hv0, hr0⟩ := hc 0 _ rfl
                refine main v0 hr0 _ fun β' ok' hβ' hok' => ?_
                have hrl := resOf_len r (S1.nv + 1)
                have hfl := fitAll_len hfit
                have hne : resOf r (S1.nv + 1) ≠ [] := fun he => by rw [he] at hrl; rw [hfl] at hrl; simp at hrl
                have hsv : svOf (.one (.own S.nb) :: resOf r (S1.nv + 1)) = .tup (.one (.own S.nb) :: resOf r (S1.nv + 1)) := by
                  cases hq : resOf r (S1.nv + 1) with
                  | nil => exact absurd hq hne
                  | cons y ys => rfl
                rw [hsv]
                refine ⟨vs, rfl, by simp [hsz, hrl, hfl], fun j x hj => ?_⟩
                cases j with
                | zero =>
                  simp only [List.getElem?_cons_zero, Option.some.injEq] at hj
                  subst hj
                  exact ⟨v0, hv0, hβ'⟩
                | succ j =>
                  simp only [List.getElem?_cons_succ] at hj
                  have hjl : j < (x1 :: rest).length := by rw [← hfl, ← hrl]; exact (List.getElem?_eq_some_iff.1 hj).1
                  obtain ⟨u, hu, hru⟩ := hc (j + 1) ((x1 :: rest)[j]) (by simp)
                  refine ⟨u, hu, resOf_rep (β := β') (ok := ok') (w := w') hfit hρr j x ((x1 :: rest)[j]) u hj (by simp) ?_⟩
                  exact (RepR.plain (hrest _ (List.getElem_mem hjl)) hru).mono hok'
            · cases h
          · simp only [Option.map_eq_some_iff] at h
            obtain ⟨ir', hK, rfl⟩ := h
            obtain ⟨res, hpc, hfit, hw'⟩ := hw
            refine ⟨ρ ++ flatAll res, some (svOf (resOf (shpsOf P fn) S1.nv)), { S1 with nv := S1.nv + countAll (shpsOf P fn) }, ir', Ext.app _ _, by simp [hl, hnv, flat_count hfit], hK, hw', by rw [eS]; exact ⟨rfl, rfl, rfl, rfl, rfl⟩,
              fun k hk => uS k fun hk2 => hk (by simp [hfb k hk2]), ⟨fun ht => by simp [turnsOp, ho] at ht, fun k _ h => nS k h⟩, ?_⟩
            intro ρf hE w0 ok0 fs stk β nt tm bl a w H hag hb hβ hbl K' Q' hk
            obtain ⟨HM, hgo⟩ := enter hpc ρf ((Ext.app _ _).trans hE) w0 ok0 fs stk β nt tm bl a w H hag hb K' Q'
            refine hgo fun v w' hres hbel => ?_
            have HG := HM.grow hbel
            refine hk v β w' (by show RM w0 ok0 fs stk ρf β nt tm (patch bl S1.bl (S.nb :: ks)) a w'; rw [hp2 bl hbl hb]; exact HG) (fun _ _ h => h) (fun _ _ => rfl) fun s hs => ?_
            cases hs
            show SVRep ρf β (okS w0 ok0 (patch bl S1.bl (S.nb :: ks)) β) w' _ v
            rw [hp2 bl hbl hb]
            refine svOf_rep hfit (fun i d hd => hE _ _ ?_) (?_ : RepRes0 _ w' res v)
            · rw [hnv, ← hl, List.getElem?_append_right (by omega)]
              rw [show ρ.length + i - ρ.length = i by omega]; exact hd
            · -- what the result is read by: blocks that were ok, or new ones
              have hok : ∀ b, (okS w0 ok0 (patch bl S1.bl ((args.toList.map S.ev ++ capSVs caps).flatMap SV.blocks)) β b ∨ w.heap.size ≤ b) → okS w0 ok0 (patch bl S1.bl ((args.toList.map S.ev ++ capSVs caps).flatMap SV.blocks)) β b := by
                intro b hb
                rcases hb with hb | hb
                · exact hb
                · exact ⟨.inr (Nat.le_trans HM.bel.size hb), fun k blk u hbk hm hu he => by have := (HM.lt_of_mut hbk hm hu he).2; omega⟩
              exact (hres.plain (fit_noOwn hfit shps_noOwn)).mono hok
        · cases h
      · cases h
    · cases h
  · cases h

end
end Go.Px

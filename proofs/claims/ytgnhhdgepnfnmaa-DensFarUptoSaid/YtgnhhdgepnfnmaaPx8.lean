/- Px8: one operation, part six: what makes memory, what writes it. -/
import Derived.Test.YtgnhhdgepnfnmaaPx7
set_option linter.unusedSimpArgs false
set_option linter.unusedVariables false
namespace Go.Px
open Go.RowKit

theorem patch_upd {bl b0 : Nat → Option Blk} {id : Nat} {b : Option Blk} {ks : List Nat} (h : ∀ k ∈ ks, bl k = b0 k) : patch bl (upd b0 id b) (id :: ks) = upd bl id b := by
  funext k
  simp only [patch, upd, List.mem_cons]
  by_cases hk : k = id
  · simp [hk]
  · by_cases h2 : k ∈ ks
    · simp [hk, h2, h k h2]
    · simp [hk, h2]

theorem upd_none (β : Bm) {id : Nat} {v : Value} (hβ : β id = none) : (∀ k u, β k = some u → upd β id (some v) k = some u) ∧ (∀ k, k ≠ id → upd β id (some v) k = β k) := by
  refine ⟨fun k u hk => ?_, fun k hk => by simp [upd, hk]⟩
  unfold upd; split
  · rename_i he; subst he; rw [hβ] at hk; cases hk
  · exact hk

section
variable {w0 : World} {ok0 : Nat → Prop} {fs : List (Array Value)} {stk : List Frm} {ρ ρ' : List DV} {β : Bm} {nt : Nat} {tm : Nat → Option SV} {bl : Nat → Option Blk} {a : Act} {w : World} {ok : Nat → Prop}

theorem RM.new_own (H : RM w0 ok0 fs stk ρ β nt tm bl a w) {id : Nat} (hβ : β id = none) (hid : bl id = none) {x : A} {n cap s : Nat} {E : TypeId} {cells : List DV} {arr : Array Value} (hx : x.rd ρ = some (.list n cells)) (hn : n ≤ cap) (hm : cap ≤ maxLen)
    (hl : cells.length = n * s) (hs : arr.size = cap * s) (hc : ∀ (j : Nat) (d : DV), cells[j]? = some d → ∃ u, arr[j]? = some u ∧ Reads (okS w0 ok0 bl β) w d u) :
    RM w0 ok0 fs stk ρ (upd β id (some (.slice (some ⟨w.heap.size, 0, none⟩) n cap))) nt tm (upd bl id (some (.own x s E))) a (w.alloc (.cells arr E)) := by
  refine (H.turn (k0 := none) (row := none) hβ hid (World.grownBy_alloc w _ none) (fun r hr => by cases hr) (fun m hm => by cases hm; exact .inl (Nat.le_refl _)) rfl fun hmono _ => ?_).1
  have hle : n * s ≤ arr.size := by rw [hs]; exact Nat.mul_le_mul_right _ hn
  refine ⟨_, n, cells, by simp [upd], hx, arr.toList.take (n * s), ⟨by simp; omega, .inr ⟨w.heap.size, cap, arr, rfl, H.bel.size, heap_alloc_new w _, hn, hm, Nat.le_of_eq hs.symm, rfl⟩⟩, by simp; omega, fun j d hj => ?_⟩
  obtain ⟨u, hu, hr⟩ := hc j d hj
  have hjl := (List.getElem?_eq_some_iff.1 hj).1
  exact ⟨u, by rw [List.getElem?_take, if_pos (by omega)]; simpa using hu, hr.imp hmono⟩

theorem okS_new (H : RM w0 ok0 fs stk ρ β nt tm bl a w) : okS w0 ok0 bl β w.heap.size :=
  ⟨.inr H.bel.size, fun k blk v hb hm hv he => by have := (H.lt_of_mut hb hm hv he).2; omega⟩

theorem below_alloc' (w : World) (o : Obj) : Below w.heap.size w (w.alloc o) := (Below.refl _ _).alloc (Nat.le_refl _) o

/-- A new row that is only read. -/
theorem reads_new (H : RM w0 ok0 fs stk ρ β nt tm bl a w) {n cap : Nat} {E : TypeId} {cells : List DV} {arr : Array Value} (hn : n ≤ cap) (hl : cells.length ≤ arr.size)
    (hc : ∀ (j : Nat) (d : DV), cells[j]? = some d → ∃ u, arr[j]? = some u ∧ Reads (okS w0 ok0 bl β) w d u) :
    Reads (okS w0 ok0 bl β) (w.alloc (.cells arr E)) (.list n cells) (.slice (some ⟨w.heap.size, 0, none⟩) n cap) := by
  refine .list n cells _ cap (fun j => arr.getD j undef) hn (fun _ => ⟨_, rfl, okS_new H, fun j hj => ?_⟩) (fun j d hj => ?_)
  · rw [Addr_plain, World.cell?_alloc_new]
    have : j < arr.size := by omega
    simp [Array.getD_eq_getD_getElem?, this]
  · obtain ⟨u, hu, hr⟩ := hc j d hj
    have : arr.getD j undef = u := by simp [Array.getD_eq_getD_getElem?, hu]
    simp only [this]
    exact hr.imp fun b o hb ho => ⟨hb, by rw [(below_alloc' w _).block b (Array.getElem?_eq_some_iff.1 ho).1]; exact ho⟩

end

section
variable {P : Program} {o : Oper} {ks : List Nat} {S : St} {K : Option SV → St → Option IR} {As : List (List DV → Prop)} {ρ : List DV} {Q : List AV → Prop} {ir : IR}

theorem op_newbox {T : TypeId} {cs : List C} (h : K (some (.s (.one (.lp S.nb 0)))) (S.setB S.nb (.box cs T false)) = some ir) (hw : IRwp P As ρ ir Q) (hl : ρ.length = S.nv)
    (run : ∀ (ρf : List DV), Ext ρ ρf → ∀ (w0 : World) (ok0 : Nat → Prop) (fs : List (Array Value)) (stk : List Frm) (β : Bm) (nt : Nat) (tm : Nat → Option SV) (bl : Nat → Option Blk) (a : Act) (w : World),
      RM w0 ok0 fs stk ρf β nt tm bl a w → (∀ x ∈ o.op.operands, evT tm x = S.ev x) → ∃ arr, (execOp a.eval o).run P w = .ok (.value (.pointer (some ⟨w.heap.size, 0, none⟩))) (w.alloc (.cells arr T)) ∧ CsRep ρf β (okS w0 ok0 bl β) w cs arr) :
    OpOut P o S.nb S ks K As ρ Q := by
  refine ⟨ρ, _, S.setB S.nb (.box cs T false), ir, Ext.refl _, hl, h, hw, ⟨rfl, rfl, rfl, rfl, rfl⟩, fun k hk => ?_, ⟨fun _ k hk => by simp [St.setB, upd, hk], fun k hk h => by simp [St.setB, upd, hk, h]⟩, ?_⟩
  · have : k ≠ S.nb := fun he => hk (by simp [he])
    simp [St.setB, upd, this]
  intro ρf hE w0 ok0 fs stk β nt tm bl a w H hag hb hβ hbl K' Q' hk
  obtain ⟨arr, hr, hc⟩ := run ρf hE w0 ok0 fs stk β nt tm bl a w H hag
  have hp : patch bl (S.setB S.nb (.box cs T false)).bl (S.nb :: ks) = upd bl S.nb (some (.box cs T false)) := patch_upd hb
  refine wp_value hr (hk _ _ _ (by rw [hp]; exact H.new_box hβ hbl T hc) (upd_none β hβ).1 (upd_none β hβ).2 fun s hs => ?_)
  cases hs
  exact ⟨w.heap.size, by simp [upd], rfl⟩

theorem op_alloc {T : TypeId} (ho : o.op = .alloc T) (h : symOp P o 0 S.nb S K = some ir) (hw : IRwp P As ρ ir Q) (hl : ρ.length = S.nv) : OpOut P o S.nb S ks K As ρ Q := by
  unfold symOp at h
  simp only [ho] at h
  split at h
  · rename_i cs hz
    obtain ⟨ti, z, h1, h2, h3⟩ := zerosOf_some hz
    refine op_newbox h hw hl fun ρf hE w0 ok0 fs stk β nt tm bl a w H hag => ⟨z.cells, ?_, cellsOfVal_rep h3⟩
    simp only [execOp, ho, Instr.alloc, Sem.run_bind, run_zeroValue h1 h2, Result.andThen_ok, newVar, newRow, newObj, Sem.run, Sem.run_pure]
    rfl
  · cases h

theorem op_box {T : TypeId} {x : Operand} (ho : o.op = .box T x) (h : symOp P o 0 S.nb S K = some ir) (hw : IRwp P As ρ ir Q) (hl : ρ.length = S.nv) : OpOut P o S.nb S ks K As ρ Q := by
  have hm : x ∈ o.op.operands := by simp [ho, Op.operands]
  unfold symOp at h
  simp only [ho] at h
  split at h
  · rename_i v hx
    refine op_newbox h hw hl fun ρf hE w0 ok0 fs stk β nt tm bl a w H hag => ⟨(a.eval x).cells, ?_, ?_⟩
    · simp only [execOp, ho, Instr.box, Sem.run_bind, Result.andThen_ok, newVar, newRow, newObj, Sem.run, Sem.run_pure]
      rfl
    · have hv : S1Rep ρf β (okS w0 ok0 bl β) w v (a.eval x) := H.eval (x := x) (sv := .s v) (by rw [hag x hm]; exact hx)
      exact hv.cells (fun k v h => notAgg_of_one (H.na k v h))
  · cases h

theorem toA_facts {S S1 : St} {c : C} {x : A} (h : S.toA c = some (x, S1)) : S1 = { S with bl := S1.bl } ∧ (∀ k, k ∉ c.blocks → S1.bl k = S.bl k) ∧ (∀ k, S.bl k = none → S1.bl k = none) := by
  cases c <;> simp only [St.toA] at h
  case own k =>
    split at h
    · rename_i y s E hk
      cases h
      refine ⟨rfl, fun j hj => by simp only [C.blocks, List.mem_singleton] at hj; simp [St.setB, upd, hj], fun j hj => ?_⟩
      have : j ≠ k := fun he => by rw [he, hk] at hj; cases hj
      simp [St.setB, upd, this, hj]
    · cases h; exact ⟨rfl, fun _ _ => rfl, fun _ h => h⟩
    · cases h
  all_goals first | (cases h; done) | (cases h; exact ⟨rfl, fun _ _ => rfl, fun _ h => h⟩)

theorem toAs_facts : ∀ {cs : List C} {S S1 : St} {l : List A}, S.toAs cs = some (l, S1) → S1 = { S with bl := S1.bl } ∧ (∀ k, k ∉ cs.flatMap C.blocks → S1.bl k = S.bl k) ∧ (∀ k, S.bl k = none → S1.bl k = none) ∧ l.length = cs.length
  | [], S, S1, l, h => by
    simp only [St.toAs] at h; cases h
    exact ⟨rfl, fun _ _ => rfl, fun _ h => h, rfl⟩
  | c :: r, S, S1, l, h => by
    simp only [St.toAs, Option.bind_eq_bind, Option.bind_eq_some_iff, Option.pure_def] at h
    obtain ⟨⟨x, S'⟩, hx, ⟨l', S''⟩, hl', hh⟩ := h
    cases hh
    obtain ⟨e1, u1, n1⟩ := toA_facts hx
    obtain ⟨e2, u2, n2, m2⟩ := toAs_facts hl'
    refine ⟨by rw [e2, e1], fun k hk => ?_, fun k hk => n2 k (n1 k hk), by simp [m2]⟩
    simp only [List.flatMap_cons, List.mem_append, not_or] at hk
    rw [u2 k hk.2, u1 k hk.1]

theorem ofVal_blocks {v : Value} {c : C} (h : C.ofVal v = some c) : c.blocks = [] := by
  unfold C.ofVal at h
  split at h <;> first | (cases h; done) | (cases h; rfl)

theorem zeros_blocks {t : TypeId} {cs : List C} (h : zerosOf P t = some cs) : ∀ c ∈ cs, c.blocks = [] := by
  obtain ⟨ti, z, _, _, h3⟩ := zerosOf_some h
  intro c hc
  obtain ⟨j, hj⟩ := List.mem_iff_getElem?.1 hc
  obtain ⟨x, _, hx⟩ := mapM_back _ h3 hj
  exact ofVal_blocks hx

theorem fillC_mem {place : Nat → Option (Nat × Nat)} : ∀ {l : List (Nat × S1)} {cells cs : List C}, fillC place cells l = some cs → ∀ c ∈ cs, c ∈ cells ∨ ∃ p ∈ l, c ∈ p.2.cells
  | [], cells, cs, h, c, hc => by simp only [fillC] at h; cases h; exact .inl hc
  | (i, v) :: r, cells, cs, h, c, hc => by
    simp only [fillC] at h
    split at h
    · cases h
    · split at h
      · cases h
      · rcases fillC_mem h c hc with h1 | ⟨p, hp, h1⟩
        · simp only [List.mem_append] at h1
          rcases h1 with (h1 | h1) | h1
          · exact .inl (List.mem_of_mem_take h1)
          · exact .inr ⟨(i, v), by simp, h1⟩
          · exact .inl (List.mem_of_mem_drop h1)
        · exact .inr ⟨p, by simp [hp], h1⟩

theorem fillC_len {place : Nat → Option (Nat × Nat)} : ∀ {l : List (Nat × S1)} {cells cs : List C}, fillC place cells l = some cs → cs.length = cells.length
  | [], cells, cs, h => by simp only [fillC] at h; cases h; rfl
  | (i, v) :: r, cells, cs, h => by
    simp only [fillC] at h
    split at h
    · cases h
    · split at h
      · cases h
      · rename_i hc
        simp only [not_or, Nat.not_lt, Decidable.not_not, gt_iff_lt] at hc
        rw [fillC_len h]; simp; omega

theorem parts_mem {S : St} : ∀ {ps : List (Nat × Operand)} {l : List (Nat × S1)}, S.parts ps = some l → ∀ p ∈ l, ∃ q ∈ ps, S.ev q.2 = some (.s p.2)
  | [], l, h, p, hp => by simp only [St.parts] at h; cases h; cases hp
  | (i, x) :: r, l, h, p, hp => by
    simp only [St.parts] at h
    split at h
    · rename_i v l' hx hl'
      cases h
      rcases List.mem_cons.1 hp with rfl | hp
      · exact ⟨(i, x), by simp, hx⟩
      · obtain ⟨q, hq, he⟩ := parts_mem hl' p hp
        exact ⟨q, by simp [hq], he⟩
    · cases h

theorem patch_upd2 {bl b0 b1 : Nat → Option Blk} {id : Nat} {b : Option Blk} {ks fb : List Nat} (hsub : ∀ k ∈ fb, k ∈ ks) (h0 : ∀ k ∈ ks, bl k = b0 k) (h1 : ∀ k, k ∉ fb → b1 k = b0 k) :
    patch bl (upd b1 id b) (id :: ks) = upd (patch bl b1 fb) id b := by
  funext k
  simp only [patch, upd, List.mem_cons]
  by_cases hk : k = id
  · simp [hk]
  · by_cases hf : k ∈ fb
    · simp [hk, hf, hsub k hf]
    · by_cases h2 : k ∈ ks
      · simp [hk, hf, h2, h1 k hf, h0 k h2]
      · simp [hk, hf, h2]

theorem op_buildSlice {t : TypeId} {len : Nat} {ps : Array (Nat × Operand)} {asArg : Nat} (ho : o.op = .buildSlice t len ps) (hks : ∀ k ∈ namedOf S o.op, k ∈ ks) (h : symOp P o asArg S.nb S K = some ir) (hw : IRwp P As ρ ir Q) (hl : ρ.length = S.nv) (hid : S.bl S.nb = none) :
    OpOut P o S.nb S ks K As ρ Q := by
  have hmem : ∀ p ∈ ps.toList, p.2 ∈ o.op.operands := fun p hp => by
    simp only [ho, Op.operands, List.mem_toArray, List.mem_map]
    exact ⟨p, hp, rfl⟩
  have hparts : ∀ (a : Act), (ps.map fun (i, x) => (i, a.eval x)).toList = ps.toList.map fun p => (p.1, a.eval p.2) := fun a => by simp
  unfold symOp at h
  simp only [ho] at h
  split at h
  · rename_i e hu
    split at h
    · rename_i ti zs l hti hz hp
      split at h
      · cases h
      · rename_i hcond
        simp only [not_or, Decidable.not_not, Nat.not_lt, gt_iff_lt] at hcond
        obtain ⟨ti', z, h1, h2, h3⟩ := zerosOf_some hz
        rw [hti] at h1; cases h1
        split at h
        · rename_i cs hf
          split at h
          · rename_i as S1 has
            obtain ⟨eS, uS, nS, lS⟩ := toAs_facts has
            have hnv : S1.nv = S.nv := by rw [eS]
            obtain ⟨d, ir', hlt, hd, hK, hw', hE', hl', hz'⟩ := emit_sound h hw (by rw [hnv]; exact hl)
            have hfb : ∀ k ∈ cs.flatMap C.blocks, k ∈ ks := fun k hk => by
              obtain ⟨c, hc, hkc⟩ := List.mem_flatMap.1 hk
              rcases fillC_mem hf c hc with h4 | ⟨p, hp', h4⟩
              · rw [List.mem_map] at h4
                obtain ⟨j, _, rfl⟩ := h4
                have : (zs.getD (j % zs.length) C.unk).blocks = [] := by
                  rw [List.getD_eq_getElem?_getD]
                  cases hg : zs[j % zs.length]? with
                  | none => rfl
                  | some c => exact zeros_blocks hz c (List.mem_of_getElem? hg)
                rw [this] at hkc; cases hkc
              · obtain ⟨q, hq, he⟩ := parts_mem hp p hp'
                exact hks k (named_mem (hmem q hq) (by rw [he]; exact List.mem_flatMap.2 ⟨c, h4, hkc⟩))
            have hden : d = .list len (as.map (A.ev ρ)) := by
              simp only [Prim.den] at hd; exact (Option.some.inj hd).symm
            subst hden
            have hlen0 : as.length = len * ti.size := by rw [lS, fillC_len hf]; simp
            have common : ∀ (ρf : List DV), Ext (ρ ++ [.list len (as.map (A.ev ρ))]) ρf → ∀ (w0 : World) (ok0 : Nat → Prop) (fs : List (Array Value)) (stk : List Frm) (β : Bm) (nt : Nat) (tm : Nat → Option SV) (bl : Nat → Option Blk) (a : Act) (w : World),
                RM w0 ok0 fs stk ρf β nt tm bl a w → (∀ x ∈ o.op.operands, evT tm x = S.ev x) → (∀ k ∈ ks, bl k = S.bl k) →
                ∃ arr : Array Value, (execOp a.eval o).run P w = .ok (.value (.slice (some ⟨w.heap.size, 0, none⟩) len len)) (w.alloc (.cells arr e)) ∧ arr.size = len * ti.size ∧
                  RM w0 ok0 fs stk ρf β nt tm (patch bl S1.bl (cs.flatMap C.blocks)) a w ∧
                  ∀ (j : Nat) (d : DV), (as.map (A.ev ρ))[j]? = some d → ∃ u, arr[j]? = some u ∧ Reads (okS w0 ok0 (patch bl S1.bl (cs.flatMap C.blocks)) β) w d u := by
              intro ρf hE w0 ok0 fs stk β nt tm bl a w H hag hb
              have hzc := cellsOfVal_rep (ρ := ρf) (β := β) (ok := okS w0 ok0 bl β) (w := w) h3
              have hz0 : CsRep ρf β (okS w0 ok0 bl β) w ((List.range (len * ti.size)).map fun j => zs.getD (j % zs.length) .unk)
                  ((Array.range (len * ti.size)).map fun j => (if len * ti.size = 0 then #[] else z.cells)[j % (if len * ti.size = 0 then #[] else z.cells).size]!) := by
                refine ⟨by simp, fun j c hj => ?_⟩
                rw [List.getElem?_map] at hj
                by_cases hjl : j < len * ti.size
                · rw [List.getElem?_range hjl] at hj
                  simp only [Option.map_some, Option.some.injEq] at hj
                  have hne : ¬ (len * ti.size = 0) := by omega
                  have hmod : j % zs.length < zs.length := Nat.mod_lt _ (by omega)
                  obtain ⟨u, hu, hr⟩ := hzc.2 (j % zs.length) (zs[j % zs.length]'hmod) (List.getElem?_eq_getElem hmod)
                  refine ⟨u, ?_, ?_⟩
                  · simp only [hne, if_false, Array.getElem?_map, hzc.1]
                    rw [Array.getElem?_range]
                    simp only [hjl, if_true, Option.map_some, Option.some.injEq]
                    rw [getElem!_def, hu]
                  · rw [← hj]
                    have : zs.getD (j % zs.length) .unk = zs[j % zs.length]'hmod := by simp [List.getD_eq_getElem?_getD, hmod]
                    rw [this]; exact hr
                · rw [List.getElem?_eq_none (by simpa using hjl)] at hj; cases hj
              obtain ⟨arr, ha, hr⟩ := fill_sound H (fun i => some (i * ti.size, ti.size)) ps.toList l _ cs _ hp hf hz0 (fun p hp => hag _ (hmem p hp))
              obtain ⟨_, _, _, f4⟩ := toAs_sound (w0 := w0) (ok0 := ok0) (fs := fs) (stk := stk) (ρ := ρf) (β := β) (nt := nt) (tm := tm) (a := a) (w := w) has
              obtain ⟨g1, g2, g3⟩ := f4 (bl := bl) H (fun k hk => hb k (hfb k hk)) (fun j => arr.getD j undef) (fun j c hj => by
                obtain ⟨u, hu, hq⟩ := hr.2 j c hj
                simpa [Array.getD_eq_getD_getElem?, hu] using hq)
              refine ⟨arr, ?_, by rw [hr.1, fillC_len hf]; simp, g1, fun j d hj => ?_⟩
              · have hn24 : ¬ (len * ti.size > 2 ^ 24) := by omega
                simp only [execOp, ho, Instr.buildSlice, Sem.run_bind, run_underlying hu, Result.andThen_ok, sizeOf, typeInfo, program, Sem.run, hti, Sem.run_pure]
                by_cases h0 : len * ti.size = 0
                · have e0 : ∀ f : Nat → Value, Array.map f (Array.range 0) = #[] := fun f => by simp [Array.range]
                  simp only [h0, e0] at ha hn24 ⊢
                  simp only [if_false, if_true, Sem.run_pure, Sem.run_bind, Result.andThen_ok, hn24, hparts, newRow, newObj, Sem.run, e0] at ha ⊢
                  simp [ha, newRow, newObj, Sem.run]
                · simp only [h0, if_false] at ha ⊢
                  simp [hn24, hparts, run_zeroValue hti h2, ha, newRow, newObj, Sem.run, h0]
              · rw [List.getElem?_map] at hj
                cases hx : as[j]? with
                | none => rw [hx] at hj; cases hj
                | some x =>
                  rw [hx] at hj
                  simp only [Option.map_some, Option.some.injEq] at hj
                  obtain ⟨dd, hdd, hrd⟩ := g3 j x hx
                  have hjl : j < arr.size := by
                    rw [hr.1, ← lS]; exact (List.getElem?_eq_some_iff.1 hx).1
                  have hxl : x.lt S.nv = true := by
                    rw [← hnv]; exact List.all_eq_true.1 hlt x (List.mem_of_getElem? hx)
                  have := ev_of_ext hxl hl (hE'.trans hE) hdd
                  refine ⟨arr[j], by simp [hjl], ?_⟩
                  rw [← hj, this]
                  simpa [Array.getD_eq_getD_getElem?, hjl] using hrd
            have hS1 : Same S S1 := by rw [eS]; exact ⟨rfl, rfl, rfl, rfl, rfl⟩
            split at hK
            · refine ⟨_, _, { S1 with nv := S1.nv + 1 }, ir', hE', hl', hK, hw', by rw [eS]; exact ⟨rfl, rfl, rfl, rfl, rfl⟩, fun k hk => uS k fun hk2 => hk (by simp [hfb k hk2]), ⟨fun ht => by simp [turnsOp, ho] at ht, fun k _ h => nS k h⟩, ?_⟩
              intro ρf hE w0 ok0 fs stk β nt tm bl a w H hag hb hβ hbl K' Q' hk
              obtain ⟨arr, hrun, hsz, HM, hc⟩ := common ρf hE w0 ok0 fs stk β nt tm bl a w H hag hb
              have hp2 : patch bl S1.bl (S.nb :: ks) = patch bl S1.bl (cs.flatMap C.blocks) := patch_wide (b0 := S.bl) (fun k hk => by simp [hfb k hk]) (fun k hk => by
                rcases List.mem_cons.1 hk with rfl | hk
                · rw [hbl, hid]
                · exact hb k hk) uS
              refine wp_value hrun (hk _ β _ (by show RM w0 ok0 fs stk ρf β nt tm (patch bl S1.bl (S.nb :: ks)) a _; rw [hp2]; exact HM.grow (below_alloc' w _)) (fun _ _ h => h) (fun _ _ => rfl) fun s hs => ?_)
              cases hs
              refine ⟨_, A.rd_ext hE hz', ?_, _, _, rfl⟩
              show Reads (okS w0 ok0 (patch bl S1.bl (S.nb :: ks)) β) _ _ _
              rw [hp2]
              exact reads_new HM (Nat.le_refl _) (by rw [hsz]; simp [hlen0]) hc
            · refine ⟨_, _, ({ S1 with nv := S1.nv + 1 } : St).setB S.nb (.own (.var S1.nv) ti.size e), ir', hE', hl', hK, hw', by rw [eS]; exact ⟨rfl, rfl, rfl, rfl, rfl⟩, fun k hk => ?_, ⟨fun ht => by simp [turnsOp, ho] at ht, fun k hk h => by simp only [St.setB, upd, hk, if_false]; exact nS k h⟩, ?_⟩
              · have hne : k ≠ S.nb := fun he => hk (by simp [he])
                simp only [St.setB, upd, hne, if_false]
                exact uS k fun hk2 => hk (by simp [hfb k hk2])
              intro ρf hE w0 ok0 fs stk β nt tm bl a w H hag hb hβ hbl K' Q' hk
              obtain ⟨arr, hrun, hsz, HM, hc⟩ := common ρf hE w0 ok0 fs stk β nt tm bl a w H hag hb
              have hp2 : patch bl (({ S1 with nv := S1.nv + 1 } : St).setB S.nb (.own (.var S1.nv) ti.size e)).bl (S.nb :: ks) = upd (patch bl S1.bl (cs.flatMap C.blocks)) S.nb (some (.own (.var S1.nv) ti.size e)) :=
                patch_upd2 (b0 := S.bl) hfb hb uS
              have hid2 : patch bl S1.bl (cs.flatMap C.blocks) S.nb = none := by
                unfold patch; split
                · exact nS _ hid
                · exact hbl
              have hmax : len ≤ maxLen := by
                have : len ≤ len * ti.size := Nat.le_mul_of_pos_right _ (by omega)
                unfold maxLen; omega
              refine wp_value hrun (hk _ _ _ (by rw [hp2]; exact HM.new_own hβ hid2 (A.rd_ext hE hz') (Nat.le_refl _) hmax (by simp [hlen0]) hsz hc) (upd_none β hβ).1 (upd_none β hβ).2 fun s hs => ?_)
              cases hs
              simp [SVRep, S1Rep, CRep, upd]
          · cases h
        · cases h
    · cases h
  · cases h

end
end Go.Px

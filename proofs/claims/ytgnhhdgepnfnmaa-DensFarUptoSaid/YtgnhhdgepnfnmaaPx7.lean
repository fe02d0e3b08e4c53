/- Px7: one operation, part five: structs and slices built, variables made, stores. -/
import Derived.Test.YtgnhhdgepnfnmaaPx6
set_option linter.unusedSimpArgs false
set_option linter.unusedVariables false
namespace Go.Px
open Go.RowKit

theorem setAll_get (off : Nat) : ∀ (l : List Value) (n : Nat) (arr : Array Value) (j : Nat),
    ((l.zipIdx n).foldl (fun cs p => cs.setIfInBounds (off + p.2) p.1) arr)[j]? = if off + n ≤ j ∧ j < off + n + l.length ∧ j < arr.size then l[j - (off + n)]? else arr[j]?
  | [], n, arr, j => by
    simp only [List.zipIdx_nil, List.foldl_nil, List.length_nil, Nat.add_zero]
    rw [if_neg (by omega)]
  | v :: l, n, arr, j => by
    simp only [List.zipIdx_cons, List.foldl_cons]
    rw [setAll_get off l (n + 1) (arr.setIfInBounds (off + n) v) j]
    simp only [Array.size_setIfInBounds, List.length_cons]
    by_cases h : off + n = j
    · subst h
      rw [if_neg (by omega)]
      by_cases hs : off + n < arr.size
      · rw [if_pos (by omega)]
        simp [hs]
      · rw [if_neg (by omega)]
        simp [hs]
    · rw [Array.getElem?_setIfInBounds_ne h]
      by_cases h2 : off + (n + 1) ≤ j ∧ j < off + (n + 1) + l.length ∧ j < arr.size
      · rw [if_pos h2, if_pos (by omega)]
        have : j - (off + n) = (j - (off + (n + 1))) + 1 := by omega
        rw [this, List.getElem?_cons_succ]
      · rw [if_neg h2, if_neg (by omega)]

theorem setAll_size (off : Nat) : ∀ (l : List Value) (n : Nat) (arr : Array Value), ((l.zipIdx n).foldl (fun cs p => cs.setIfInBounds (off + p.2) p.1) arr).size = arr.size
  | [], _, _ => rfl
  | v :: l, n, arr => by
    simp only [List.zipIdx_cons, List.foldl_cons]
    rw [setAll_size off l (n + 1)]; simp

theorem setAll_arr (off : Nat) (vs arr : Array Value) : (vs.zipIdx.foldl (fun cs (c, j) => cs.setIfInBounds (off + j) c) arr) = (vs.toList.zipIdx 0).foldl (fun cs p => cs.setIfInBounds (off + p.2) p.1) arr := by
  rw [← Array.foldl_toList]
  simp

section
variable {w0 : World} {ok0 : Nat → Prop} {fs : List (Array Value)} {stk : List Frm} {ρ ρ' : List DV} {β : Bm} {nt : Nat} {tm : Nat → Option SV} {bl : Nat → Option Blk} {a : Act} {w : World} {ok : Nat → Prop}

theorem cells_one {v : Value} (h : v.notAgg) : v.cells = #[v] := by
  cases v <;> first | rfl | exact absurd rfl (h _)

theorem S1Rep.cells {x : S1} {v : Value} (h : S1Rep ρ β ok w x v) (hβ : ∀ k v, β k = some v → v.notAgg) : CsRep ρ β ok w x.cells v.cells := by
  cases x with
  | one c =>
    rw [cells_one (CRep.notAgg h hβ)]
    refine ⟨rfl, fun j c' hj => ?_⟩
    cases j with
    | zero => simp [S1.cells] at hj; subst hj; exact ⟨v, rfl, h⟩
    | succ j => simp [S1.cells] at hj
  | agg cs =>
    obtain ⟨vs, rfl, hr⟩ := h
    exact hr

theorem splice_get {α : Type} {l m : List α} {off j : Nat} {x : α} (hle : off + m.length ≤ l.length) (h : (l.take off ++ m ++ l.drop (off + m.length))[j]? = some x) :
    (off ≤ j ∧ j < off + m.length ∧ m[j - off]? = some x) ∨ (¬ (off ≤ j ∧ j < off + m.length) ∧ l[j]? = some x) := by
  by_cases h1 : j < off
  · right
    rw [List.append_assoc, List.getElem?_append_left (by simp; omega), List.getElem?_take] at h
    rw [if_pos h1] at h
    exact ⟨by omega, h⟩
  · by_cases h2 : j < off + m.length
    · left
      rw [List.append_assoc, List.getElem?_append_right (by simp; omega), List.getElem?_append_left (by simp; omega)] at h
      refine ⟨by omega, h2, ?_⟩
      rw [← h]; congr 1; simp; omega
    · right
      rw [List.getElem?_append_right (by simp; omega), List.getElem?_drop] at h
      refine ⟨by omega, ?_⟩
      rw [← h]; congr 1; simp; omega

theorem CsRep.splice {cs ms : List C} {arr vs : Array Value} {off : Nat} (h : CsRep ρ β ok w cs arr) (hm : CsRep ρ β ok w ms vs) (hle : off + ms.length ≤ cs.length) :
    CsRep ρ β ok w (cs.take off ++ ms ++ cs.drop (off + ms.length)) (vs.zipIdx.foldl (fun cs (c, j) => cs.setIfInBounds (off + j) c) arr) := by
  rw [setAll_arr]
  refine ⟨?_, fun j c hj => ?_⟩
  · rw [setAll_size, h.1]; simp; omega
  · rw [setAll_get]
    simp only [Nat.add_zero, Array.length_toList]
    rcases splice_get hle hj with ⟨h1, h2, h3⟩ | ⟨h1, h2⟩
    · obtain ⟨u, hu, hr⟩ := hm.2 _ _ h3
      refine ⟨u, ?_, hr⟩
      rw [if_pos ⟨h1, by rw [hm.1]; exact h2, by rw [h.1]; omega⟩]
      simpa using hu
    · obtain ⟨u, hu, hr⟩ := h.2 _ _ h2
      refine ⟨u, ?_, hr⟩
      rw [if_neg (by rw [hm.1]; omega)]
      exact hu

theorem fill_sound (H : RM w0 ok0 fs stk ρ β nt tm bl a w) {S : St} (place : Nat → Option (Nat × Nat)) : ∀ (ps : List (Nat × Operand)) (l : List (Nat × S1)) (cells cs : List C) (arr : Array Value),
    S.parts ps = some l → fillC place cells l = some cs → CsRep ρ β (okS w0 ok0 bl β) w cells arr → (∀ p ∈ ps, evT tm p.2 = S.ev p.2) →
    ∃ arr', Instr.fill place arr (ps.map fun p => (p.1, a.eval p.2)) = some arr' ∧ CsRep ρ β (okS w0 ok0 bl β) w cs arr'
  | [], l, cells, cs, arr, hp, hf, hc, _ => by
    simp only [St.parts] at hp; cases hp
    simp only [fillC] at hf; cases hf
    exact ⟨arr, rfl, hc⟩
  | (i, x) :: r, l, cells, cs, arr, hp, hf, hc, hag => by
    simp only [St.parts] at hp
    split at hp
    · rename_i v l' hx hl'
      cases hp
      simp only [fillC] at hf
      split at hf
      · cases hf
      · rename_i off size hpl
        split at hf
        · cases hf
        · rename_i hcond
          simp only [not_or, Nat.not_lt, Decidable.not_not, gt_iff_lt] at hcond
          have hv : S1Rep ρ β (okS w0 ok0 bl β) w v (a.eval x) := H.eval (x := x) (sv := .s v) (by rw [hag (i, x) (by simp)]; exact hx)
          have hvc := hv.cells (fun k v h => notAgg_of_one (H.na k v h))
          have hsp := hc.splice hvc (off := off) (by omega)
          obtain ⟨arr', ha, hr⟩ := fill_sound H place r l' _ cs _ hl' hf hsp (fun p hp => hag p (by simp [hp]))
          refine ⟨arr', ?_, hr⟩
          simp only [List.map_cons, Instr.fill, hpl]
          have hs1 : (a.eval x).cells.size = size := by rw [hvc.1]; exact hcond.1
          have hs2 : ¬ (off + (a.eval x).cells.size > arr.size) := by rw [hvc.1, hc.1]; omega
          rw [if_neg (by simp [hs1]; rw [hs1] at hs2; omega)]
          exact ha
    · cases hp

end

section
variable {P : Program} {o : Oper} {ks : List Nat} {S : St} {K : Option SV → St → Option IR} {As : List (List DV → Prop)} {ρ : List DV} {Q : List AV → Prop} {ir : IR}

theorem zerosOf_some {t : TypeId} {cs : List C} (h : zerosOf P t = some cs) : ∃ ti z, P.info? t = some ti ∧ ti.zero = some z ∧ cellsOfVal z = some cs := by
  simp only [zerosOf, Option.bind_eq_some_iff] at h
  obtain ⟨z, ⟨ti, h1, h2⟩, h3⟩ := h
  exact ⟨ti, z, h1, h2, h3⟩

theorem run_zeroValue {t : TypeId} {ti : TypeInfo} {z : Value} {w : World} (h1 : P.info? t = some ti) (h2 : ti.zero = some z) : (zeroValue t).run P w = .ok z w := by
  simp [zeroValue, typeInfo, program, Sem.run, h1, h2]

theorem run_places (fs : Array Field) (w : World) (h : ∀ f ∈ fs, ∃ ti, P.info? f.type = some ti) :
    (fs.mapM (fun f => (do pure (f.offset, ← sizeOf f.type) : Sem (Nat × Nat)))).run P w = .ok (fs.map fun f => (f.offset, ((P.info? f.type).map (·.size)).getD 0)) w := by
  have hl : ∀ (l : List Field), (∀ f ∈ l, ∃ ti, P.info? f.type = some ti) → (l.mapM (fun f => (do pure (f.offset, ← sizeOf f.type) : Sem (Nat × Nat)))).run P w = .ok (l.map fun f => (f.offset, ((P.info? f.type).map (·.size)).getD 0)) w := by
    intro l
    induction l with
    | nil => intro _; rfl
    | cons f r ih =>
      intro hh
      obtain ⟨ti, hti⟩ := hh f (by simp)
      have ih' := ih fun g hg => hh g (by simp [hg])
      simp only [List.mapM_cons, Sem.run_bind, sizeOf, typeInfo, program, Sem.run, hti, Sem.run_pure, Result.andThen_ok] at ih' ⊢
      simp only [sizeOf, typeInfo, program, Sem.run_bind, Sem.run, hti, Sem.run_pure, Result.andThen_ok, ih', List.map_cons, Option.map_some, Option.getD_some]
  rw [Array.mapM_eq_mapM_toList]
  rw [Sem.run_map, hl fs.toList (fun f hf => h f (by simpa using hf))]
  simp only [Result.andThen_ok]
  rw [← Array.toList_map, Array.toArray_toList]

theorem op_build {t : TypeId} {ps : Array (Nat × Operand)} (ho : o.op = .build t ps) (h : symOp P o 0 S.nb S K = some ir) (hw : IRwp P As ρ ir Q) (hl : ρ.length = S.nv) (hid : S.bl S.nb = none) : OpOut P o S.nb S ks K As ρ Q := by
  have hmem : ∀ p ∈ ps.toList, p.2 ∈ o.op.operands := fun p hp => by
    simp only [ho, Op.operands]
    simp only [List.mem_toArray, List.mem_map]
    exact ⟨p, hp, rfl⟩
  have hparts : ∀ (a : Act), (ps.map fun (i, x) => (i, a.eval x)).toList = ps.toList.map fun p => (p.1, a.eval p.2) := fun a => by simp
  unfold symOp at h
  simp only [ho] at h
  split at h
  · rename_i zs l fds hz hp hu
    obtain ⟨ti, z, h1, h2, h3⟩ := zerosOf_some hz
    split at h
    · rename_i cs hf
      split at h
      · rename_i hall
        refine OpOut.plain (ρ' := ρ) (n := S.nv) (Ext.refl _) hl h hw hid fun ρf hE w0 ok0 fs stk β nt tm bl a w H hag hb => ?_
        have hpl : (fun i => (fds[i]?).bind fun (f : Field) => (P.info? f.type).map fun ti => (f.offset, ti.size)) = fun (i : Nat) => ((fds.map fun (f : Field) => (f.offset, ((P.info? f.type).map (·.size)).getD 0))[i]?) := by
          funext i
          rw [Array.getElem?_map]
          cases hi : fds[i]? with
          | none => rfl
          | some f =>
            have hfm : f ∈ fds := Array.mem_of_getElem? hi
            have := Array.all_eq_true'.1 hall f hfm
            obtain ⟨tj, htj⟩ := Option.isSome_iff_exists.1 this
            simp [htj]
        rw [hpl] at hf
        obtain ⟨arr', ha, hr⟩ := fill_sound H _ ps.toList l zs cs z.cells hp hf (cellsOfVal_rep h3) (fun p hp => hag _ (hmem p hp))
        refine ⟨.agg arr', ?_, fun s hs => by cases hs; exact ⟨arr', rfl, hr⟩⟩
        have hpm := run_places (P := P) fds w (fun f hf => Option.isSome_iff_exists.1 (Array.all_eq_true'.1 hall f hf))
        simp only [execOp, ho, Instr.build, Sem.run_bind, run_zeroValue h1 h2, Result.andThen_ok, run_underlying hu, hpm, hparts, ha, Sem.run_pure]
      · cases h
    · cases h
  · rename_i zs l n e hz hp hu
    obtain ⟨ti, z, h1, h2, h3⟩ := zerosOf_some hz
    split at h
    · rename_i s hs
      obtain ⟨_, te, hte, hse⟩ := sizeT_some hs
      split at h
      · rename_i cs hf
        refine OpOut.plain (ρ' := ρ) (n := S.nv) (Ext.refl _) hl h hw hid fun ρf hE w0 ok0 fs stk β nt tm bl a w H hag hb => ?_
        obtain ⟨arr', ha, hr⟩ := fill_sound H _ ps.toList l zs cs z.cells hp hf (cellsOfVal_rep h3) (fun p hp => hag _ (hmem p hp))
        refine ⟨.agg arr', ?_, fun s hs => by cases hs; exact ⟨arr', rfl, hr⟩⟩
        simp only [execOp, ho, Instr.build, Sem.run_bind, run_zeroValue h1 h2, Result.andThen_ok, run_underlying hu, sizeOf, typeInfo, program, Sem.run, hte, hse, hparts, ha, Sem.run_pure]
      · cases h
    · cases h
  · cases h

end
end Go.Px

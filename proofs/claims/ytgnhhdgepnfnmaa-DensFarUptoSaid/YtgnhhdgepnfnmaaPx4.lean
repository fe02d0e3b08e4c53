/- Px4: one operation, part two: blocks that come and go; each operation by itself. -/
import Derived.Test.YtgnhhdgepnfnmaaPx3
set_option linter.unusedSimpArgs false
set_option linter.unusedVariables false
namespace Go.Px
open Go.RowKit

theorem named_mem {S : St} {o : Op} {x : Operand} (hx : x ∈ o.operands) {k : Nat} (hk : k ∈ SV.blocks (S.ev x)) : k ∈ namedOf S o := by
  refine List.mem_append.2 (.inl (List.mem_flatMap.2 ⟨S.ev x, List.mem_map.2 ⟨x, by simpa using hx, rfl⟩, hk⟩))

def KnOK (kn : List (Nat × Bool)) (ρ : List DV) : Prop := ∀ i b, (i, b) ∈ kn → ρ[i]? = some (.bool b)
theorem KnOK.ext {kn : List (Nat × Bool)} {ρ ρ' : List DV} (h : KnOK kn ρ) (hE : Ext ρ ρ') : KnOK kn ρ' := fun i b hi => hE _ _ (h i b hi)
theorem tru_rd {S : St} {ρ : List DV} {x : A} {t : Bool} (hk : KnOK S.kn ρ) (h : S.tru x = some t) : x.rd ρ = some (.bool t) := by
  cases x <;> simp only [St.tru] at h
  case var i =>
    simp only [Option.map_eq_some_iff] at h
    obtain ⟨⟨j, b⟩, hf, rfl⟩ := h
    have hm := List.mem_of_find?_eq_some hf
    have he := List.find?_some hf
    simp only [beq_iff_eq] at he
    subst he
    exact hk _ _ hm
  case bol b => cases h; rfl
  all_goals cases h

section
variable {w0 : World} {ok0 : Nat → Prop} {fs : List (Array Value)} {stk : List Frm} {ρ ρ' : List DV} {β : Bm} {nt : Nat} {tm : Nat → Option SV} {bl : Nat → Option Blk} {a : Act} {w : World} {ok : Nat → Prop}

def dropO (bl : Nat → Option Blk) (k0 : Option Nat) : Nat → Option Blk := match k0 with | some k => upd bl k none | none => bl
theorem dropO_some {bl : Nat → Option Blk} {k0 : Option Nat} {k : Nat} {b : Blk} (h : dropO bl k0 k = some b) : bl k = some b ∧ k0 ≠ some k := by
  cases k0 with
  | none => exact ⟨h, by simp⟩
  | some k' =>
    simp only [dropO, upd] at h
    split at h
    · cases h
    · rename_i hne; exact ⟨h, fun e => hne (Option.some.inj e).symm⟩

theorem RM.lt_of_mut (H : RM w0 ok0 fs stk ρ β nt tm bl a w) {k : Nat} {b : Blk} {v : Value} {m : Nat} (hb : bl k = some b) (hm : b.mut = true) (hv : β k = some v) (hbo : blockOf v = some m) : w0.heap.size ≤ m ∧ m < w.heap.size := by
  have hk := H.hbl k b hb
  cases b with
  | box cs T ro =>
    obtain ⟨b', arr, T', fz, h1, h2, h3, h4, h5⟩ := hk
    rw [hv] at h1; cases h1; cases hbo
    exact ⟨(h4 (by simpa [Blk.mut] using hm)).1, (Array.getElem?_eq_some_iff.1 h2).1⟩
  | own x s E =>
    obtain ⟨v', n, cells, h1, _, h3⟩ := hk
    rw [hv] at h1; cases h1
    exact h3.lt hbo
  | fro x => cases hm

/-- A new block, in the place of one that is dropped perhaps, whose row it may have taken over. -/
theorem RM.turn (H : RM w0 ok0 fs stk ρ β nt tm bl a w) {k0 : Option Nat} {id : Nat} {blk : Blk} {v : Value} {w' : World} {row : Option Nat} (hβ : β id = none) (hid : bl id = none)
    (hg : w.grownBy w' row) (hrow : ∀ r, row = some r → ∃ k b u, k0 = some k ∧ bl k = some b ∧ b.mut = true ∧ β k = some u ∧ blockOf u = some r)
    (hv : ∀ m, blockOf v = some m → w.heap.size ≤ m ∨ row = some m) (hna : v.oneCell' = true)
    (hrep : (∀ b o, okS w0 ok0 bl β b → w.heap[b]? = some o → okS w0 ok0 (upd (dropO bl k0) id (some blk)) (upd β id (some v)) b ∧ w'.heap[b]? = some o) →
      (∀ m, blockOf v = some m → blk.mut = false → okS w0 ok0 (upd (dropO bl k0) id (some blk)) (upd β id (some v)) m) →
      BlkRep w0 ρ (upd β id (some v)) (okS w0 ok0 (upd (dropO bl k0) id (some blk)) (upd β id (some v))) w' id blk) :
    RM w0 ok0 fs stk ρ (upd β id (some v)) nt tm (upd (dropO bl k0) id (some blk)) a w' ∧
      (∀ b o, okS w0 ok0 bl β b → w.heap[b]? = some o → okS w0 ok0 (upd (dropO bl k0) id (some blk)) (upd β id (some v)) b ∧ w'.heap[b]? = some o) := by
  have hβ' : ∀ k u, β k = some u → upd β id (some v) k = some u := fun k u hk => by
    unfold upd; split
    · rename_i he; subst he; rw [hβ] at hk; cases hk
    · exact hk
  have rowlt : ∀ r, row = some r → w0.heap.size ≤ r ∧ r < w.heap.size := fun r hr => by
    obtain ⟨k, b, u, _, hb, hm, hu, hbo⟩ := hrow r hr
    exact H.lt_of_mut hb hm hu hbo
  have hmono : ∀ b o, okS w0 ok0 bl β b → w.heap[b]? = some o → okS w0 ok0 (upd (dropO bl k0) id (some blk)) (upd β id (some v)) b ∧ w'.heap[b]? = some o := fun b o hb ho => by
    have hlt : b < w.heap.size := (Array.getElem?_eq_some_iff.1 ho).1
    have hnr : some b ≠ row := fun he => by
      obtain ⟨k, b', u, _, hb', hm, hu, hbo⟩ := hrow b he.symm
      exact hb.2 k b' u hb' hm hu hbo
    refine ⟨⟨hb.1, fun k b' u hb' hm hu hbo => ?_⟩, by rw [hg.block b hlt hnr]; exact ho⟩
    by_cases hk : k = id
    · subst hk
      simp only [upd, if_true] at hb' hu
      cases hb'; cases hu
      rcases hv b hbo with h1 | h1
      · omega
      · exact hnr h1.symm
    · simp only [upd, if_neg hk] at hb' hu
      exact hb.2 k b' u (dropO_some hb').1 hm hu hbo
  refine ⟨H.step (Ext.refl _) hβ' hmono (fun k b hb => ?_) (fun k k' b b' u u' m e1 m1 e2 m2 f1 f2 g1 g2 => ?_) ?_ (fun k u hu => ?_), hmono⟩
  · by_cases hk : k = id
    · rw [hk] at hb ⊢
      simp only [upd, if_true] at hb
      cases hb
      refine .inr (hrep hmono fun m hm hmut => ⟨?_, fun k2 b' u hb' hm' hu hbo => ?_⟩)
      · rcases hv m hm with h1 | h1
        · exact .inr (Nat.le_trans H.bel.size h1)
        · exact .inr (rowlt m h1).1
      · by_cases hki : k2 = id
        · rw [hki] at hb'
          simp only [upd, if_true] at hb'
          cases hb'; rw [hmut] at hm'; cases hm'
        · simp only [upd, if_neg hki] at hb' hu
          have hb2 := dropO_some hb'
          have hl2 := H.lt_of_mut hb2.1 hm' hu hbo
          rcases hv m hm with h1 | h1
          · omega
          · obtain ⟨k3, b2, u2, hk0, hb3, hm3, hu3, hbo3⟩ := hrow m h1
            have := H.inj k2 k3 b' b2 u u2 m hb2.1 hm' hb3 hm3 hu hu3 hbo hbo3
            subst this
            exact hb2.2 hk0
    · simp only [upd, if_neg hk] at hb
      have hb2 := dropO_some hb
      refine .inl ⟨hb2.1, fun u m hu hm hor => ?_⟩
      have hlt : m < w.heap.size := by
        rcases hor with hmut | hlt
        · exact (H.lt_of_mut hb2.1 hmut hu hm).2
        · exact Nat.lt_of_lt_of_le hlt H.bel.size
      refine hg.block m hlt fun he => ?_
      obtain ⟨k2, b2, u2, hk0, hb3, hm3, hu3, hbo3⟩ := hrow m he.symm
      rcases hor with hmut | hlt'
      · have := H.inj k k2 b b2 u u2 m hb2.1 hmut hb3 hm3 hu hu3 hm hbo3
        subst this
        exact hb2.2 hk0
      · have := (H.lt_of_mut hb3 hm3 hu3 hbo3).1
        omega
  · by_cases h1 : k = id
    · by_cases h2 : k' = id
      · rw [h1, h2]
      · subst h1
        simp only [upd, if_true] at e1 f1
        simp only [upd, if_neg h2] at e2 f2
        cases e1; cases f1
        have hb2 := dropO_some e2
        have hl2 := H.lt_of_mut hb2.1 m2 f2 g2
        rcases hv m g1 with h3 | h3
        · omega
        · obtain ⟨k2, b2, u2, hk0, hb3, hm3, hu3, hbo3⟩ := hrow m h3
          have := H.inj k' k2 b' b2 u' u2 m hb2.1 m2 hb3 hm3 f2 hu3 g2 hbo3
          subst this
          exact absurd hk0 hb2.2
    · by_cases h2 : k' = id
      · subst h2
        simp only [upd, if_true] at e2 f2
        simp only [upd, if_neg h1] at e1 f1
        cases e2; cases f2
        have hb2 := dropO_some e1
        have hl2 := H.lt_of_mut hb2.1 m1 f1 g1
        rcases hv m g2 with h3 | h3
        · omega
        · obtain ⟨k2, b2, u2, hk0, hb3, hm3, hu3, hbo3⟩ := hrow m h3
          have := H.inj k k2 b b2 u u2 m hb2.1 m1 hb3 hm3 f1 hu3 g1 hbo3
          subst this
          exact absurd hk0 hb2.2
      · simp only [upd, if_neg h1] at e1 f1
        simp only [upd, if_neg h2] at e2 f2
        exact H.inj k k' b b' u u' m (dropO_some e1).1 m1 (dropO_some e2).1 m2 f1 f2 g1 g2
  · refine H.bel.trans ⟨hg.os, hg.tape, hg.output, hg.size, fun i hi => hg.block i (Nat.lt_of_lt_of_le hi H.bel.size) fun he => ?_⟩
    have := (rowlt i he.symm).1
    omega
  · by_cases hk : k = id
    · subst hk; simp only [upd, if_true] at hu; cases hu; exact hna
    · simp only [upd, if_neg hk] at hu; exact H.na k u hu

theorem RM.new_box (H : RM w0 ok0 fs stk ρ β nt tm bl a w) {id : Nat} (hβ : β id = none) (hid : bl id = none) {cs : List C} {arr : Array Value} (T : TypeId) (hc : CsRep ρ β (okS w0 ok0 bl β) w cs arr) :
    RM w0 ok0 fs stk ρ (upd β id (some (.pointer (some ⟨w.heap.size, 0, none⟩)))) nt tm (upd bl id (some (.box cs T false))) a (w.alloc (.cells arr T)) := by
  refine (H.turn (k0 := none) (row := none) hβ hid (World.grownBy_alloc w _ none) (fun r hr => by cases hr) (fun m hm => by cases hm; exact .inl (Nat.le_refl _)) rfl fun hmono _ => ?_).1
  refine ⟨w.heap.size, arr, T, (0, 0), by simp [upd], heap_alloc_new w _, hc.imp (Ext.refl _) (fun k u hk => ?_) hmono, fun _ => ⟨H.bel.size, rfl⟩, fun h => by cases h⟩
  unfold upd; split
  · rename_i he; subst he; rw [hβ] at hk; cases hk
  · exact hk

end

theorem RM.one {w0 : World} {ok0 : Nat → Prop} {fs : List (Array Value)} {stk : List Frm} {ρ : List DV} {β : Bm} {nt : Nat} {tm : Nat → Option SV} {bl : Nat → Option Blk} {a : Act} {w : World}
    (H : RM w0 ok0 fs stk ρ β nt tm bl a w) {x : Operand} {c : C} (h : evT tm x = some (.s (.one c))) : CRep ρ β (okS w0 ok0 bl β) w c (a.eval x) := H.eval h
theorem reads_bool {ok : Nat → Prop} {w : World} {b : Bool} {v : Value} (h : Reads ok w (.bool b) v) : v = .bool b := by cases h; rfl
theorem reads_int {ok : Nat → Prop} {w : World} {k : IntKind} {n : Int} {v : Value} (h : Reads ok w (.int k n) v) : v = .int k n := by cases h; rfl
theorem reads_list {ok : Nat → Prop} {w : World} {n : Nat} {cells : List DV} {v : Value} (h : Reads ok w (.list n cells) v) :
    ∃ a cap, v = .slice a n cap ∧ n ≤ cap ∧ ∃ f : Nat → Value, (cells ≠ [] → ∃ ad, a = some ad ∧ ok ad.block ∧ ∀ j, j < cells.length → w.cell? (ad.add j) = some (f j)) ∧ ∀ (j : Nat) (d : DV), cells[j]? = some d → Reads ok w d (f j) := by
  cases h with
  | list n cells a cap f h1 h2 h3 => exact ⟨a, cap, rfl, h1, f, h2, h3⟩

/-! ### Operations that leave memory alone -/
section
variable {P : Program} {o : Oper} {ks : List Nat} {S : St} {K : Option SV → St → Option IR} {As : List (List DV → Prop)} {ρ : List DV} {Q : List AV → Prop} {ir : IR}

theorem op_move {x : Operand} (ho : o.op = .move x ∨ o.op = .assign x) (h : K (S.ev x) S = some ir) (hw : IRwp P As ρ ir Q) (hl : ρ.length = S.nv) (hid : S.bl S.nb = none) : OpOut P o S.nb S ks K As ρ Q := by
  refine OpOut.plain (ρ' := ρ) (n := S.nv) (sv := S.ev x) (Ext.refl _) hl h hw hid fun ρf hE w0 ok0 fs stk β nt tm bl a w H hag hb => ⟨a.eval x, ?_, fun s hs => H.eval ?_⟩
  · rcases ho with ho | ho <;> simp [execOp, ho]
  · rw [hag x (by rcases ho with ho | ho <;> simp [ho, Op.operands])]; exact hs

theorem asBool_run {w : World} (b : Bool) : (asBool (.bool b)).run P w = .ok b w := rfl

theorem op_pick {c x y : Operand} (ho : o.op = .pick c x y) (h : symOp P o 0 S.nb S K = some ir) (hk : KnOK S.kn ρ) (hw : IRwp P As ρ ir Q) (hl : ρ.length = S.nv) (hid : S.bl S.nb = none) : OpOut P o S.nb S ks K As ρ Q := by
  have hmc : c ∈ o.op.operands := by simp [ho, Op.operands]
  have hmx : x ∈ o.op.operands := by simp [ho, Op.operands]
  have hmy : y ∈ o.op.operands := by simp [ho, Op.operands]
  unfold symOp at h
  simp only [ho] at h
  split at h
  · rename_i z hc
    split at h
    · rename_i t ht
      refine OpOut.plain (ρ' := ρ) (n := S.nv) (sv := if t then S.ev x else S.ev y) (Ext.refl _) hl h hw hid fun ρf hE w0 ok0 fs stk β nt tm bl a w H hag hb => ⟨if t then a.eval x else a.eval y, ?_, fun s hs => ?_⟩
      · obtain ⟨d, hd, hr⟩ := H.eval (x := c) (by rw [hag c hmc]; exact hc)
        rw [tru_rd (hk.ext hE) ht] at hd; cases hd
        simp [execOp, ho, reads_bool hr, asBool_run, asBool]
      · cases t
        · exact H.eval (by rw [hag y hmy]; exact hs)
        · exact H.eval (by rw [hag x hmx]; exact hs)
    · split at h
      · rename_i p q hx hy
        obtain ⟨zz, d, n, ρ', ir', hlt, hd, hK, hw', hE', hl', hz⟩ := prim_sound h hw hl
        refine OpOut.plain hE' hl' hK hw' hid fun ρf hE w0 ok0 fs stk β nt tm bl a w H hag hb => ?_
        have e1 := H.eval (x := c) (by rw [hag c hmc]; exact hc)
        have e2 := H.eval (x := x) (by rw [hag x hmx]; exact hx)
        have e3 := H.eval (x := y) (by rw [hag y hmy]; exact hy)
        obtain ⟨d1, hd1, hr1⟩ := e1
        obtain ⟨d2, hd2, hr2⟩ := e2
        obtain ⟨d3, hd3, hr3⟩ := e3
        simp only [List.all_cons, List.all_nil, Bool.and_true, Bool.and_eq_true] at hlt
        have hEE := hE'.trans hE
        simp only [List.map_cons, List.map_nil, ev_of_ext hlt.1 hl hEE hd1, ev_of_ext hlt.2.1 hl hEE hd2, ev_of_ext hlt.2.2 hl hEE hd3] at hd
        cases d1 <;> simp only [Prim.den] at hd <;> cases hd
        rename_i b
        have hv1 : a.eval c = .bool b := reads_bool hr1
        refine ⟨if b then a.eval x else a.eval y, by simp [execOp, ho, hv1, asBool_run, asBool], fun s hs => ?_⟩
        cases hs
        refine ⟨_, A.rd_ext hE hz, ?_⟩
        cases b
        · exact hr3
        · exact hr2
      · cases h
  · cases h

theorem op_nilCheck {x : Operand} (ho : o.op = .nilCheck x) (h : symOp P o 0 S.nb S K = some ir) (hw : IRwp P As ρ ir Q) (hl : ρ.length = S.nv) (hid : S.bl S.nb = none) : OpOut P o S.nb S ks K As ρ Q := by
  have hm : x ∈ o.op.operands := by simp [ho, Op.operands]
  unfold symOp at h
  simp only [ho] at h
  have fin : ∀ c : C, S.ev x = some (.s (.one c)) → (∀ {ρ : List DV} {β : Bm} {ok : Nat → Prop} {w : World} {v : Value}, CRep ρ β ok w c v → ∃ ad, v = .pointer (some ad)) → K (some (.s (.one c))) S = some ir → OpOut P o S.nb S ks K As ρ Q := by
    intro c hc hp hK
    refine OpOut.plain (ρ' := ρ) (n := S.nv) (Ext.refl _) hl hK hw hid fun ρf hE w0 ok0 fs stk β nt tm bl a w H hag hb => ⟨a.eval x, ?_, fun s hs => ?_⟩
    · obtain ⟨ad, hv⟩ := hp (H.one (x := x) (by rw [hag x hm]; exact hc))
      simp [execOp, ho, hv]
    · cases hs; exact H.eval (x := x) (by rw [hag x hm]; exact hc)
  split at h
  · rename_i k off hc; exact fin _ hc (fun hr => by obtain ⟨b, _, rfl⟩ := hr; exact ⟨_, rfl⟩) h
  · rename_i k i s off hc; exact fin _ hc (fun hr => by obtain ⟨_, _, _, _, _, _, _, _, _, rfl⟩ := hr; exact ⟨_, rfl⟩) h
  · rename_i y i s off hc; exact fin _ hc (fun hr => by obtain ⟨_, _, _, _, _, _, _, _, _, _, _, _, rfl⟩ := hr; exact ⟨_, rfl⟩) h
  · cases h

theorem op_fieldAddr {t : TypeId} {x : Operand} {f : Nat} (ho : o.op = .fieldAddr t x f) (h : symOp P o 0 S.nb S K = some ir) (hw : IRwp P As ρ ir Q) (hl : ρ.length = S.nv) (hid : S.bl S.nb = none) : OpOut P o S.nb S ks K As ρ Q := by
  have hm : x ∈ o.op.operands := by simp [ho, Op.operands]
  unfold symOp at h
  simp only [ho] at h
  split at h
  · rename_i fds hu
    split at h
    · rename_i fd hf
      have run : ∀ (a : Act) (w : World) (ad : Addr) (n : Nat), sizeT P fd.type = some (n + 1) → a.eval x = .pointer (some ad) → (execOp a.eval o).run P w = .ok (.value (.pointer (some (ad.add fd.offset)))) w := by
        intro a w ad n hs he
        unfold sizeT at hs
        split at hs
        · simp only [Option.map_eq_some_iff] at hs
          obtain ⟨ti, hti, hsz⟩ := hs
          have hne : ¬ ti.size = 0 := by omega
          simp [execOp, ho, he, Instr.fieldAt, run_underlying hu, hf, Instr.sureAddr, fieldPlace, sizeOf, typeInfo, hti, hne]
        · cases hs
      split at h
      · rename_i n k off hs hc
        refine OpOut.plain (ρ' := ρ) (n := S.nv) (Ext.refl _) hl h hw hid fun ρf hE w0 ok0 fs stk β nt tm bl a w H hag hb => ?_
        obtain ⟨b, hβ, hv⟩ := H.eval (x := x) (by rw [hag x hm]; exact hc)
        exact ⟨_, run a w _ n hs hv, fun s hs => by cases hs; exact ⟨b, hβ, by rw [Addr_off]⟩⟩
      · rename_i n y i s off hs hc
        refine OpOut.plain (ρ' := ρ) (n := S.nv) (Ext.refl _) hl h hw hid fun ρf hE w0 ok0 fs stk β nt tm bl a w H hag hb => ?_
        obtain ⟨n', cells, kI, iv, ad, cap, h1, h2, h3, h4, h5, h6, hv⟩ := H.eval (x := x) (by rw [hag x hm]; exact hc)
        exact ⟨_, run a w _ n hs hv, fun s hs => by cases hs; exact ⟨n', cells, kI, iv, ad, cap, h1, h2, h3, h4, h5, h6, by rw [Addr_add_add, Nat.add_assoc]⟩⟩
      · rename_i n k i s off hs hc
        refine OpOut.plain (ρ' := ρ) (n := S.nv) (Ext.refl _) hl h hw hid fun ρf hE w0 ok0 fs stk β nt tm bl a w H hag hb => ?_
        obtain ⟨b, n', cap, kI, iv, h1, h2, h3, h4, hv⟩ := H.eval (x := x) (by rw [hag x hm]; exact hc)
        exact ⟨_, run a w _ n hs hv, fun s hs => by cases hs; exact ⟨b, n', cap, kI, iv, h1, h2, h3, h4, by rw [Addr_off, Nat.add_assoc]⟩⟩
      · cases h
    · cases h
  · cases h

theorem op_extract {x : Operand} {i : Nat} (ho : o.op = .extract x i) (h : symOp P o 0 S.nb S K = some ir) (hw : IRwp P As ρ ir Q) (hl : ρ.length = S.nv) (hid : S.bl S.nb = none) : OpOut P o S.nb S ks K As ρ Q := by
  have hm : x ∈ o.op.operands := by simp [ho, Op.operands]
  unfold symOp at h
  simp only [ho] at h
  split at h
  · rename_i l hc
    split at h
    · rename_i v hv
      refine OpOut.plain (ρ' := ρ) (n := S.nv) (Ext.refl _) hl h hw hid fun ρf hE w0 ok0 fs stk β nt tm bl a w H hag hb => ?_
      obtain ⟨vs, he, hs, hr⟩ := H.eval (x := x) (by rw [hag x hm]; exact hc)
      obtain ⟨u, hu, hq⟩ := hr i v hv
      exact ⟨u, by simp [execOp, ho, he, Instr.extract, hu], fun s hs => by cases hs; exact hq⟩
    · cases h
  · cases h


theorem run_binInt {op : BinOp} {t : TypeId} {X Y : Operand} {k k' : IntKind} {x y : Int} {d : DV} {w : World} {ok : Nat → Prop} (h : binInt op k x k' y = some d) :
    ∃ v, (do eqGuard op t X Y (.int k x) (.int k' y); binOp op t (.int k x) (.int k' y) : Sem Value).run P w = .ok v w ∧ Reads ok w d v := by
  cases op <;> simp only [binInt] at h
  case shl =>
    split at h
    · cases h
    · rename_i hn; cases h; exact ⟨_, by simp [eqGuard, binOp, Op.shift, hn], .int _ _⟩
  case shr =>
    split at h
    · cases h
    · rename_i hn; cases h; exact ⟨_, by simp [eqGuard, binOp, Op.shift, hn], .int _ _⟩
  case quo =>
    split at h
    · cases h
    · rename_i hkk
      have hk' : k = k' := by simpa using hkk
      subst hk'
      split at h
      · cases h
      · rename_i hy; cases h; exact ⟨_, by simp [eqGuard, binOp, Op.intDiv, hy], .int _ _⟩
  case rem =>
    split at h
    · cases h
    · rename_i hkk
      have hk' : k = k' := by simpa using hkk
      subst hk'
      split at h
      · cases h
      · rename_i hy; cases h; exact ⟨_, by simp [eqGuard, binOp, Op.intDiv, hy], .int _ _⟩
  case add =>
    split at h
    · cases h
    · rename_i hkk
      have hk' : k = k' := by simpa using hkk
      subst hk'
      cases h
      exact ⟨_, by simp [eqGuard, binOp, Op.intArith], .int _ _⟩
  case sub =>
    split at h
    · cases h
    · rename_i hkk
      have hk' : k = k' := by simpa using hkk
      subst hk'
      cases h
      exact ⟨_, by simp [eqGuard, binOp, Op.intArith], .int _ _⟩
  case mul =>
    split at h
    · cases h
    · rename_i hkk
      have hk' : k = k' := by simpa using hkk
      subst hk'
      cases h
      exact ⟨_, by simp [eqGuard, binOp, Op.intArith], .int _ _⟩
  case and =>
    split at h
    · cases h
    · rename_i hkk
      have hk' : k = k' := by simpa using hkk
      subst hk'
      cases h
      exact ⟨_, by cases k <;> rfl, .int _ _⟩
  case or =>
    split at h
    · cases h
    · rename_i hkk
      have hk' : k = k' := by simpa using hkk
      subst hk'
      cases h
      exact ⟨_, by cases k <;> rfl, .int _ _⟩
  case xor =>
    split at h
    · cases h
    · rename_i hkk
      have hk' : k = k' := by simpa using hkk
      subst hk'
      cases h
      exact ⟨_, by cases k <;> rfl, .int _ _⟩
  case eql =>
    split at h
    · cases h
    · rename_i hkk
      have hk' : k = k' := by simpa using hkk
      subst hk'
      cases h
      exact ⟨_, by simp [eqGuard, binOp, Op.intCmp], .bool _⟩
  case neq =>
    split at h
    · cases h
    · rename_i hkk
      have hk' : k = k' := by simpa using hkk
      subst hk'
      cases h
      exact ⟨_, by simp [eqGuard, binOp, Op.intCmp], .bool _⟩
  case lss =>
    split at h
    · cases h
    · rename_i hkk
      have hk' : k = k' := by simpa using hkk
      subst hk'
      cases h
      exact ⟨_, by simp [eqGuard, binOp, Op.intCmp], .bool _⟩
  case leq =>
    split at h
    · cases h
    · rename_i hkk
      have hk' : k = k' := by simpa using hkk
      subst hk'
      cases h
      exact ⟨_, by simp [eqGuard, binOp, Op.intCmp], .bool _⟩
  case gtr =>
    split at h
    · cases h
    · rename_i hkk
      have hk' : k = k' := by simpa using hkk
      subst hk'
      cases h
      exact ⟨_, by simp [eqGuard, binOp, Op.intCmp], .bool _⟩
  case geq =>
    split at h
    · cases h
    · rename_i hkk
      have hk' : k = k' := by simpa using hkk
      subst hk'
      cases h
      exact ⟨_, by simp [eqGuard, binOp, Op.intCmp], .bool _⟩
  case andNot => split at h <;> cases h

theorem run_equal_bool {t : TypeId} {x y : Bool} {w : World} (hu : P.underlying t = some .bool) : (Op.equal t (.bool x) (.bool y)).run P w = .ok (x == y) w := by
  have e : Op.maxDepth = 9999 + 1 := rfl
  unfold Op.equal
  rw [e, Op.equalIn]
  simp [run_underlying hu]

theorem run_beq {op : BinOp} {t : TypeId} {X Y : Operand} {x y : Bool} {w : World} {ok : Nat → Prop} (hu : P.underlying t = some .bool) (hop : op = .eql ∨ op = .neq) :
    ∃ v, (do eqGuard op t X Y (.bool x) (.bool y); binOp op t (.bool x) (.bool y) : Sem Value).run P w = .ok v w ∧ Reads ok w (.bool (if op = .neq then !(x == y) else x == y)) v := by
  rcases hop with rfl | rfl
  · refine ⟨_, ?_, .bool _⟩
    simp only [eqGuard, Sem.run_bind, binOp, run_equal_bool hu, Result.andThen_ok, Sem.run_pure]
    simp [run_equal_bool hu]
  · refine ⟨_, ?_, .bool _⟩
    simp only [eqGuard, Sem.run_bind, binOp, run_equal_bool hu, Result.andThen_ok, Sem.run_pure]
    simp [run_equal_bool hu]

theorem op_prim1 {x : Operand} {z : A} {p : Prim} (hm : x ∈ o.op.operands) (hx : S.ev x = some (.s (.one (.at z)))) (h : prim p [z] S (fun z S => K (some (.s (.one (.at z)))) S) = some ir)
    (hw : IRwp P As ρ ir Q) (hl : ρ.length = S.nv) (hid : S.bl S.nb = none)
    (run : ∀ (a : Act) (w : World) (ok : Nat → Prop) (d d' : DV), Reads ok w d (a.eval x) → p.den [d] = some d' → ∃ v, (execOp a.eval o).run P w = .ok (.value v) w ∧ Reads ok w d' v) : OpOut P o S.nb S ks K As ρ Q := by
  obtain ⟨zz, d, n, ρ', ir', hlt, hd, hK, hw', hE', hl', hz⟩ := prim_sound h hw hl
  refine OpOut.plain hE' hl' hK hw' hid fun ρf hE w0 ok0 fs stk β nt tm bl a w H hag hb => ?_
  obtain ⟨d1, hd1, hr1⟩ := H.one (x := x) (by rw [hag x hm]; exact hx)
  simp only [List.all_cons, List.all_nil, Bool.and_true] at hlt
  simp only [List.map_cons, List.map_nil, ev_of_ext hlt hl (hE'.trans hE) hd1] at hd
  obtain ⟨v, hv, hr⟩ := run a w _ d1 d hr1 hd
  exact ⟨v, hv, fun s hs => by cases hs; exact ⟨d, A.rd_ext hE hz, hr⟩⟩

theorem op_prim2 {x y : Operand} {z1 z2 : A} {p : Prim} (hmx : x ∈ o.op.operands) (hmy : y ∈ o.op.operands) (hx : S.ev x = some (.s (.one (.at z1)))) (hy : S.ev y = some (.s (.one (.at z2))))
    (h : prim p [z1, z2] S (fun z S => K (some (.s (.one (.at z)))) S) = some ir)
    (hw : IRwp P As ρ ir Q) (hl : ρ.length = S.nv) (hid : S.bl S.nb = none)
    (run : ∀ (a : Act) (w : World) (ok : Nat → Prop) (d e d' : DV), Reads ok w d (a.eval x) → Reads ok w e (a.eval y) → p.den [d, e] = some d' → ∃ v, (execOp a.eval o).run P w = .ok (.value v) w ∧ Reads ok w d' v) : OpOut P o S.nb S ks K As ρ Q := by
  obtain ⟨zz, d, n, ρ', ir', hlt, hd, hK, hw', hE', hl', hz⟩ := prim_sound h hw hl
  refine OpOut.plain hE' hl' hK hw' hid fun ρf hE w0 ok0 fs stk β nt tm bl a w H hag hb => ?_
  obtain ⟨d1, hd1, hr1⟩ := H.one (x := x) (by rw [hag x hmx]; exact hx)
  obtain ⟨d2, hd2, hr2⟩ := H.one (x := y) (by rw [hag y hmy]; exact hy)
  simp only [List.all_cons, List.all_nil, Bool.and_true, Bool.and_eq_true] at hlt
  simp only [List.map_cons, List.map_nil, ev_of_ext hlt.1 hl (hE'.trans hE) hd1, ev_of_ext hlt.2 hl (hE'.trans hE) hd2] at hd
  obtain ⟨v, hv, hr⟩ := run a w _ d1 d2 d hr1 hr2 hd
  exact ⟨v, hv, fun s hs => by cases hs; exact ⟨d, A.rd_ext hE hz, hr⟩⟩

theorem op_unOp {op : UnOp} {t : TypeId} {x : Operand} (ho : o.op = .unOp op t x) (h : symOp P o 0 S.nb S K = some ir) (hw : IRwp P As ρ ir Q) (hl : ρ.length = S.nv) (hid : S.bl S.nb = none) : OpOut P o S.nb S ks K As ρ Q := by
  have hm : x ∈ o.op.operands := by simp [ho, Op.operands]
  unfold symOp at h
  simp only [ho] at h
  split at h
  · rename_i z hx
    refine op_prim1 hm hx h hw hl hid fun a w ok d d' hr hd => ?_
    cases d <;> simp only [Prim.den] at hd <;> cases hd
    exact ⟨_, by simp [execOp, ho, reads_bool hr, Op.unary], .bool _⟩
  · rename_i z hx
    refine op_prim1 hm hx h hw hl hid fun a w ok d d' hr hd => ?_
    cases d <;> simp only [Prim.den] at hd <;> cases hd
    exact ⟨_, by simp [execOp, ho, reads_int hr, Op.unary, Op.intBits], .int _ _⟩
  · rename_i z hx
    refine op_prim1 hm hx h hw hl hid fun a w ok d d' hr hd => ?_
    cases d <;> simp only [Prim.den] at hd <;> cases hd
    exact ⟨_, by simp [execOp, ho, reads_int hr, Op.unary, Op.intArith], .int _ _⟩
  · cases h

theorem op_convert {src dst : TypeId} {x : Operand} (ho : o.op = .convert src dst x) (h : symOp P o 0 S.nb S K = some ir) (hw : IRwp P As ρ ir Q) (hl : ρ.length = S.nv) (hid : S.bl S.nb = none) : OpOut P o S.nb S ks K As ρ Q := by
  have hm : x ∈ o.op.operands := by simp [ho, Op.operands]
  unfold symOp at h
  simp only [ho] at h
  split at h
  · rename_i ds k z h1 h2 hx
    refine op_prim1 hm hx h hw hl hid fun a w ok d d' hr hd => ?_
    cases d <;> simp only [Prim.den] at hd <;> cases hd
    exact ⟨_, by simp [execOp, ho, reads_int hr, convert, run_underlying h1, run_underlying h2, Conv.intToInt], .int _ _⟩
  · cases h

end
end Go.Px

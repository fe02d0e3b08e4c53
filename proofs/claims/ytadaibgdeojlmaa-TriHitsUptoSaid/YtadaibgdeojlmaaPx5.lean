/- Px5: one operation, part three: comparisons, places, loads, building. -/
import Derived.Test.YtadaibgdeojlmaaPx4
set_option linter.unusedSimpArgs false
set_option linter.unusedVariables false
namespace Go.Px
open Go.RowKit
section
variable {P : Program} {o : Oper} {ks : List Nat} {S : St} {K : Option SV → St → Option IR} {As : List (List DV → Prop)} {ρ : List DV} {Q : List AV → Prop} {ir : IR}

theorem op_binOp {op : BinOp} {t : TypeId} {x y : Operand} {ty : TypeId} (ho : o.op = .binOp op t x y ty) (h : symOp P o 0 S.nb S K = some ir) (hw : IRwp P As ρ ir Q) (hl : ρ.length = S.nv) (hid : S.bl S.nb = none) : OpOut P o S.nb S ks K As ρ Q := by
  have hmx : x ∈ o.op.operands := by simp [ho, Op.operands]
  have hmy : y ∈ o.op.operands := by simp [ho, Op.operands]
  unfold symOp at h
  simp only [ho] at h
  split at h
  · rename_i sx sy hx hy
    unfold symBin at h
    split at h
    · rename_i p q
      split at h
      · rename_i hu
        refine op_prim2 hmx hmy hx hy h hw hl hid fun a w ok d e d' hr1 hr2 hd => ?_
        cases d <;> cases e <;> simp only [Prim.den] at hd <;> cases hd
        obtain ⟨v, hv, hr⟩ := run_beq (P := P) (X := x) (Y := y) (w := w) (ok := ok) hu (.inl rfl)
        exact ⟨v, by simp only [execOp, ho, reads_bool hr1, reads_bool hr2]; rw [Sem.run_bind, hv]; rfl, hr⟩
      · rename_i hu
        refine op_prim2 hmx hmy hx hy h hw hl hid fun a w ok d e d' hr1 hr2 hd => ?_
        cases d <;> cases e <;> simp only [Prim.den] at hd <;> cases hd
        obtain ⟨v, hv, hr⟩ := run_beq (P := P) (X := x) (Y := y) (w := w) (ok := ok) hu (.inr rfl)
        exact ⟨v, by simp only [execOp, ho, reads_bool hr1, reads_bool hr2]; rw [Sem.run_bind, hv]; rfl, hr⟩
      · refine op_prim2 hmx hmy hx hy h hw hl hid fun a w ok d e d' hr1 hr2 hd => ?_
        cases d <;> cases e <;> simp only [Prim.den, Prim.bin1] at hd <;> try (cases hd; done)
        obtain ⟨v, hv, hr⟩ := run_binInt (P := P) (t := t) (X := x) (Y := y) (w := w) (ok := ok) hd
        exact ⟨v, by simp only [execOp, ho, reads_int hr1, reads_int hr2]; rw [Sem.run_bind, hv]; rfl, hr⟩
      · cases h
    · cases h
  · cases h

/-! ### Loads -/
theorem isAgg_run {t : TypeId} {w : World} (hu : (P.underlying t).isSome = true) : (isAgg t).run P w = .ok (isAggB P t) w := by
  obtain ⟨d, hd⟩ := Option.isSome_iff_exists.1 hu
  unfold isAggB
  simp only [isAgg, Sem.run_bind, run_underlying hd, Result.andThen_ok, hd]
  cases d <;> rfl

theorem sizeT_some {t : TypeId} {m : Nat} (h : sizeT P t = some m) : (P.underlying t).isSome = true ∧ ∃ ti, P.info? t = some ti ∧ ti.size = m := by
  unfold sizeT at h
  split at h
  · rename_i hu
    simp only [Option.map_eq_some_iff] at h
    exact ⟨hu, h⟩
  · cases h

theorem run_loadVar_cells {t : TypeId} {m : Nat} {ad : Addr} {w : World} {f : Nat → Value} (hs : sizeT P t = some m) (hc : ∀ j, j < m → w.cell? (ad.add j) = some (f j)) (h1 : isAggB P t = false → m = 1) :
    (loadVar t ad).run P w = .ok (if isAggB P t then .agg ((List.range m).map f).toArray else f 0) w := by
  obtain ⟨hu, ti, hti, hm⟩ := sizeT_some hs
  unfold loadVar
  rw [Sem.run_bind, isAgg_run hu]
  cases hb : isAggB P t
  · have := hc 0 (by rw [h1 hb]; omega)
    simp only [Result.andThen_ok, Bool.false_eq_true, if_false, run_load]
    rw [show ad.add 0 = ad from by unfold Addr.add; simp] at this
    simp [this]
  · simp only [Result.andThen_ok, if_true, Sem.run_bind, sizeOf, typeInfo, program, Sem.run, hti, hm, Sem.run_pure]
    simp only [run_loadCells w ad m f hc, Result.andThen_ok]

/-- Cells in a row as one value. -/
theorem S1_mk_rep {ρ : List DV} {β : Bm} {ok : Nat → Prop} {w : World} {g : Bool} {cs : List C} {v : S1} {f : Nat → Value} {m : Nat} (h : S1.mk g cs = some v) (hl : cs.length = m) (hc : ∀ (j : Nat) (c : C), cs[j]? = some c → CRep ρ β ok w c (f j)) :
    (g = false → m = 1) ∧ S1Rep ρ β ok w v (if g then .agg ((List.range m).map f).toArray else f 0) := by
  unfold S1.mk at h
  split at h
  · rename_i hg
    subst hg
    cases h
    refine ⟨by simp, _, rfl, by simp [hl], fun j c hj => ⟨f j, ?_, hc j c hj⟩⟩
    have : j < m := by rw [← hl]; exact (List.getElem?_eq_some_iff.1 hj).1
    simp [this]
  · rename_i hg
    have hg' : g = false := by simpa using hg
    subst hg'
    split at h
    · rename_i c
      cases h
      exact ⟨fun _ => by simpa using hl.symm, hc 0 c rfl⟩
    · cases h

theorem sub_get {α : Type} {l : List α} {off m j : Nat} {x : α} (h : ((l.drop off).take m)[j]? = some x) : l[off + j]? = some x ∧ j < m := by
  rw [List.getElem?_take] at h
  split at h
  · rename_i hj; rw [List.getElem?_drop] at h; exact ⟨h, hj⟩
  · cases h

theorem gets_sound {x i : A} {s : Nat} : ∀ (m off : Nat) (S : St) (K : List A → St → Option IR) (ρ : List DV) (ir : IR), gets x i s m off S K = some ir → IRwp P As ρ ir Q → ρ.length = S.nv → x.lt S.nv = true → i.lt S.nv = true →
    ∃ l n ρ' ir', K l { S with nv := n } = some ir' ∧ IRwp P As ρ' ir' Q ∧ Ext ρ ρ' ∧ ρ'.length = n ∧ l.length = m ∧
      ∀ (j : Nat) (z : A), l[j]? = some z → ∃ d len cells kI iv, x.rd ρ = some (.list len cells) ∧ i.rd ρ = some (.int kI iv) ∧ 0 ≤ iv ∧ iv < (len : Int) ∧ cells[iv.toNat * s + (off + j)]? = some d ∧ z.rd ρ' = some d
  | 0, off, S, K, ρ, ir, h, hw, hl, hx, hi => ⟨[], S.nv, ρ, ir, h, hw, Ext.refl _, hl, rfl, fun j z hj => by simp at hj⟩
  | m + 1, off, S, K, ρ, ir, h, hw, hl, hx, hi => by
    simp only [gets] at h
    obtain ⟨z, d, n, ρ1, ir1, hlt, hd, hK, hw1, hE1, hl1, hz⟩ := prim_sound h hw hl
    have mono : ∀ (a : A), a.lt S.nv = true → a.lt n = true := fun a ha => by
      cases a with
      | var k =>
        have hk : k < S.nv := by simpa [A.lt] using ha
        have : ρ1[k]? = some (ρ[k]'(by omega)) := hE1 k _ (by simp)
        have := (List.getElem?_eq_some_iff.1 this).1
        simp only [A.lt, decide_eq_true_eq]; omega
      | _ => rfl
    obtain ⟨l, n', ρ', ir', hK', hw', hE', hl', hlen, hget⟩ := gets_sound m (off + 1) { S with nv := n } _ ρ1 ir1 hK hw1 hl1 (mono x hx) (mono i hi)
    refine ⟨z :: l, n', ρ', ir', hK', hw', hE1.trans hE', hl', by simp [hlen], fun j y hj => ?_⟩
    obtain ⟨dx, hdx⟩ := rd_of_lt hx hl
    obtain ⟨di, hdi⟩ := rd_of_lt hi hl
    cases j with
    | zero =>
      simp at hj; subst hj
      simp only [List.map_cons, List.map_nil, A.ev_of_rd hdx, A.ev_of_rd hdi] at hd
      cases dx <;> cases di <;> simp only [Prim.den] at hd <;> try (cases hd; done)
      split at hd
      · rename_i hb
        exact ⟨d, _, _, _, _, hdx, hdi, hb.1, hb.2, by simpa using hd, A.rd_ext hE' hz⟩
      · cases hd
    | succ j =>
      obtain ⟨d', len, cells, kI, iv, h1, h2, h3, h4, h5, h6⟩ := hget j y (by simpa using hj)
      rw [A.rd_ext hE1 hdx] at h1; cases h1
      rw [A.rd_ext hE1 hdi] at h2; cases h2
      exact ⟨d', len, cells, kI, iv, hdx, hdi, h3, h4, by rw [show off + (j + 1) = off + 1 + j by omega]; exact h5, h6⟩

theorem op_load {T : TypeId} {x : Operand} (ho : o.op = .load T x) (hks : ∀ k ∈ namedOf S o.op, k ∈ ks) (h : symOp P o 0 S.nb S K = some ir) (hw : IRwp P As ρ ir Q) (hl : ρ.length = S.nv) (hid : S.bl S.nb = none) : OpOut P o S.nb S ks K As ρ Q := by
  have hm : x ∈ o.op.operands := by simp [ho, Op.operands]
  have hxg : ∀ g, x = .global g → False := fun g hg => by
    subst hg
    unfold symOp at h
    simp only [ho] at h
    cases h
    exact hw
  have hcell : ∀ {w : World} {b : Nat} {arr : Array Value} {T' : TypeId} {fz : Nat × Nat} {off j : Nat}, w.heap[b]? = some (.cells arr T' fz) → w.cell? ((⟨b, off, none⟩ : Addr).add j) = arr[off + j]? := by
    intro w b arr T' fz off j hh
    rw [Addr_off]; simp [World.cell?, hh]
  have run : ∀ (a : Act) (w : World) (ad : Addr) (v : Value), a.eval x = .pointer (some ad) → (loadVar T ad).run P w = .ok v w → (execOp a.eval o).run P w = .ok (.value v) w := by
    intro a w ad v he hr
    simp only [execOp, ho, he, Instr.loadAt, Instr.sureAddr]
    simp [hr]
  have elem : ∀ {y i : A} {s m off : Nat} (hne : m ≠ 0) (hy : y.lt S.nv = true) (hi : i.lt S.nv = true) (hs : sizeT P T = some m)
      (hh : (gets y i s m off S fun l S => match S1.mk (isAggB P T) (l.map .at) with | some v => K (some (.s v)) S | none => none) = some ir)
      (mem : ∀ (ρf : List DV), Ext ρ ρf → ∀ (w0 : World) (ok0 : Nat → Prop) (fs : List (Array Value)) (stk : List Frm) (β : Bm) (nt : Nat) (tm : Nat → Option SV) (bl : Nat → Option Blk) (a : Act) (w : World),
        RM w0 ok0 fs stk ρf β nt tm bl a w → (∀ x ∈ o.op.operands, evT tm x = S.ev x) → (∀ k ∈ ks, bl k = S.bl k) → ∀ len cells kI iv, y.rd ρf = some (.list len cells) → i.rd ρf = some (.int kI iv) → 0 ≤ iv → iv < (len : Int) →
          ∃ (ad : Addr) (f : Nat → Value), a.eval x = .pointer (some ad) ∧ ∀ (j : Nat) (d : DV), cells[iv.toNat * s + (off + j)]? = some d → w.cell? (ad.add j) = some (f j) ∧ Reads (okS w0 ok0 bl β) w d (f j)), OpOut P o S.nb S ks K As ρ Q := by
    intro y i s m off hne hy hi hs hh mem
    obtain ⟨l, n, ρ', ir', hK, hw', hE', hl', hlen, hget⟩ := gets_sound m off S _ ρ ir hh hw hl hy hi
    split at hK
    · rename_i v hv
      refine OpOut.plain (n := n) hE' hl' hK hw' hid fun ρf hE w0 ok0 fs stk β nt tm bl a w H hag hbl => ?_
      have hm0 : m ≠ 0 → ∃ (ad : Addr) (f : Nat → Value), a.eval x = .pointer (some ad) ∧ ∀ (j : Nat) (z : A), l[j]? = some z → w.cell? (ad.add j) = some (f j) ∧ CRep ρf β (okS w0 ok0 bl β) w (.at z) (f j) := by
        intro hne
        obtain ⟨d, len, cells, kI, iv, h1, h2, h3, h4, h5, h6⟩ := hget 0 (l[0]'(by omega)) (by simp)
        obtain ⟨ad, f, he, hc⟩ := mem ρf (hE'.trans hE) w0 ok0 fs stk β nt tm bl a w H hag hbl len cells kI iv (A.rd_ext (hE'.trans hE) h1) (A.rd_ext (hE'.trans hE) h2) h3 h4
        refine ⟨ad, f, he, fun j z hz => ?_⟩
        obtain ⟨d', len', cells', kI', iv', g1, g2, g3, g4, g5, g6⟩ := hget j z hz
        rw [h1] at g1; cases g1
        rw [h2] at g2; cases g2
        obtain ⟨c1, c2⟩ := hc j d' g5
        exact ⟨c1, d', A.rd_ext hE g6, c2⟩
      obtain ⟨ad, f, he, hc⟩ := hm0 hne
      have hcr : ∀ (j : Nat) (c : C), (l.map C.at)[j]? = some c → CRep ρf β (okS w0 ok0 bl β) w c (f j) := fun j c hj => by
        rw [List.getElem?_map] at hj
        cases hz : l[j]? with
        | none => rw [hz] at hj; cases hj
        | some z => rw [hz] at hj; cases hj; exact (hc j z hz).2
      obtain ⟨g1, g2⟩ := S1_mk_rep hv (by simpa using hlen) hcr
      refine ⟨_, run a w _ _ he (run_loadVar_cells (f := f) hs (fun j hj => ?_) g1), fun s hs => by cases hs; exact g2⟩
      exact (hc j (l[j]'(by omega)) (by simp)).1
    · cases hK
  unfold symOp at h
  simp only [ho] at h
  split at h
  · rename_i k off m hx hs
    split at h
    · rename_i cs U ro hb
      split at h
      · rename_i hle
        split at h
        · rename_i v hv
          refine OpOut.plain (ρ' := ρ) (n := S.nv) (Ext.refl _) hl h hw hid fun ρf hE w0 ok0 fs stk β nt tm bl a w H hag hbl => ?_
          obtain ⟨b, hβ, he⟩ := H.one (x := x) (by rw [hag x hm]; exact hx)
          have hbk : bl k = some (.box cs U ro) := by rw [hbl k (hks k (named_mem hm (by simp [hx, SV.blocks, S1.cells, C.blocks])))]; exact hb
          obtain ⟨b', arr, T', fz, h1, h2, h3, _, _⟩ := H.hbl k _ hbk
          rw [hβ] at h1; cases h1
          have hcr : ∀ (j : Nat) (c : C), ((cs.drop off).take m)[j]? = some c → CRep ρf β (okS w0 ok0 bl β) w c (arr.getD (off + j) undef) := fun j c hj => by
            obtain ⟨hj1, _⟩ := sub_get hj
            obtain ⟨u, hu, hr⟩ := h3.2 _ _ hj1
            simpa [Array.getD_eq_getD_getElem?, hu] using hr
          obtain ⟨g1, g2⟩ := S1_mk_rep (m := m) hv (by simp; omega) hcr
          refine ⟨_, run a w _ _ he (run_loadVar_cells (f := fun j => arr.getD (off + j) undef) hs (fun j hj => ?_) g1), fun s hs => by cases hs; exact g2⟩
          rw [hcell h2]
          have : off + j < arr.size := by rw [h3.1]; omega
          simp [Array.getD_eq_getD_getElem?, this]
        · cases h
      · cases h
    · cases h
  · rename_i y i s off m hx hs
    split at h
    · rename_i hlt
      simp only [Bool.and_eq_true] at hlt
      refine elem (by omega) hlt.1 hlt.2 hs h fun ρf hE w0 ok0 fs stk β nt tm bl a w H hag hbl len cells kI iv e1 e2 e3 e4 => ?_
      obtain ⟨n', cells', kI', iv', ad, cap, h1, h2, h3, h4, h5, h6, he⟩ := H.one (x := x) (by rw [hag x hm]; exact hx)
      rw [h1] at e1; cases e1
      rw [h2] at e2; cases e2
      obtain ⟨a', cap', hv, _, f, hmem, hrd⟩ := reads_list h6
      cases hv
      refine ⟨_, fun j => f (iv.toNat * s + (off + j)), he, fun j d hd => ?_⟩
      have hlen := (List.getElem?_eq_some_iff.1 hd).1
      obtain ⟨ad', had, _, hc⟩ := hmem (by intro h0; rw [h0] at hlen; simp at hlen)
      cases had
      refine ⟨?_, hrd _ _ hd⟩
      rw [Addr_add_add, Nat.add_assoc]
      exact hc _ hlen
    · cases h
  · rename_i k i s off m hx hs
    split at h
    · rename_i y hy
      split at h
      · rename_i hlt
        simp only [Bool.and_eq_true] at hlt
        refine elem (by omega) hlt.1 hlt.2 hs h fun ρf hE w0 ok0 fs stk β nt tm bl a w H hag hbl len cells kI iv e1 e2 e3 e4 => ?_
        obtain ⟨b, n', cap, kI', iv', h1, h2, h3, h4, he⟩ := H.one (x := x) (by rw [hag x hm]; exact hx)
        rw [h2] at e2; cases e2
        have hbk : bl k = S.bl k := hbl k (hks k (named_mem hm (by simp [hx, SV.blocks, S1.cells, C.blocks])))
        simp only [St.listOf] at hy
        split at hy
        · rename_i x' s' E' hk
          cases hy
          obtain ⟨v, n2, cells2, g1, g2, xs, ho', hl', hc'⟩ := H.hbl k _ (hbk.trans hk)
          rw [h1] at g1; cases g1
          rw [e1] at g2; cases g2
          refine ⟨_, fun j => xs.getD (iv.toNat * s + (off + j)) undef, he, fun j d hd => ?_⟩
          obtain ⟨u, hu, hr⟩ := hc' _ d hd
          have hx2 : xs.getD (iv.toNat * s + (off + j)) undef = u := by simp [List.getD, hu]
          simp only [hx2]
          refine ⟨?_, hr⟩
          have := World.ownsR.cells ho' (g := b) rfl _ u hu
          rw [Addr_plain] at this
          rw [Addr_off, Nat.add_assoc]
          exact this
        · rename_i x' hk
          cases hy
          obtain ⟨v, n2, cells2, g1, g2, g3, _⟩ := H.hbl k _ (hbk.trans hk)
          rw [h1] at g1; cases g1
          rw [e1] at g2; cases g2
          obtain ⟨a', cap', hv, _, f, hmem, hrd⟩ := reads_list g3
          cases hv
          refine ⟨_, fun j => f (iv.toNat * s + (off + j)), he, fun j d hd => ?_⟩
          have hlen := (List.getElem?_eq_some_iff.1 hd).1
          obtain ⟨ad', had, _, hc⟩ := hmem (by intro h0; rw [h0] at hlen; simp at hlen)
          cases had
          refine ⟨?_, hrd _ _ hd⟩
          have := hc _ hlen
          rw [Addr_plain] at this
          rw [Addr_off, Nat.add_assoc]
          exact this
        · cases hy
      · cases h
    · cases h
  · cases h

end
end Go.Px

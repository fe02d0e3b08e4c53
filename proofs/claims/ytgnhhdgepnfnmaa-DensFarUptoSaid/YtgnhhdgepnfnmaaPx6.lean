/- Px6: one operation, part four: parts of values, places in lists, lengths, closures, structs. -/
import Derived.Test.YtgnhhdgepnfnmaaPx5
import Derived.Laws.Strings
set_option linter.unusedSimpArgs false
set_option linter.unusedVariables false
namespace Go.Px
open Go.RowKit
section
variable {P : Program} {o : Oper} {ks : List Nat} {S : St} {K : Option SV → St → Option IR} {As : List (List DV → Prop)} {ρ : List DV} {Q : List AV → Prop} {ir : IR}

theorem run_part {t : TypeId} {m off : Nat} {cs : Array Value} {w : World} (hs : sizeT P t = some m) (hle : off + m ≤ cs.size) (h1 : isAggB P t = false → m = 1) :
    (part t cs off).run P w = .ok (if isAggB P t then .agg ((List.range m).map fun j => cs.getD (off + j) undef).toArray else cs.getD off undef) w := by
  obtain ⟨hu, ti, hti, hm⟩ := sizeT_some hs
  unfold part
  rw [Sem.run_bind, isAgg_run hu]
  cases hb : isAggB P t
  · have : off < cs.size := by have := h1 hb; omega
    simp [this, Array.getD_eq_getD_getElem?]
  · simp only [Result.andThen_ok, if_true, Sem.run_bind, sizeOf, typeInfo, program, Sem.run, hti, hm, Sem.run_pure]
    congr 2
    apply Array.ext'
    apply List.ext_getElem?
    intro j
    simp only [Array.toList_extract, List.getElem?_map]
    by_cases hj : j < m
    · have h2 : off + j < cs.size := by omega
      simp [List.getElem?_range hj, List.extract_eq_take_drop, List.getElem?_take, hj, Array.getD_eq_getD_getElem?, h2]
    · simp [List.extract_eq_take_drop, List.getElem?_take, hj]

theorem op_field {t : TypeId} {x : Operand} {f : Nat} (ho : o.op = .field t x f) (h : symOp P o 0 S.nb S K = some ir) (hw : IRwp P As ρ ir Q) (hl : ρ.length = S.nv) (hid : S.bl S.nb = none) : OpOut P o S.nb S ks K As ρ Q := by
  have hm : x ∈ o.op.operands := by simp [ho, Op.operands]
  unfold symOp at h
  simp only [ho] at h
  split at h
  · rename_i fds hu
    split at h
    · rename_i fd hf
      split at h
      · rename_i m cs hs hx
        split at h
        · rename_i hle
          split at h
          · rename_i v hv
            refine OpOut.plain (ρ' := ρ) (n := S.nv) (Ext.refl _) hl h hw hid fun ρf hE w0 ok0 fs stk β nt tm bl a w H hag hb => ?_
            obtain ⟨vs, he, hsz, hc⟩ := H.eval (x := x) (by rw [hag x hm]; exact hx)
            have hcr : ∀ (j : Nat) (c : C), ((cs.drop fd.offset).take m)[j]? = some c → CRep ρf β (okS w0 ok0 bl β) w c (vs.getD (fd.offset + j) undef) := fun j c hj => by
              obtain ⟨hj1, _⟩ := sub_get hj
              obtain ⟨u, hu, hr⟩ := hc _ _ hj1
              simpa [Array.getD_eq_getD_getElem?, hu] using hr
            obtain ⟨g1, g2⟩ := S1_mk_rep (m := m) hv (by simp; omega) hcr
            refine ⟨_, ?_, fun s hs => by cases hs; exact g2⟩
            simp only [execOp, ho, he, Instr.field, Sem.run_bind, run_underlying hu, Result.andThen_ok, hf, asAgg, Sem.run_pure, run_part hs (by rw [hsz]; exact hle) g1, Nat.add_zero]
          · cases h
        · cases h
      · cases h
    · cases h
  · cases h

theorem op_index {t : TypeId} {x i : Operand} (ho : o.op = .index t x i) (h : symOp P o 0 S.nb S K = some ir) (hw : IRwp P As ρ ir Q) (hl : ρ.length = S.nv) (hid : S.bl S.nb = none) : OpOut P o S.nb S ks K As ρ Q := by
  have hm : x ∈ o.op.operands := by simp [ho, Op.operands]
  have hmi : i ∈ o.op.operands := by simp [ho, Op.operands]
  have key : ∀ (s : ByteArray), x = .const (.string s) → OpOut P o S.nb S ks K As ρ Q := by
    intro s hx
    subst hx
    unfold symOp at h
    simp only [ho] at h
    split at h
    · rename_i z hu hi
      refine op_prim1 hmi hi h hw hl hid fun a w ok d d' hr hd => ?_
      cases d <;> simp only [Prim.den] at hd <;> try (cases hd; done)
      rename_i k iv
      split at hd
      · rename_i h0
        obtain ⟨n, hn, rfl⟩ := Option.map_eq_some_iff.1 hd
        rw [List.getElem?_map] at hn
        obtain ⟨b, hb, rfl⟩ := Option.map_eq_some_iff.1 hn
        obtain ⟨hlt, hn⟩ := List.getElem?_eq_some_iff.1 hb
        have hlt' : iv.toNat < s.size := by rw [Array.length_toList] at hlt; exact hlt
        refine ⟨_, ?_, .int _ _⟩
        have he : a.eval (.const (.string s)) = .string s := rfl
        simp only [execOp, ho, he, reads_int hr]
        rw [Sem.run_bind, run_index_string (P := P) w t s k iv hu, dif_pos ⟨h0, by omega⟩]
        simp only [Result.andThen_ok, Sem.run_pure]
        congr 3
        rw [← hn]
        simp [ByteArray.getElem_eq_getElem_data]
      · cases hd
    · cases h
  have rest : (∀ (s : ByteArray), x ≠ .const (.string s)) → OpOut P o S.nb S ks K As ρ Q := by
    intro hne
    unfold symOp at h
    simp only [ho] at h
    split at h
    · rename_i n e cs kI jv hu hx hi
      split at h
      · rename_i s hs
        split at h
        · rename_i hj
          split at h
          · rename_i v hv
            refine OpOut.plain (ρ' := ρ) (n := S.nv) (Ext.refl _) hl h hw hid fun ρf hE w0 ok0 fs stk β nt tm bl a w H hag hb => ?_
            obtain ⟨vs, he, hsz, hc⟩ := H.eval (x := x) (by rw [hag x hm]; exact hx)
            obtain ⟨di, hdi, hri⟩ := H.one (x := i) (by rw [hag i hmi]; exact hi)
            cases hdi
            have hcr : ∀ (j : Nat) (c : C), ((cs.drop (jv.toNat * s)).take s)[j]? = some c → CRep ρf β (okS w0 ok0 bl β) w c (vs.getD (jv.toNat * s + j) undef) := fun j c hj => by
              obtain ⟨hj1, _⟩ := sub_get hj
              obtain ⟨u, hu, hr⟩ := hc _ _ hj1
              simpa [Array.getD_eq_getD_getElem?, hu] using hr
            obtain ⟨g1, g2⟩ := S1_mk_rep (m := s) hv (by simp; omega) hcr
            obtain ⟨_, ti, hti, hm2⟩ := sizeT_some hs
            refine ⟨_, ?_, fun s hs => by cases hs; exact g2⟩
            simp only [execOp, ho, he, reads_int hri, Instr.index, Sem.run_bind, run_underlying hu, Result.andThen_ok, asIntOf, Sem.run_pure, Sem.run_ite, hj.1, hj.2.1, and_self, if_true, sizeOf, typeInfo, program, Sem.run, hti, hm2,
              run_part hs (by rw [hsz]; exact hj.2.2) g1, Nat.add_zero]
          · cases h
        · cases h
      · cases h
    · cases h
  by_cases hs : ∃ s : ByteArray, x = .const (.string s)
  · obtain ⟨s, hs⟩ := hs; exact key s hs
  · exact rest fun s hx => hs ⟨s, hx⟩

theorem op_makeFunc {fn : Fn} {first caps : Array Operand} (ho : o.op = .makeFunc fn first caps) (h : symOp P o 0 S.nb S K = some ir) (hw : IRwp P As ρ ir Q) (hl : ρ.length = S.nv) (hid : S.bl S.nb = none) : OpOut P o S.nb S ks K As ρ Q := by
  cases fn with
  | func f =>
    unfold symOp at h
    simp only [ho] at h
    split at h
    · rename_i h0
      split at h
      · rename_i l hk
        refine OpOut.plain (ρ' := ρ) (n := S.nv) (Ext.refl _) hl h hw hid fun ρf hE w0 ok0 fs stk β nt tm bl a w H hag hb => ?_
        have hf0 : first = #[] := by simpa using h0
        subst hf0
        refine ⟨.func (.func f) #[] (caps.map a.eval), by simp [execOp, ho, Instr.makeFunc], fun s hs => ?_⟩
        cases hs
        have hh := mapM_get _ _ _ hk
        refine ⟨_, rfl, by simpa using hh.1.symm, fun j k hj => ?_⟩
        obtain ⟨x, hx, he⟩ := mapM_back _ hk hj
        split at he
        · rename_i k' hev
          cases he
          have hmem : x ∈ o.op.operands := by
            simp only [ho, Op.operands]
            have : x ∈ caps := by
              have := List.mem_of_getElem? hx
              simpa using this
            simp [this]
          obtain ⟨b, hβ, hv⟩ := H.one (x := x) (by rw [hag x hmem]; exact hev)
          refine ⟨b, hβ, ?_⟩
          have hx' : caps[j]? = some x := by simpa using hx
          simp [hx', hv]
        · cases he
      · cases h
    · cases h
  | _ =>
    unfold symOp at h
    simp only [ho] at h
    cases h

theorem op_indexAddr {t : TypeId} {x i : Operand} (ho : o.op = .indexAddr t x i) (hks : ∀ k ∈ namedOf S o.op, k ∈ ks) (h : symOp P o 0 S.nb S K = some ir) (hw : IRwp P As ρ ir Q) (hl : ρ.length = S.nv) (hid : S.bl S.nb = none) : OpOut P o S.nb S ks K As ρ Q := by
  have hm : x ∈ o.op.operands := by simp [ho, Op.operands]
  have hmi : i ∈ o.op.operands := by simp [ho, Op.operands]
  unfold symOp at h
  simp only [ho] at h
  split at h
  · rename_i n e k off kI jv hu hx hi
    split at h
    · rename_i s hs
      split at h
      · rename_i hj
        refine OpOut.plain (ρ' := ρ) (n := S.nv) (Ext.refl _) hl h hw hid fun ρf hE w0 ok0 fs stk β nt tm bl a w H hag hb => ?_
        obtain ⟨b, hβ, he⟩ := H.one (x := x) (by rw [hag x hm]; exact hx)
        obtain ⟨di, hdi, hri⟩ := H.one (x := i) (by rw [hag i hmi]; exact hi)
        cases hdi
        obtain ⟨_, ti, hti, hm2⟩ := sizeT_some hs
        refine ⟨_, ?_, fun s' hs' => by cases hs'; exact ⟨b, hβ, rfl⟩⟩
        simp [execOp, ho, he, reads_int hri, Instr.indexAt, run_underlying hu, asIntOf, Instr.sureAddr, hj.1, hj.2, sizeOf, typeInfo, program, Sem.run, hti, hm2, Addr_off]
      · cases h
    · cases h
  · rename_i e c z hu hx hi
    split at h
    · rename_i s' hs
      obtain ⟨_, ti, hti, hm2⟩ := sizeT_some hs
      have run : ∀ (a : Act) (w : World) (ad : Addr) (n cap : Nat) (kI : IntKind) (iv : Int), a.eval x = .slice (some ad) n cap → a.eval i = .int kI iv → 0 ≤ iv → iv < (n : Int) →
          (execOp a.eval o).run P w = .ok (.value (.pointer (some (ad.add (iv.toNat * (s' + 1)))))) w := by
        intro a w ad n cap kI iv h1 h2 h3 h4
        simp [execOp, ho, h1, h2, Instr.indexAt, run_underlying hu, asIntOf, h3, h4, sizeOf, typeInfo, program, Sem.run, hti, hm2]
      have foreign : ∀ y : A, (∀ {ρ : List DV} {β : Bm} {ok : Nat → Prop} {w : World} {v : Value}, CRep ρ β ok w c v → ∃ d, y.rd ρ = some d ∧ Reads ok w d v) →
          (prim (.inb (s' + 1)) [y, z] S fun _ S => K (some (.s (.one (.fp y z (s' + 1) 0)))) S) = some ir → OpOut P o S.nb S ks K As ρ Q := by
        intro y hy hp
        obtain ⟨zz, d, n, ρ', ir', hlt, hd, hK, hw', hE', hl', hz⟩ := prim_sound hp hw hl
        refine OpOut.plain hE' hl' hK hw' hid fun ρf hE w0 ok0 fs stk β nt tm bl a w H hag hb => ?_
        obtain ⟨dy, hdy, hry⟩ := hy (H.one (x := x) (by rw [hag x hm]; exact hx))
        obtain ⟨di, hdi, hri⟩ := H.one (x := i) (by rw [hag i hmi]; exact hi)
        simp only [List.all_cons, List.all_nil, Bool.and_true, Bool.and_eq_true] at hlt
        simp only [List.map_cons, List.map_nil, ev_of_ext hlt.1 hl (hE'.trans hE) hdy, ev_of_ext hlt.2 hl (hE'.trans hE) hdi] at hd
        cases dy <;> cases di <;> simp only [Prim.den] at hd <;> try (cases hd; done)
        rename_i len cells kI iv
        split at hd
        · rename_i hb3
          obtain ⟨a', cap', hv, hcap, f, hmem, hrd⟩ := reads_list hry
          have hne : cells ≠ [] := by
            intro h0; subst h0
            have := hb3.2.2
            simp only [List.length_nil, Nat.le_zero, Nat.mul_eq_zero] at this
            omega
          obtain ⟨ad, had, _, _⟩ := hmem hne
          subst had
          refine ⟨_, run a w ad len cap' kI iv hv (reads_int hri) hb3.1 hb3.2.1, fun s hs => ?_⟩
          cases hs
          exact ⟨len, cells, kI, iv, ad, cap', hdy, hdi, hb3.1, hb3.2.1, hb3.2.2, by rw [← hv]; exact hry, by simp⟩
        · cases hd
      have ownp : ∀ (k : Nat) (y : A), c = .own k → ((∃ s E, S.bl k = some (.own y s E)) ∨ S.bl k = some (.fro y)) →
          (prim (.inb (s' + 1)) [y, z] S fun _ S => K (some (.s (.one (.op k z (s' + 1) 0)))) S) = some ir → OpOut P o S.nb S ks K As ρ Q := by
        intro k y hck hkb hp
        subst hck
        obtain ⟨zz, d, n, ρ', ir', hlt, hd, hK, hw', hE', hl', hz⟩ := prim_sound hp hw hl
        refine OpOut.plain hE' hl' hK hw' hid fun ρf hE w0 ok0 fs stk β nt tm bl a w H hag hb => ?_
        have hbk : bl k = S.bl k := hb k (hks k (named_mem hm (by simp [hx, SV.blocks, S1.cells, C.blocks])))
        have hβ := H.one (x := x) (by rw [hag x hm]; exact hx)
        simp only [CRep] at hβ
        obtain ⟨di, hdi, hri⟩ := H.one (x := i) (by rw [hag i hmi]; exact hi)
        have hrow : ∃ len cells, y.rd ρf = some (.list len cells) ∧ (a.eval x = .slice none 0 0 ∧ cells.length = 0 ∨ ∃ b cap, a.eval x = .slice (some ⟨b, 0, none⟩) len cap) := by
          rcases hkb with ⟨s2, E2, hk2⟩ | hk2
          · obtain ⟨v, n2, cells2, g1, g2, g3⟩ := H.hbl k _ (hbk.trans hk2)
            rw [hβ] at g1; cases g1
            refine ⟨n2, cells2, g2, ?_⟩
            obtain ⟨xs, ho', hl2, _⟩ := g3
            rcases ho'.2 with ⟨hv, h0⟩ | ⟨g, cap, cur, hv, _⟩
            · exact .inl ⟨hv, by rw [← hl2, ho'.1, h0]; simp⟩
            · exact .inr ⟨g, cap, hv⟩
          · obtain ⟨v, n2, cells2, g1, g2, g3, g4⟩ := H.hbl k _ (hbk.trans hk2)
            rw [hβ] at g1; cases g1
            refine ⟨n2, cells2, g2, ?_⟩
            rcases g4 with hv | ⟨b, cap, hv⟩
            · refine .inl ⟨hv, ?_⟩
              obtain ⟨a', cap', hv', _, f, hmem, _⟩ := reads_list g3
              rw [hv] at hv'; cases hv'
              rcases Nat.eq_zero_or_pos cells2.length with h0 | h0
              · exact h0
              · obtain ⟨ad, had, _⟩ := hmem (List.length_pos_iff.1 h0)
                cases had
            · exact .inr ⟨b, cap, hv⟩
        obtain ⟨len, cells, hy, hcase⟩ := hrow
        simp only [List.all_cons, List.all_nil, Bool.and_true, Bool.and_eq_true] at hlt
        simp only [List.map_cons, List.map_nil, ev_of_ext hlt.1 hl (hE'.trans hE) hy, ev_of_ext hlt.2 hl (hE'.trans hE) hdi] at hd
        cases di <;> simp only [Prim.den] at hd <;> try (cases hd; done)
        rename_i kI iv
        split at hd
        · rename_i hb3
          rcases hcase with ⟨_, h0⟩ | ⟨b, cap, hv⟩
          · have := hb3.2.2
            rw [h0] at this
            simp only [Nat.le_zero, Nat.mul_eq_zero] at this
            omega
          · refine ⟨_, run a w ⟨b, 0, none⟩ len cap kI iv hv (reads_int hri) hb3.1 hb3.2.1, fun s hs => ?_⟩
            cases hs
            exact ⟨b, len, cap, kI, iv, by rw [hβ, hv], hdi, hb3.1, hb3.2.1, by rw [Addr_plain]; simp⟩
        · cases hd
      split at h
      · rename_i k
        split at h
        · rename_i y s2 E2 hk2; exact ownp k y rfl (.inl ⟨s2, E2, hk2⟩) h
        · rename_i y hk2; exact ownp k y rfl (.inr hk2) h
        · cases h
      · rename_i y; exact foreign y (fun hr => hr) h
      · rename_i y; exact foreign y (fun hr => by obtain ⟨d, h1, h2, _⟩ := hr; exact ⟨d, h1, h2⟩) h
      · rename_i k lo n s''
        split at h
        · rename_i hc
          simp only [Bool.and_eq_true, decide_eq_true_eq] at hc
          obtain ⟨rfl, hlo⟩ := hc
          obtain ⟨z1, d1, n1, ρ1, ir1, hlt1, hd1, hK1, hw1, hE1, hl1, hz1⟩ := prim_sound h hw hl
          obtain ⟨z2, d2, n2, ρ2, ir2, hlt2, hd2, hK2, hw2, hE2, hl2, hz2⟩ := prim_sound hK1 hw1 hl1
          refine OpOut.plain (hE1.trans hE2) hl2 hK2 hw2 hid fun ρf hE w0 ok0 fs stk β nt tm bl a w H hag hb => ?_
          obtain ⟨b, nk, capk, kI, lv, kJ, nv, ad, cap, g1, g2, g3, g4, g5, g6, g7, g8, _⟩ := H.one (x := x) (by rw [hag x hm]; exact hx)
          obtain ⟨di, hdi, hri⟩ := H.one (x := i) (by rw [hag i hmi]; exact hi)
          simp only [List.all_cons, List.all_nil, Bool.and_true, Bool.and_eq_true] at hlt1
          obtain ⟨di', hdi'⟩ := rd_of_lt hlt1.1 hl
          obtain ⟨dn', hdn'⟩ := rd_of_lt hlt1.2 hl
          obtain ⟨dl', hdl'⟩ := rd_of_lt hlo hl
          have ef := (hE1.trans hE2).trans hE
          rw [A.rd_ext ef hdi'] at hdi; cases hdi
          rw [A.rd_ext ef hdn'] at g3; cases g3
          rw [A.rd_ext ef hdl'] at g2; cases g2
          simp only [List.map_cons, List.map_nil, A.ev_of_rd hdi', A.ev_of_rd hdn'] at hd1
          simp only [List.map_cons, List.map_nil, A.ev_of_rd (A.rd_ext hE1 hdi'), A.ev_of_rd (A.rd_ext hE1 hdl')] at hd2
          cases di <;> simp only [Prim.den] at hd1 <;> try (cases hd1; done)
          rename_i kK iv
          split at hd1
          · rename_i hb3
            simp only [Prim.den, Option.some.injEq] at hd2
            have hn0 : 0 < nv := by omega
            have hnat : (nv.toNat : Int) = nv := Int.toNat_of_nonneg g5
            obtain ⟨b, rfl, hadd⟩ := g8 hn0
            refine ⟨_, run a w ⟨b, lv.toNat * (s' + 1), none⟩ nv.toNat cap kK iv (by rw [g7, hadd]) (reads_int hri) hb3.1 (by omega), fun s hs => ?_⟩
            cases hs
            refine ⟨b, nk, capk, .i64, lv + iv, g1, by rw [A.rd_ext hE hz2, ← hd2], by omega, by omega, ?_⟩
            rw [Addr_off]
            have : (lv + iv).toNat = lv.toNat + iv.toNat := by omega
            rw [this, Nat.add_mul]; rfl
          · cases hd1
        · cases h
      · cases h
    · cases h
  · cases h

end
end Go.Px

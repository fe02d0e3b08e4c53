/- Px5: one operation, part three: comparisons, places, loads, building. -/
import Derived.Test.YtgnhhdgepnfnmaaPx4
import Derived.Laws.StructEq
set_option linter.unusedSimpArgs false
set_option linter.unusedVariables false
namespace Go.Px
open Go.RowKit
section
variable {P : Program} {o : Oper} {ks : List Nat} {S : St} {K : Option SV → St → Option IR} {As : List (List DV → Prop)} {ρ : List DV} {Q : List AV → Prop} {ir : IR}

theorem isAgg_run0 {t : TypeId} {w : World} (hu : (P.underlying t).isSome = true) : (isAgg t).run P w = .ok (isAggB P t) w := by
  obtain ⟨d, hd⟩ := Option.isSome_iff_exists.1 hu
  unfold isAggB
  simp only [isAgg, Sem.run_bind, run_underlying hd, Result.andThen_ok, hd]
  cases d <;> rfl
theorem plainT_cases {t : TypeId} (h : plainT P t = true) : P.underlying t = some .bool ∨ ∃ k, P.underlying t = some (.int k) := by
  unfold plainT at h
  split at h
  · rename_i hu; exact .inl hu
  · rename_i k hu; exact .inr ⟨k, hu⟩
  · cases h
theorem kind_t {t : TypeId} (h : plainT P t = true) (k : kindT P t = true) : P.underlying t = some .bool := by
  unfold kindT at k
  split at k
  · assumption
  · cases k
theorem kind_f {t : TypeId} (h : plainT P t = true) (k : kindT P t = false) : ∃ q, P.underlying t = some (.int q) := by
  rcases plainT_cases h with e | e
  · simp [kindT, e] at k
  · exact e
/-- One field after the other. -/
theorem run_eqFs {w : World} {ok : Nat → Prop} {xs ys : Array Value} {d : Nat} : ∀ (fs : List Field) (i : Nat) (ds es : List DV) (b : Bool), plainFs P fs i = true → eqDVs (fs.map fun f => kindT P f.type) ds es = some b →
    (∀ (j : Nat) (x : DV), ds[j]? = some x → ∃ u, xs[i + j]? = some u ∧ Reads ok w x u) → (∀ (j : Nat) (x : DV), es[j]? = some x → ∃ u, ys[i + j]? = some u ∧ Reads ok w x u) →
    (Op.eqFields (d + 1) xs ys fs).run P w = .ok b w
  | [], i, ds, es, b, _, h, _, _ => by
    cases ds <;> cases es <;> simp [eqDVs] at h
    subst h; simp [Op.eqFields]
  | f :: fs, i, ds, es, b, hp, h, hx, hy => by
    simp only [plainFs, Bool.and_eq_true, decide_eq_true_eq] at hp
    obtain ⟨⟨⟨⟨ho, hpl⟩, hs⟩, hn⟩, hr⟩ := hp
    cases ds with
    | nil => simp only [List.map_cons] at h; cases hk : kindT P f.type <;> rw [hk] at h <;> simp [eqDVs] at h
    | cons x ds =>
    cases es with
    | nil => simp only [List.map_cons] at h; cases hk : kindT P f.type <;> rw [hk] at h <;> cases x <;> simp [eqDVs] at h
    | cons y es =>
    obtain ⟨u, hu, hru⟩ := hx 0 x rfl
    obtain ⟨v, hv, hrv⟩ := hy 0 y rfl
    have hund : (P.underlying f.type).isSome = true := by rcases plainT_cases hpl with e | ⟨k, e⟩ <;> simp [e]
    have hag : isAggB P f.type = false := by unfold isAggB; rcases plainT_cases hpl with e | ⟨k, e⟩ <;> simp [e]
    have pt : ∀ (arr : Array Value) (z : Value), arr[i + 0]? = some z → (part f.type arr f.offset).run P w = .ok z w := by
      intro arr z hz
      unfold part
      rw [Sem.run_bind, isAgg_run0 hund, hag, ho]
      rw [Nat.add_zero] at hz
      obtain ⟨hlt, he⟩ := Array.getElem?_eq_some_iff.1 hz
      simp [hlt, he]
    have ih := fun b' hb' => run_eqFs (d := d) fs (i + 1) ds es b' hr hb'
      (fun j x hj => by rw [show i + 1 + j = i + (j + 1) by omega]; exact hx (j + 1) x (by simpa using hj)) (fun j x hj => by rw [show i + 1 + j = i + (j + 1) by omega]; exact hy (j + 1) x (by simpa using hj))
    unfold Op.eqFields
    rw [if_pos hn]
    simp only [Sem.run_bind, pt _ _ hu, pt _ _ hv, Result.andThen_ok]
    simp only [List.map_cons] at h
    cases hk : kindT P f.type with
    | true =>
      rw [hk] at h
      cases x <;> cases y <;> simp only [eqDVs] at h <;> try (cases h; done)
      simp only [Option.map_eq_some_iff] at h
      obtain ⟨t, ht, rfl⟩ := h
      cases hru; cases hrv
      rw [run_equalIn_bool' w d f.type _ _ (kind_t hpl hk)]
      simp only [Result.andThen_ok]
      rename_i a c
      cases hac : (a == c)
      · simp
      · simp [ih t ht]
    | false =>
      rw [hk] at h
      obtain ⟨q, hq⟩ := kind_f hpl hk
      cases x <;> cases y <;> simp only [eqDVs] at h <;> try (cases h; done)
      split at h
      · rename_i hkk
        subst hkk
        simp only [Option.map_eq_some_iff] at h
        obtain ⟨t, ht, rfl⟩ := h
        cases hru; cases hrv
        rw [run_equalIn_int w d f.type _ q _ _ hq]
        simp only [Result.andThen_ok]
        rename_i a c
        cases hac : (a == c)
        · simp
        · simp [ih t ht]
      · cases h
theorem op_agg2 {x y : Operand} {t ty : TypeId} {op : BinOp} {xs ys : List C} {l r : List A} {fs : Array Field} {p : Prim} (ho : o.op = .binOp op t x y ty) (hu : P.underlying t = some (.struct fs)) (hx : S.ev x = some (.s (.agg xs))) (hy : S.ev y = some (.s (.agg ys)))
    (hlx : xs.mapM atC = some l) (hly : ys.mapM atC = some r) (heq : eqT P t fs.toList xs.length ys.length = true)
    (hop : (op = .eql ∧ p = .eqs (fs.toList.map fun f => kindT P f.type)) ∨ (op = .neq ∧ p = .nes (fs.toList.map fun f => kindT P f.type)))
    (h : prim p (l ++ r) S (fun z S => K (some (.s (.one (.at z)))) S) = some ir)
    (hw : IRwp P As ρ ir Q) (hl : ρ.length = S.nv) (hid : S.bl S.nb = none) : OpOut P o S.nb S ks K As ρ Q := by
  have hmx : x ∈ o.op.operands := by simp [ho, Op.operands]
  have hmy : y ∈ o.op.operands := by simp [ho, Op.operands]
  simp only [eqT, Bool.and_eq_true, decide_eq_true_eq, Bool.not_eq_true'] at heq
  obtain ⟨⟨⟨⟨hpf, hfl⟩, hxy⟩, hst⟩, hgd⟩ := heq
  obtain ⟨zz, d, n, ρ', ir', hlt, hd, hK, hw', hE', hl', hz⟩ := prim_sound h hw hl
  refine OpOut.plain hE' hl' hK hw' hid fun ρf hE w0 ok0 fs' stk β nt tm bl a w H hag hb => ?_
  obtain ⟨vx, evx, csx⟩ := H.eval (x := x) (by rw [hag x hmx]; exact hx)
  obtain ⟨vy, evy, csy⟩ := H.eval (x := y) (by rw [hag y hmy]; exact hy)
  have gen : ∀ (cs : List C) (as : List A) (vs : Array Value), cs.mapM atC = some as → CsRep ρf β (okS w0 ok0 bl β) w cs vs → (∀ aa ∈ as, aa.lt S.nv = true) →
      ∀ (j : Nat) (dd : DV), (as.map (A.ev ρ))[j]? = some dd → ∃ u, vs[0 + j]? = some u ∧ Reads (okS w0 ok0 bl β) w dd u := by
    intro cs as vs hm hc hl2 j dd hj
    rw [List.getElem?_map, Option.map_eq_some_iff] at hj
    obtain ⟨aa, haa, rfl⟩ := hj
    have hg := mapM_get _ _ _ hm
    have hjl : j < cs.length := by have := (List.getElem?_eq_some_iff.1 haa).1; omega
    obtain ⟨b, hb1, hb2⟩ := hg.2 j cs[j] (by simp)
    rw [haa] at hb1; cases hb1
    obtain ⟨u, hu1, hu2⟩ := hc.2 j cs[j] (by simp)
    cases hcj : cs[j] <;> rw [hcj] at hb2 hu2 <;> simp only [atC] at hb2 <;> try (cases hb2; done)
    cases hb2
    obtain ⟨d', hd', hr'⟩ := hu2
    refine ⟨u, by rw [Nat.zero_add]; exact hu1, ?_⟩
    rw [ev_of_ext (hl2 aa (List.mem_of_getElem? haa)) hl (hE'.trans hE) hd']
    exact hr'
  have hlx1 : l.length = (fs.toList.map fun f => kindT P f.type).length := by rw [(mapM_get _ _ _ hlx).1, List.length_map, hfl]
  have gx := gen xs l vx hlx csx (fun aa ha => List.all_eq_true.1 hlt aa (by simp [ha]))
  have gy := gen ys r vy hly csy (fun aa ha => List.all_eq_true.1 hlt aa (by simp [ha]))
  have hfo : P.fieldsOf t = fs := by unfold Program.fieldsOf; rw [hu]
  have hu' : P.underlying t = some (.struct (P.fieldsOf t)) := by rw [hfo]; exact hu
  have core : ∀ b, eqDVs (fs.toList.map fun f => kindT P f.type) (l.map (A.ev ρ)) (r.map (A.ev ρ)) = some b → (Op.equalIn 10000 t (.agg vx) (.agg vy)).run P w = .ok b w := by
    intro b hb
    rw [run_equalIn_agg w 9999 t vx vy hu' hst, hfo]
    exact run_eqFs (ok := okS w0 ok0 bl β) (d := 9998) fs.toList 0 _ _ b hpf hb gx gy
  rw [List.map_append] at hd
  have htk : List.take (fs.toList.map fun f => kindT P f.type).length (l.map (A.ev ρ) ++ r.map (A.ev ρ)) = l.map (A.ev ρ) := by rw [← hlx1, ← List.length_map (A.ev ρ) (as := l)]; exact List.take_left
  have hdr : List.drop (fs.toList.map fun f => kindT P f.type).length (l.map (A.ev ρ) ++ r.map (A.ev ρ)) = r.map (A.ev ρ) := by rw [← hlx1, ← List.length_map (A.ev ρ) (as := l)]; exact List.drop_left
  rcases hop with ⟨rfl, rfl⟩ | ⟨rfl, rfl⟩
  · simp only [Prim.den, htk, hdr, Option.map_eq_some_iff] at hd
    obtain ⟨b, hb1, rfl⟩ := hd
    refine ⟨.bool b, ?_, fun s hs => by cases hs; exact ⟨_, A.rd_ext hE hz, .bool _⟩⟩
    simp only [execOp, ho, evx, evy]
    rw [Sem.run_bind, Sem.run_bind, run_eqGuard_agg w .eql t x y vx vy hgd]
    simp only [Result.andThen_ok, run_eql_struct, core b hb1]
    rfl
  · simp only [Prim.den, htk, hdr, Option.map_eq_some_iff] at hd
    obtain ⟨b, hb1, rfl⟩ := hd
    refine ⟨.bool (!b), ?_, fun s hs => by cases hs; exact ⟨_, A.rd_ext hE hz, .bool _⟩⟩
    simp only [execOp, ho, evx, evy]
    rw [Sem.run_bind, Sem.run_bind, run_eqGuard_agg w .neq t x y vx vy hgd]
    simp only [Result.andThen_ok, run_neq_struct, core b hb1]
    rfl

theorem op_binOp {op : BinOp} {t : TypeId} {x y : Operand} {ty : TypeId} (ho : o.op = .binOp op t x y ty) (h : symOp P o 0 S.nb S K = some ir) (hw : IRwp P As ρ ir Q) (hl : ρ.length = S.nv) (hid : S.bl S.nb = none) : OpOut P o S.nb S ks K As ρ Q := by
  have hmx : x ∈ o.op.operands := by simp [ho, Op.operands]
  have hmy : y ∈ o.op.operands := by simp [ho, Op.operands]
  unfold symOp at h
  simp only [ho] at h
  split at h
  · rename_i sx sy hx hy
    unfold symBin at h
    split at h
    · rename_i p q
      split at h
      · rename_i hu
        refine op_prim2 hmx hmy hx hy h hw hl hid fun a w ok d e d' hr1 hr2 hd => ?_
        cases d <;> cases e <;> simp only [Prim.den] at hd <;> cases hd
        obtain ⟨v, hv, hr⟩ := run_beq (P := P) (X := x) (Y := y) (w := w) (ok := ok) hu (.inl rfl)
        exact ⟨v, by simp only [execOp, ho, reads_bool hr1, reads_bool hr2]; rw [Sem.run_bind, hv]; rfl, hr⟩
      · rename_i hu
        refine op_prim2 hmx hmy hx hy h hw hl hid fun a w ok d e d' hr1 hr2 hd => ?_
        cases d <;> cases e <;> simp only [Prim.den] at hd <;> cases hd
        obtain ⟨v, hv, hr⟩ := run_beq (P := P) (X := x) (Y := y) (w := w) (ok := ok) hu (.inr rfl)
        exact ⟨v, by simp only [execOp, ho, reads_bool hr1, reads_bool hr2]; rw [Sem.run_bind, hv]; rfl, hr⟩
      · refine op_prim2 hmx hmy hx hy h hw hl hid fun a w ok d e d' hr1 hr2 hd => ?_
        cases d <;> cases e <;> simp only [Prim.den, Prim.bin1] at hd <;> try (cases hd; done)
        obtain ⟨v, hv, hr⟩ := run_binInt (P := P) (t := t) (X := x) (Y := y) (w := w) (ok := ok) hd
        exact ⟨v, by simp only [execOp, ho, reads_int hr1, reads_int hr2]; rw [Sem.run_bind, hv]; rfl, hr⟩
      · cases h
    · rename_i xs ys
      split at h
      · rename_i fs l r hu hlx hly
        split at h
        · rename_i heq
          exact op_agg2 ho hu hx hy hlx hly heq (.inl ⟨rfl, rfl⟩) h hw hl hid
        · cases h
      · rename_i fs l r hu hlx hly
        split at h
        · rename_i heq
          exact op_agg2 ho hu hx hy hlx hly heq (.inr ⟨rfl, rfl⟩) h hw hl hid
        · cases h
      · cases h
    · cases h
  · cases h

/-! ### Loads -/
theorem isAgg_run {t : TypeId} {w : World} (hu : (P.underlying t).isSome = true) : (isAgg t).run P w = .ok (isAggB P t) w := by
  obtain ⟨d, hd⟩ := Option.isSome_iff_exists.1 hu
  unfold isAggB
  simp only [isAgg, Sem.run_bind, run_underlying hd, Result.andThen_ok, hd]
  cases d <;> rfl

theorem sizeT_some {t : TypeId} {m : Nat} (h : sizeT P t = some m) : (P.underlying t).isSome = true ∧ ∃ ti, P.info? t = some ti ∧ ti.size = m := by
  unfold sizeT at h
  split at h
  · rename_i hu
    simp only [Option.map_eq_some_iff] at h
    exact ⟨hu, h⟩
  · cases h

theorem run_loadVar_cells {t : TypeId} {m : Nat} {ad : Addr} {w : World} {f : Nat → Value} (hs : sizeT P t = some m) (hc : ∀ j, j < m → w.cell? (ad.add j) = some (f j)) (h1 : isAggB P t = false → m = 1) :
    (loadVar t ad).run P w = .ok (if isAggB P t then .agg ((List.range m).map f).toArray else f 0) w := by
  obtain ⟨hu, ti, hti, hm⟩ := sizeT_some hs
  unfold loadVar
  rw [Sem.run_bind, isAgg_run hu]
  cases hb : isAggB P t
  · have := hc 0 (by rw [h1 hb]; omega)
    simp only [Result.andThen_ok, Bool.false_eq_true, if_false, run_load]
    rw [show ad.add 0 = ad from by unfold Addr.add; simp] at this
    simp [this]
  · simp only [Result.andThen_ok, if_true, Sem.run_bind, sizeOf, typeInfo, program, Sem.run, hti, hm, Sem.run_pure]
    simp only [run_loadCells w ad m f hc, Result.andThen_ok]

/-- Cells in a row as one value. -/
theorem S1_mk_rep {ρ : List DV} {β : Bm} {ok : Nat → Prop} {w : World} {g : Bool} {cs : List C} {v : S1} {f : Nat → Value} {m : Nat} (h : S1.mk g cs = some v) (hl : cs.length = m) (hc : ∀ (j : Nat) (c : C), cs[j]? = some c → CRep ρ β ok w c (f j)) :
    (g = false → m = 1) ∧ S1Rep ρ β ok w v (if g then .agg ((List.range m).map f).toArray else f 0) := by
  unfold S1.mk at h
  split at h
  · rename_i hg
    subst hg
    cases h
    refine ⟨by simp, _, rfl, by simp [hl], fun j c hj => ⟨f j, ?_, hc j c hj⟩⟩
    have : j < m := by rw [← hl]; exact (List.getElem?_eq_some_iff.1 hj).1
    simp [this]
  · rename_i hg
    have hg' : g = false := by simpa using hg
    subst hg'
    split at h
    · rename_i c
      cases h
      exact ⟨fun _ => by simpa using hl.symm, hc 0 c rfl⟩
    · cases h

theorem sub_get {α : Type} {l : List α} {off m j : Nat} {x : α} (h : ((l.drop off).take m)[j]? = some x) : l[off + j]? = some x ∧ j < m := by
  rw [List.getElem?_take] at h
  split at h
  · rename_i hj; rw [List.getElem?_drop] at h; exact ⟨h, hj⟩
  · cases h

theorem gets_sound {x i : A} {s : Nat} : ∀ (m off : Nat) (S : St) (K : List A → St → Option IR) (ρ : List DV) (ir : IR), gets x i s m off S K = some ir → IRwp P As ρ ir Q → ρ.length = S.nv → x.lt S.nv = true → i.lt S.nv = true →
    ∃ l n ρ' ir', K l { S with nv := n } = some ir' ∧ IRwp P As ρ' ir' Q ∧ Ext ρ ρ' ∧ ρ'.length = n ∧ l.length = m ∧
      ∀ (j : Nat) (z : A), l[j]? = some z → ∃ d len cells kI iv, x.rd ρ = some (.list len cells) ∧ i.rd ρ = some (.int kI iv) ∧ 0 ≤ iv ∧ iv < (len : Int) ∧ cells[iv.toNat * s + (off + j)]? = some d ∧ z.rd ρ' = some d
  | 0, off, S, K, ρ, ir, h, hw, hl, hx, hi => ⟨[], S.nv, ρ, ir, h, hw, Ext.refl _, hl, rfl, fun j z hj => by simp at hj⟩
  | m + 1, off, S, K, ρ, ir, h, hw, hl, hx, hi => by
    simp only [gets] at h
    obtain ⟨z, d, n, ρ1, ir1, hlt, hd, hK, hw1, hE1, hl1, hz⟩ := prim_sound h hw hl
    have mono : ∀ (a : A), a.lt S.nv = true → a.lt n = true := fun a ha => by
      cases a with
      | var k =>
        have hk : k < S.nv := by simpa [A.lt] using ha
        have : ρ1[k]? = some (ρ[k]'(by omega)) := hE1 k _ (by simp)
        have := (List.getElem?_eq_some_iff.1 this).1
        simp only [A.lt, decide_eq_true_eq]; omega
      | _ => rfl
    obtain ⟨l, n', ρ', ir', hK', hw', hE', hl', hlen, hget⟩ := gets_sound m (off + 1) { S with nv := n } _ ρ1 ir1 hK hw1 hl1 (mono x hx) (mono i hi)
    refine ⟨z :: l, n', ρ', ir', hK', hw', hE1.trans hE', hl', by simp [hlen], fun j y hj => ?_⟩
    obtain ⟨dx, hdx⟩ := rd_of_lt hx hl
    obtain ⟨di, hdi⟩ := rd_of_lt hi hl
    cases j with
    | zero =>
      simp at hj; subst hj
      simp only [List.map_cons, List.map_nil, A.ev_of_rd hdx, A.ev_of_rd hdi] at hd
      cases dx <;> cases di <;> simp only [Prim.den] at hd <;> try (cases hd; done)
      split at hd
      · rename_i hb
        exact ⟨d, _, _, _, _, hdx, hdi, hb.1, hb.2, by simpa using hd, A.rd_ext hE' hz⟩
      · cases hd
    | succ j =>
      obtain ⟨d', len, cells, kI, iv, h1, h2, h3, h4, h5, h6⟩ := hget j y (by simpa using hj)
      rw [A.rd_ext hE1 hdx] at h1; cases h1
      rw [A.rd_ext hE1 hdi] at h2; cases h2
      exact ⟨d', len, cells, kI, iv, hdx, hdi, h3, h4, by rw [show off + (j + 1) = off + 1 + j by omega]; exact h5, h6⟩

theorem op_load {T : TypeId} {x : Operand} (ho : o.op = .load T x) (hks : ∀ k ∈ namedOf S o.op, k ∈ ks) (h : symOp P o 0 S.nb S K = some ir) (hw : IRwp P As ρ ir Q) (hl : ρ.length = S.nv) (hid : S.bl S.nb = none) : OpOut P o S.nb S ks K As ρ Q := by
  have hm : x ∈ o.op.operands := by simp [ho, Op.operands]
  have hxg : ∀ g, x = .global g → False := fun g hg => by
    subst hg
    unfold symOp at h
    simp only [ho] at h
    cases h
    exact hw
  have hcell : ∀ {w : World} {b : Nat} {arr : Array Value} {T' : TypeId} {fz : Nat × Nat} {off j : Nat}, w.heap[b]? = some (.cells arr T' fz) → w.cell? ((⟨b, off, none⟩ : Addr).add j) = arr[off + j]? := by
    intro w b arr T' fz off j hh
    rw [Addr_off]; simp [World.cell?, hh]
  have run : ∀ (a : Act) (w : World) (ad : Addr) (v : Value), a.eval x = .pointer (some ad) → (loadVar T ad).run P w = .ok v w → (execOp a.eval o).run P w = .ok (.value v) w := by
    intro a w ad v he hr
    simp only [execOp, ho, he, Instr.loadAt, Instr.sureAddr]
    simp [hr]
  have elem : ∀ {y i : A} {s m off : Nat} (hne : m ≠ 0) (hy : y.lt S.nv = true) (hi : i.lt S.nv = true) (hs : sizeT P T = some m)
      (hh : (gets y i s m off S fun l S => match S1.mk (isAggB P T) (l.map .at) with | some v => K (some (.s v)) S | none => none) = some ir)
      (mem : ∀ (ρf : List DV), Ext ρ ρf → ∀ (w0 : World) (ok0 : Nat → Prop) (fs : List (Array Value)) (stk : List Frm) (β : Bm) (nt : Nat) (tm : Nat → Option SV) (bl : Nat → Option Blk) (a : Act) (w : World),
        RM w0 ok0 fs stk ρf β nt tm bl a w → (∀ x ∈ o.op.operands, evT tm x = S.ev x) → (∀ k ∈ ks, bl k = S.bl k) → ∀ len cells kI iv, y.rd ρf = some (.list len cells) → i.rd ρf = some (.int kI iv) → 0 ≤ iv → iv < (len : Int) →
          ∃ (ad : Addr) (f : Nat → Value), a.eval x = .pointer (some ad) ∧ ∀ (j : Nat) (d : DV), cells[iv.toNat * s + (off + j)]? = some d → w.cell? (ad.add j) = some (f j) ∧ Reads (okS w0 ok0 bl β) w d (f j)), OpOut P o S.nb S ks K As ρ Q := by
    intro y i s m off hne hy hi hs hh mem
    obtain ⟨l, n, ρ', ir', hK, hw', hE', hl', hlen, hget⟩ := gets_sound m off S _ ρ ir hh hw hl hy hi
    split at hK
    · rename_i v hv
      refine OpOut.plain (n := n) hE' hl' hK hw' hid fun ρf hE w0 ok0 fs stk β nt tm bl a w H hag hbl => ?_
      have hm0 : m ≠ 0 → ∃ (ad : Addr) (f : Nat → Value), a.eval x = .pointer (some ad) ∧ ∀ (j : Nat) (z : A), l[j]? = some z → w.cell? (ad.add j) = some (f j) ∧ CRep ρf β (okS w0 ok0 bl β) w (.at z) (f j) := by
        intro hne
        obtain ⟨d, len, cells, kI, iv, h1, h2, h3, h4, h5, h6⟩ := hget 0 (l[0]'(by omega)) (by simp)
        obtain ⟨ad, f, he, hc⟩ := mem ρf (hE'.trans hE) w0 ok0 fs stk β nt tm bl a w H hag hbl len cells kI iv (A.rd_ext (hE'.trans hE) h1) (A.rd_ext (hE'.trans hE) h2) h3 h4
        refine ⟨ad, f, he, fun j z hz => ?_⟩
        obtain ⟨d', len', cells', kI', iv', g1, g2, g3, g4, g5, g6⟩ := hget j z hz
        rw [h1] at g1; cases g1
        rw [h2] at g2; cases g2
        obtain ⟨c1, c2⟩ := hc j d' g5
        exact ⟨c1, d', A.rd_ext hE g6, c2⟩
      obtain ⟨ad, f, he, hc⟩ := hm0 hne
      have hcr : ∀ (j : Nat) (c : C), (l.map C.at)[j]? = some c → CRep ρf β (okS w0 ok0 bl β) w c (f j) := fun j c hj => by
        rw [List.getElem?_map] at hj
        cases hz : l[j]? with
        | none => rw [hz] at hj; cases hj
        | some z => rw [hz] at hj; cases hj; exact (hc j z hz).2
      obtain ⟨g1, g2⟩ := S1_mk_rep hv (by simpa using hlen) hcr
      refine ⟨_, run a w _ _ he (run_loadVar_cells (f := f) hs (fun j hj => ?_) g1), fun s hs => by cases hs; exact g2⟩
      exact (hc j (l[j]'(by omega)) (by simp)).1
    · cases hK
  unfold symOp at h
  simp only [ho] at h
  split at h
  · rename_i k off m hx hs
    split at h
    · rename_i cs U ro hb
      split at h
      · rename_i hle
        split at h
        · rename_i v hv
          refine OpOut.plain (ρ' := ρ) (n := S.nv) (Ext.refl _) hl h hw hid fun ρf hE w0 ok0 fs stk β nt tm bl a w H hag hbl => ?_
          obtain ⟨b, hβ, he⟩ := H.one (x := x) (by rw [hag x hm]; exact hx)
          have hbk : bl k = some (.box cs U ro) := by rw [hbl k (hks k (named_mem hm (by simp [hx, SV.blocks, S1.cells, C.blocks])))]; exact hb
          obtain ⟨b', arr, T', fz, h1, h2, h3, _, _⟩ := H.hbl k _ hbk
          rw [hβ] at h1; cases h1
          have hcr : ∀ (j : Nat) (c : C), ((cs.drop off).take m)[j]? = some c → CRep ρf β (okS w0 ok0 bl β) w c (arr.getD (off + j) undef) := fun j c hj => by
            obtain ⟨hj1, _⟩ := sub_get hj
            obtain ⟨u, hu, hr⟩ := h3.2 _ _ hj1
            simpa [Array.getD_eq_getD_getElem?, hu] using hr
          obtain ⟨g1, g2⟩ := S1_mk_rep (m := m) hv (by simp; omega) hcr
          refine ⟨_, run a w _ _ he (run_loadVar_cells (f := fun j => arr.getD (off + j) undef) hs (fun j hj => ?_) g1), fun s hs => by cases hs; exact g2⟩
          rw [hcell h2]
          have : off + j < arr.size := by rw [h3.1]; omega
          simp [Array.getD_eq_getD_getElem?, this]
        · cases h
      · cases h
    · cases h
  · rename_i y i s off m hx hs
    split at h
    · rename_i hlt
      simp only [Bool.and_eq_true] at hlt
      refine elem (by omega) hlt.1 hlt.2 hs h fun ρf hE w0 ok0 fs stk β nt tm bl a w H hag hbl len cells kI iv e1 e2 e3 e4 => ?_
      obtain ⟨n', cells', kI', iv', ad, cap, h1, h2, h3, h4, h5, h6, he⟩ := H.one (x := x) (by rw [hag x hm]; exact hx)
      rw [h1] at e1; cases e1
      rw [h2] at e2; cases e2
      obtain ⟨a', cap', hv, _, f, hmem, hrd⟩ := reads_list h6
      cases hv
      refine ⟨_, fun j => f (iv.toNat * s + (off + j)), he, fun j d hd => ?_⟩
      have hlen := (List.getElem?_eq_some_iff.1 hd).1
      obtain ⟨ad', had, _, hc⟩ := hmem (by intro h0; rw [h0] at hlen; simp at hlen)
      cases had
      refine ⟨?_, hrd _ _ hd⟩
      rw [Addr_add_add, Nat.add_assoc]
      exact hc _ hlen
    · cases h
  · rename_i k i s off m hx hs
    split at h
    · rename_i y hy
      split at h
      · rename_i hlt
        simp only [Bool.and_eq_true] at hlt
        refine elem (by omega) hlt.1 hlt.2 hs h fun ρf hE w0 ok0 fs stk β nt tm bl a w H hag hbl len cells kI iv e1 e2 e3 e4 => ?_
        obtain ⟨b, n', cap, kI', iv', h1, h2, h3, h4, he⟩ := H.one (x := x) (by rw [hag x hm]; exact hx)
        rw [h2] at e2; cases e2
        have hbk : bl k = S.bl k := hbl k (hks k (named_mem hm (by simp [hx, SV.blocks, S1.cells, C.blocks])))
        simp only [St.listOf] at hy
        split at hy
        · rename_i x' s' E' hk
          cases hy
          obtain ⟨v, n2, cells2, g1, g2, xs, ho', hl', hc'⟩ := H.hbl k _ (hbk.trans hk)
          rw [h1] at g1; cases g1
          rw [e1] at g2; cases g2
          refine ⟨_, fun j => xs.getD (iv.toNat * s + (off + j)) undef, he, fun j d hd => ?_⟩
          obtain ⟨u, hu, hr⟩ := hc' _ d hd
          have hx2 : xs.getD (iv.toNat * s + (off + j)) undef = u := by simp [List.getD, hu]
          simp only [hx2]
          refine ⟨?_, hr⟩
          have := World.ownsR.cells ho' (g := b) rfl _ u hu
          rw [Addr_plain] at this
          rw [Addr_off, Nat.add_assoc]
          exact this
        · rename_i x' hk
          cases hy
          obtain ⟨v, n2, cells2, g1, g2, g3, _⟩ := H.hbl k _ (hbk.trans hk)
          rw [h1] at g1; cases g1
          rw [e1] at g2; cases g2
          obtain ⟨a', cap', hv, _, f, hmem, hrd⟩ := reads_list g3
          cases hv
          refine ⟨_, fun j => f (iv.toNat * s + (off + j)), he, fun j d hd => ?_⟩
          have hlen := (List.getElem?_eq_some_iff.1 hd).1
          obtain ⟨ad', had, _, hc⟩ := hmem (by intro h0; rw [h0] at hlen; simp at hlen)
          cases had
          refine ⟨?_, hrd _ _ hd⟩
          have := hc _ hlen
          rw [Addr_plain] at this
          rw [Addr_off, Nat.add_assoc]
          exact this
        · cases hy
      · cases h
    · cases h
  · cases h

end
end Go.Px

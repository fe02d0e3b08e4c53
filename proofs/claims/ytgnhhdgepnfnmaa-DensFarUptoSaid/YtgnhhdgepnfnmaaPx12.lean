/- Px12: one operation, part ten: builtins, stores, makes, slices. -/
import Derived.Test.YtgnhhdgepnfnmaaPx11
set_option linter.unusedSimpArgs false
set_option linter.unusedVariables false
namespace Go.Px
open Go.RowKit
section
variable {P : Program} {o : Oper} {ks : List Nat} {S : St} {K : Option SV → St → Option IR} {As : List (List DV → Prop)} {ρ : List DV} {Q : List AV → Prop} {ir : IR}

theorem args1 {α β : Type} {f : α → β} {l : Array α} {u : β} (h : l.toList.map f = [u]) : ∃ x, l = #[x] ∧ f x = u := by
  cases hl : l.toList with
  | nil => rw [hl] at h; cases h
  | cons x r =>
    rw [hl] at h
    cases r with
    | nil => simp only [List.map_cons, List.map_nil, List.cons.injEq, and_true] at h; exact ⟨x, by rw [← Array.toArray_toList (xs := l), hl], h⟩
    | cons y r => simp at h
theorem args2 {α β : Type} {f : α → β} {l : Array α} {u v : β} (h : l.toList.map f = [u, v]) : ∃ x y, l = #[x, y] ∧ f x = u ∧ f y = v := by
  cases hl : l.toList with
  | nil => rw [hl] at h; cases h
  | cons x r =>
    rw [hl] at h
    cases r with
    | nil => simp at h
    | cons y r =>
      cases r with
      | nil => simp only [List.map_cons, List.map_nil, List.cons.injEq, and_true] at h; exact ⟨x, y, by rw [← Array.toArray_toList (xs := l), hl], h.1, h.2⟩
      | cons z r => simp at h

theorem run_builtin {b : Builtin} {args : Array Operand} {argTypes : Array TypeId} {a : Act} {w w' : World} {v : Value} (ho : o.op = .call { callee := .builtin b, args := args, argTypes := argTypes })
    (h : (builtin b argTypes o.type (args.map fun | .const _ => true | _ => false) (args.map a.eval)).run P w = .ok (.value v) w') : (execOp a.eval o).run P w = .ok (.value v) w' := by
  simp only [execOp, ho, resolve, Sem.run_bind, Sem.run_pure, Result.andThen_ok, invoke]
  exact h

/-- What a slice's value says of its length. -/
theorem slice_len {w0 : World} {ok0 : Nat → Prop} {fs : List (Array Value)} {stk : List Frm} {ρ : List DV} {β : Bm} {nt : Nat} {tm : Nat → Option SV} {bl : Nat → Option Blk} {a : Act} {w : World}
    (H : RM w0 ok0 fs stk ρ β nt tm bl a w) {k : Nat} {y : A} {v : Value} (hk : (∃ s E, bl k = some (.own y s E)) ∨ bl k = some (.fro y)) (hv : β k = some v) : ∃ n cells ad cap, y.rd ρ = some (.list n cells) ∧ v = .slice ad n cap := by
  rcases hk with ⟨s, E, hk⟩ | hk
  · obtain ⟨v', n, cells, h1, h2, xs, ho, _⟩ := H.hbl k _ hk
    rw [hv] at h1; cases h1
    obtain ⟨ad, cap, e, _⟩ := ownsR_slice ho
    exact ⟨n, cells, ad, cap, h2, e⟩
  · obtain ⟨v', n, cells, h1, h2, h3, _⟩ := H.hbl k _ hk
    rw [hv] at h1; cases h1
    obtain ⟨ad, cap, e, _⟩ := reads_list h3
    exact ⟨n, cells, ad, cap, h2, e⟩

theorem op_len {args : Array Operand} {argTypes : Array TypeId} (ho : o.op = .call { callee := .builtin .len, args := args, argTypes := argTypes }) (hks : ∀ k ∈ namedOf S o.op, k ∈ ks)
    (h : symBuiltin P .len argTypes (args.toList.map S.ev) S.nb S K = some ir) (hw : IRwp P As ρ ir Q) (hl : ρ.length = S.nv) (hid : S.bl S.nb = none) : OpOut P o S.nb S ks K As ρ Q := by
  unfold symBuiltin at h
  split at h
  · rename_i c _ he
    obtain ⟨x, hargs, hx⟩ := args1 he
    subst hargs
    have hm : x ∈ o.op.operands := by simp [ho, Op.operands, Call.operands]
    split at h
    · rename_i e hu
      simp only [Option.bind_eq_some_iff] at hu
      obtain ⟨t, ht, hu⟩ := hu
      have run : ∀ (a : Act) (w : World) (ad : Option Addr) (n cap : Nat), a.eval x = .slice ad n cap → (execOp a.eval o).run P w = .ok (.value (.int .i64 n)) w := by
        intro a w ad n cap hv
        refine run_builtin ho ?_
        simp [builtin, Builtin.len_, ht, hv, run_underlying hu, goInt]
      have fin : ∀ y : A, prim .len [y] S (fun a S => K (some (.s (.one (.at a)))) S) = some ir →
          (∀ (ρf : List DV) (w0 : World) (ok0 : Nat → Prop) (fs : List (Array Value)) (stk : List Frm) (β : Bm) (nt : Nat) (tm : Nat → Option SV) (bl : Nat → Option Blk) (a : Act) (w : World),
            RM w0 ok0 fs stk ρf β nt tm bl a w → (∀ x ∈ o.op.operands, evT tm x = S.ev x) → (∀ k ∈ ks, bl k = S.bl k) → (∃ n cells ad cap, y.rd ρf = some (.list n cells) ∧ a.eval x = .slice ad n cap) ∨ ∀ n cells, y.rd ρf ≠ some (.list n cells)) → OpOut P o S.nb S ks K As ρ Q := by
        intro y hp hy
        obtain ⟨zz, d, n, ρ', ir', hlt, hd, hK, hw', hE', hl', hz⟩ := prim_sound hp hw hl
        refine OpOut.plain hE' hl' hK hw' hid fun ρf hE w0 ok0 fs stk β nt tm bl a w H hag hb => ?_
        simp only [List.all_cons, List.all_nil, Bool.and_true] at hlt
        obtain ⟨dy, hdy⟩ := rd_of_lt hlt hl
        simp only [List.map_cons, List.map_nil, A.ev_of_rd hdy] at hd
        have hdy' := A.rd_ext (hE'.trans hE) hdy
        cases dy <;> simp only [Prim.den] at hd <;> try (cases hd; done)
        rcases hy ρf w0 ok0 fs stk β nt tm bl a w H hag hb with ⟨n', cells', ad, cap, h1, h2⟩ | h1
        · rw [hdy'] at h1; cases h1
          cases hd
          exact ⟨_, run a w ad _ cap h2, fun s hs => by cases hs; exact ⟨_, A.rd_ext hE hz, .int _ _⟩⟩
        · exact absurd hdy' (h1 _ _)
      split at h
      · rename_i k
        have own : ∀ y : A, ((∃ s E, S.bl k = some (.own y s E)) ∨ S.bl k = some (.fro y)) → prim .len [y] S (fun a S => K (some (.s (.one (.at a)))) S) = some ir → OpOut P o S.nb S ks K As ρ Q := by
          intro y hk hp
          refine fin y hp fun ρf w0 ok0 fs stk β nt tm bl a w H hag hb => ?_
          have hbk : bl k = S.bl k := hb k (hks k (named_mem hm (by simp [hx, SV.blocks, S1.cells, C.blocks])))
          have hβ := H.one (x := x) (by rw [hag x hm]; exact hx)
          exact .inl (slice_len H (by rw [hbk]; exact hk) hβ)
        split at h
        · rename_i y s E hk; exact own y (.inl ⟨s, E, hk⟩) h
        · rename_i y hk; exact own y (.inr hk) h
        · cases h
      · rename_i k lo nn s
        refine OpOut.plain (ρ' := ρ) (n := S.nv) (Ext.refl _) hl h hw hid fun ρf hE w0 ok0 fs stk β nt tm bl a w H hag hb => ?_
        obtain ⟨b, nk, capk, kI, lv, kJ, nv, ad, cap, g1, g2, g3, g4, g5, g6, g7, g8, rfl⟩ := H.one (x := x) (by rw [hag x hm]; exact hx)
        refine ⟨_, run a w ad nv.toNat cap g7, fun s hs => ?_⟩
        cases hs
        have : (nv.toNat : Int) = nv := Int.toNat_of_nonneg g5
        exact ⟨_, g3, by rw [this]; exact .int _ _⟩
      · rename_i hno hsub
        split at h
        · rename_i y S1 hA
          cases c <;> simp only [St.toA] at hA
          case «at» z =>
            cases hA
            refine fin _ h fun ρf w0 ok0 fs stk β nt tm bl a w H hag hb => ?_
            obtain ⟨d, hd, hr⟩ := H.one (x := x) (by rw [hag x hm]; exact hx)
            cases d with
            | list n cells => obtain ⟨ad, cap, e, _⟩ := reads_list hr; exact .inl ⟨n, cells, ad, cap, hd, e⟩
            | _ => exact .inr fun n cells e => by rw [hd] at e; cases e
          case nils =>
            cases hA
            refine fin _ h fun ρf w0 ok0 fs stk β nt tm bl a w H hag hb => ?_
            have hv := H.one (x := x) (by rw [hag x hm]; exact hx)
            exact .inl ⟨0, [], none, 0, rfl, hv⟩
          case ful z =>
            cases hA
            refine fin _ h fun ρf w0 ok0 fs stk β nt tm bl a w H hag hb => ?_
            obtain ⟨d, hd, hr, _⟩ := H.one (x := x) (by rw [hag x hm]; exact hx)
            cases d with
            | list n cells => obtain ⟨ad, cap, e, _⟩ := reads_list hr; exact .inl ⟨n, cells, ad, cap, hd, e⟩
            | _ => exact .inr fun n cells e => by rw [hd] at e; cases e
          case own k => exact absurd rfl (hno k)
          all_goals cases hA
        · cases h
    · cases h
  all_goals first | (cases h; done) | contradiction

/-- A new row, or a row taken over, told as an own row. -/
theorem RM.own_turn {w0 : World} {ok0 : Nat → Prop} {fs : List (Array Value)} {stk : List Frm} {ρ : List DV} {β : Bm} {nt : Nat} {tm : Nat → Option SV} {bl : Nat → Option Blk} {a : Act} {w : World}
    (H : RM w0 ok0 fs stk ρ β nt tm bl a w) {k0 : Option Nat} {id : Nat} {v v' : Value} {w' : World} (hβ : β id = none) (hid : bl id = none)
    {x : A} {n s : Nat} {E : TypeId} {cells : List DV} {xs : List Value} (hx : x.rd ρ = some (.list n cells)) (hg : w.grownBy w' (blockOf v)) (hv : ∀ b, blockOf v' = some b → w.heap.size ≤ b ∨ blockOf v = some b)
    (hold : (blockOf v = none) ∨ ∃ k b, k0 = some k ∧ bl k = some b ∧ b.mut = true ∧ β k = some v)
    (hown : w'.ownsR w0.heap.size E s v' n xs) (hl : xs.length = cells.length) (hc : ∀ (j : Nat) (d : DV), cells[j]? = some d → ∃ u, xs[j]? = some u ∧ Reads (okS w0 ok0 bl β) w d u) :
    RM w0 ok0 fs stk ρ (upd β id (some v')) nt tm (upd (dropO bl k0) id (some (.own x s E))) a w' := by
  obtain ⟨ad, cap, hve, _⟩ := ownsR_slice hown
  refine (H.turn (k0 := k0) (row := blockOf v) hβ hid hg (fun r hr => ?_) hv (by rw [hve]; rfl) fun hmono _ => ?_).1
  · rcases hold with h0 | ⟨k, b, h1, h2, h3, h4⟩
    · rw [h0] at hr; cases hr
    · exact ⟨k, b, v, h1, h2, h3, h4, hr⟩
  · exact ⟨v', n, cells, by simp [upd], hx, xs, hown, hl, fun j d hj => let ⟨u, hu, hr⟩ := hc j d hj; ⟨u, hu, hr.imp hmono⟩⟩

/-- The cells that a list reads by, as values. -/
theorem reads_cells {ok : Nat → Prop} {w : World} {n s : Nat} {cells : List DV} {v : Value} (hr : Reads ok w (.list n cells) v) (hlen : cells.length = n * s) (hs : 0 < s) :
    (n = 0 ∧ ∃ ad cap, v = .slice ad 0 cap) ∨ ∃ (ad : Addr) (cap : Nat) (news : List Value), v = .slice (some ad) n cap ∧ news.length = n * s ∧ (∀ (j : Nat) (u : Value), news[j]? = some u → w.cell? (ad.add j) = some u) ∧ (∀ u ∈ news, u.oneCell' = true) ∧
      ∀ (j : Nat) (d : DV), cells[j]? = some d → ∃ u, news[j]? = some u ∧ Reads ok w d u := by
  obtain ⟨a, cap, hv, _, f, hmem, hrd⟩ := reads_list hr
  by_cases h0 : cells = []
  · subst h0
    have : n = 0 := by
      rcases Nat.eq_zero_or_pos n with h | h
      · exact h
      · have := Nat.mul_pos h hs
        simp at hlen; omega
    subst this
    exact .inl ⟨rfl, a, cap, hv⟩
  · obtain ⟨ad, had, _, hc⟩ := hmem h0
    subst had
    refine .inr ⟨ad, cap, (List.range cells.length).map f, hv, by simp [hlen], fun j u hj => ?_, fun u hu => ?_, fun j d hj => ?_⟩
    · rw [List.getElem?_map] at hj
      by_cases hjl : j < cells.length
      · rw [List.getElem?_range hjl] at hj
        simp only [Option.map_some, Option.some.injEq] at hj
        rw [← hj]; exact hc j hjl
      · rw [List.getElem?_eq_none (by simpa using hjl)] at hj; cases hj
    · obtain ⟨j, hj, rfl⟩ := List.mem_map.1 hu
      have hjl : j < cells.length := by simpa using hj
      exact oneCell'_of_reads (hrd j _ (List.getElem?_eq_getElem hjl))
    · have hjl := (List.getElem?_eq_some_iff.1 hj).1
      exact ⟨f j, by simp [hjl], hrd j d hj⟩

theorem append_types {t ty : TypeId} {argTypes : Array TypeId} {args : Array Value} (h0 : argTypes[0]? = some t) (h1 : argTypes[1]? = some t) : Builtin.append_ argTypes ty args = Builtin.append_ #[t, t] ty args := by
  unfold Builtin.append_
  simp only [h0, h1]
  rfl

theorem reads_row {w0 : World} {ok0 : Nat → Prop} {fs : List (Array Value)} {stk : List Frm} {ρ : List DV} {β : Bm} {nt : Nat} {tm : Nat → Option SV} {bl : Nat → Option Blk} {a : Act} {w w' : World}
    (H : RM w0 ok0 fs stk ρ β nt tm bl a w) (hb : Below w.heap.size w w') {n cap : Nat} {E : TypeId} {cells : List DV} {arr : Array Value} {fz : Nat × Nat} (hh : w'.heap[w.heap.size]? = some (.cells arr E fz)) (hn : n ≤ cap)
    (hc : ∀ (j : Nat) (d : DV), cells[j]? = some d → ∃ u, arr[j]? = some u ∧ Reads (okS w0 ok0 bl β) w d u) : Reads (okS w0 ok0 bl β) w' (.list n cells) (.slice (some ⟨w.heap.size, 0, none⟩) n cap) := by
  refine .list n cells _ cap (fun j => arr.getD j undef) hn (fun _ => ⟨_, rfl, okS_new H, fun j hj => ?_⟩) (fun j d hj => ?_)
  · obtain ⟨u, hu, _⟩ := hc j (cells[j]) (by simp)
    rw [Addr_plain]
    simp [World.cell?, hh, Array.getD_eq_getD_getElem?, hu]
  · obtain ⟨u, hu, hr⟩ := hc j d hj
    have : arr.getD j undef = u := by simp [Array.getD_eq_getD_getElem?, hu]
    simp only [this]
    exact hr.imp fun b o hb' ho => ⟨hb', by rw [hb.block b (Array.getElem?_eq_some_iff.1 ho).1]; exact ho⟩

theorem app_get {xs ys : List DV} {olds news : List Value} {R : DV → Value → Prop} (hl : olds.length = xs.length) (h1 : ∀ (j : Nat) (d : DV), xs[j]? = some d → ∃ u, olds[j]? = some u ∧ R d u) (h2 : ∀ (j : Nat) (d : DV), ys[j]? = some d → ∃ u, news[j]? = some u ∧ R d u) :
    ∀ (j : Nat) (d : DV), (xs ++ ys)[j]? = some d → ∃ u, (olds ++ news)[j]? = some u ∧ R d u := by
  intro j d hj
  by_cases hx : j < xs.length
  · rw [List.getElem?_append_left hx] at hj
    rw [List.getElem?_append_left (by omega)]
    exact h1 j d hj
  · rw [List.getElem?_append_right (by omega)] at hj
    rw [List.getElem?_append_right (by omega), hl]
    exact h2 _ d hj

/-- Appending to a slice without room: what comes is read as both, one behind the other. -/
theorem ful_append {w0 : World} {ok0 : Nat → Prop} {fs : List (Array Value)} {stk : List Frm} {ρ : List DV} {β : Bm} {nt : Nat} {tm : Nat → Option SV} {bl : Nat → Option Blk} {a : Act} {w : World}
    (H : RM w0 ok0 fs stk ρ β nt tm bl a w) {t ty e : TypeId} {ti : TypeInfo} {z : Value} (hu : P.underlying t = some (.slice e)) (hti : P.info? e = some ti) (hz : ti.zero = some z) (hs0 : 0 < ti.size) (hb0 : 0 < ti.bytes)
    {n m : Nat} {xs ys : List DV} {v1 v2 : Value} (r1 : Reads (okS w0 ok0 bl β) w (.list n xs) v1) (hf : ∃ ad k, v1 = .slice ad k k) (r2 : Reads (okS w0 ok0 bl β) w (.list m ys) v2)
    (hx : xs.length = n * ti.size) (hy : ys.length = m * ti.size) (hbd : (n + m) * ti.bytes ≤ 2 ^ 46) :
    ∃ v w', (Builtin.append_ #[t, t] ty #[v1, v2]).run P w = .ok v w' ∧ Below w.heap.size w w' ∧ Reads (okS w0 ok0 bl β) w' (.list (n + m) (xs ++ ys)) v := by
  obtain ⟨ad1, k1, hv1⟩ := hf
  have hnm : n + m ≤ (n + m) * ti.bytes := Nat.le_mul_of_pos_right _ hb0
  rcases reads_cells r2 hy hs0 with ⟨hm0, ad2, cap2, hv2⟩ | ⟨ad2, cap2, news, hv2, hl2, hc2, h12, hr2⟩
  · subst hm0
    have hy0 : ys = [] := List.eq_nil_of_length_eq_zero (by rw [hy]; simp)
    subst hy0
    obtain ⟨a', cap', hv', hcap, _⟩ := reads_list r1
    rw [hv'] at hv1; cases hv1
    refine ⟨v1, w, ?_, Below.refl _ _, by simpa using r1⟩
    rw [hv2, hv']
    exact run_append_zero hu hti _ _ n n cap2 (Nat.le_refl _)
  · by_cases hm0 : m = 0
    · subst hm0
      have hy0 : ys = [] := List.eq_nil_of_length_eq_zero (by rw [hy]; simp)
      subst hy0
      obtain ⟨a', cap', hv', hcap, _⟩ := reads_list r1
      rw [hv'] at hv1; cases hv1
      refine ⟨v1, w, ?_, Below.refl _ _, by simpa using r1⟩
      rw [hv2, hv']
      exact run_append_zero hu hti _ _ n n cap2 (Nat.le_refl _)
    · -- a new row
      have grown : ∀ (olds : List Value) (old : Nat), olds.length = xs.length → (∀ (j : Nat) (d : DV), xs[j]? = some d → ∃ u, olds[j]? = some u ∧ Reads (okS w0 ok0 bl β) w d u) →
          let cap := grownCap w (n + m) old e
          Below w.heap.size w (w.drew.alloc (.cells (olds.toArray ++ news.toArray ++ Builtin.zeroCells z.cells (cap - (n + m))) e)) ∧
          Reads (okS w0 ok0 bl β) (w.drew.alloc (.cells (olds.toArray ++ news.toArray ++ Builtin.zeroCells z.cells (cap - (n + m))) e)) (.list (n + m) (xs ++ ys)) (.slice (some ⟨w.heap.size, 0, none⟩) (n + m) cap) := by
        intro olds old hlo hro cap
        have hbel : Below w.heap.size w (w.drew.alloc (.cells (olds.toArray ++ news.toArray ++ Builtin.zeroCells z.cells (cap - (n + m))) e)) := ((Below.refl _ _).drew).alloc (by simp) _
        refine ⟨hbel, reads_row (E := e) (fz := (0, 0)) H hbel (heap_alloc_new w.drew _) (grownCap_ge w (n + m) old e) fun j d hj => ?_⟩
        obtain ⟨u, hu', hr⟩ := app_get (R := fun d u => Reads (okS w0 ok0 bl β) w d u) hlo hro hr2 j d hj
        refine ⟨u, ?_, hr⟩
        have hjl := (List.getElem?_eq_some_iff.1 hu').1
        rw [Array.getElem?_append_left (by simpa using hjl)]
        simpa using hu'
      rcases reads_cells r1 hx hs0 with ⟨hn0, ad1', cap1, hv1'⟩ | ⟨ad1', cap1, olds, hv1', hl1, hc1, h11, hr1⟩
      · subst hn0
        have hx0 : xs = [] := List.eq_nil_of_length_eq_zero (by rw [hx]; simp)
        subst hx0
        rw [hv1'] at hv1; cases hv1
        cases ad1 with
        | none =>
          have hr := run_append_nil (P := P) w t ty e ti z hu hti hz ad2 m cap2 news hl2 hc2 (by omega) (by simp only [Nat.zero_add] at hnm hbd; omega) (by simp only [Nat.zero_add] at hbd; omega)
          obtain ⟨g1, g2⟩ := grown [] 0 rfl (fun j d hj => by simp at hj)
          simp only [Nat.zero_add, List.nil_append, Array.empty_append] at g1 g2 ⊢
          exact ⟨_, _, by rw [hv1', hv2]; exact hr, g1, g2⟩
        | some b1 =>
          have hr := run_append_grow (P := P) w t ty e ti z hu hti hz b1 0 0 [] (by simp) (fun j v hj => by simp at hj) ad2 m cap2 news hl2 hc2 (by omega) (by omega) (growslice_fits (by omega) (by omega))
          obtain ⟨g1, g2⟩ := grown [] 0 rfl (fun j d hj => by simp at hj)
          exact ⟨_, _, by rw [hv1', hv2]; exact hr, g1, g2⟩
      · rw [hv1'] at hv1; cases hv1
        have hr := run_append_grow (P := P) w t ty e ti z hu hti hz ad1' n n olds hl1 hc1 ad2 m cap2 news hl2 hc2 (by omega) (by omega) (growslice_fits (by omega) (by omega))
        obtain ⟨g1, g2⟩ := grown olds n (by rw [hl1, hx]) hr1
        exact ⟨_, _, by rw [hv1', hv2]; exact hr, g1, g2⟩

theorem patch_drop {bl b0 b1 : Nat → Option Blk} {fb : List Nat} (old : Option Nat) : patch bl (dropO b1 old) (fb ++ old.toList) = dropO (patch bl b1 fb) old := by
  funext k
  cases old with
  | none => simp [dropO, patch]
  | some j =>
    simp only [dropO, patch, upd, Option.toList_some, List.mem_append, List.mem_singleton]
    by_cases hk : k = j
    · simp [hk]
    · simp [hk]

theorem op_append {args : Array Operand} {argTypes : Array TypeId} (ho : o.op = .call { callee := .builtin .append, args := args, argTypes := argTypes }) (hks : ∀ k ∈ namedOf S o.op, k ∈ ks)
    (h : symBuiltin P .append argTypes (args.toList.map S.ev) S.nb S K = some ir) (hw : IRwp P As ρ ir Q) (hl : ρ.length = S.nv) (hid : S.bl S.nb = none) : OpOut P o S.nb S ks K As ρ Q := by
  unfold symBuiltin at h
  split at h
  all_goals first | contradiction | skip
  · rename_i c y _ he
    obtain ⟨x1, x2, hargs, hx1, hx2⟩ := args2 he
    subst hargs
    have hm1 : x1 ∈ o.op.operands := by simp [ho, Op.operands, Call.operands]
    have hm2 : x2 ∈ o.op.operands := by simp [ho, Op.operands, Call.operands]
    split at h
    · rename_i t t' ht ht'
      split at h
      · rename_i e e' hu hu'
        split at h
        · rename_i ti zs hti hz
          obtain ⟨ti', z, h1, h2, h3⟩ := zerosOf_some hz
          rw [hti] at h1; cases h1
          split at h
          · cases h
          · rename_i hcond
            simp only [not_or, Decidable.not_not] at hcond
            obtain ⟨htt, hs0, hb0, hzl⟩ := hcond
            subst htt
            have run : ∀ (a : Act) (w w' : World) (v1 v2 v : Value), a.eval x1 = v1 → a.eval x2 = v2 → (Builtin.append_ #[t, t] o.type #[v1, v2]).run P w = .ok v w' → (execOp a.eval o).run P w = .ok (.value v) w' := by
              intro a w w' v1 v2 v e1 e2 hr
              refine run_builtin ho ?_
              simp only [builtin, List.map_toArray, List.map_cons, List.map_nil, e1, e2, append_types ht ht', Sem.run_bind, hr, Result.andThen_ok, Sem.run_pure]
            split at h
            · rename_i ya S1 hy
              obtain ⟨eS, uS, nS⟩ := toA_facts hy
              have hnv : S1.nv = S.nv := by rw [eS]
              have hfb : ∀ k ∈ y.blocks, k ∈ ks := fun k hk => hks k (named_mem hm2 (by simp [hx2, SV.blocks, Px.S1.cells, hk]))
              -- what is appended, once it is frozen
              have frz : ∀ {w0 : World} {ok0 : Nat → Prop} {fs : List (Array Value)} {stk : List Frm} {ρf : List DV} {β : Bm} {nt : Nat} {tm : Nat → Option SV} {bl : Nat → Option Blk} {a : Act} {w : World},
                  RM w0 ok0 fs stk ρf β nt tm bl a w → (∀ x ∈ o.op.operands, evT tm x = S.ev x) → (∀ k ∈ ks, bl k = S.bl k) →
                  RM w0 ok0 fs stk ρf β nt tm (patch bl S1.bl y.blocks) a w ∧ (∀ b, okS w0 ok0 bl β b → okS w0 ok0 (patch bl S1.bl y.blocks) β b) ∧ ∃ d, ya.rd ρf = some d ∧ Reads (okS w0 ok0 (patch bl S1.bl y.blocks) β) w d (a.eval x2) := by
                intro w0 ok0 fs stk ρf β nt tm bl a w H hag hb
                exact (toA_sound (bl := bl) hy).2.2 H (fun k hk => hb k (hfb k hk)) _ (H.one (x := x2) (by rw [hag x2 hm2]; exact hx2))
              split at h
              · -- without room
                rename_i xa
                obtain ⟨zz, d, n, ρ', ir', hlt, hd, hK, hw', hE', hl', hz'⟩ := prim_sound h hw (by rw [hnv]; exact hl)
                refine ⟨ρ', _, { S1 with nv := n }, ir', hE', hl', hK, hw', by rw [eS]; exact ⟨rfl, rfl, rfl, rfl, rfl⟩, fun k hk => uS k fun hk2 => hk (by simp [hfb k hk2]), ⟨fun ht => by simp [turnsOp, ho] at ht, fun k _ h => nS k h⟩, ?_⟩
                intro ρf hE w0 ok0 fs stk β nt tm bl a w H hag hb hβ hbl K' Q' hk
                obtain ⟨HM, hmono, dy, hdy, hry⟩ := frz H hag hb
                obtain ⟨dx, hdx, hrx, hful⟩ := H.one (x := x1) (by rw [hag x1 hm1]; exact hx1)
                have hp2 : patch bl S1.bl (S.nb :: ks) = patch bl S1.bl y.blocks := patch_wide (b0 := S.bl) (fun k hk => by simp [hfb k hk]) (fun k hk => by
                  rcases List.mem_cons.1 hk with rfl | hk
                  · rw [hbl, hid]
                  · exact hb k hk) uS
                simp only [List.all_cons, List.all_nil, Bool.and_true, Bool.and_eq_true, hnv] at hlt
                simp only [List.map_cons, List.map_nil, ev_of_ext hlt.1 hl (hE'.trans hE) hdx, ev_of_ext hlt.2 hl (hE'.trans hE) hdy] at hd
                cases dx <;> cases dy <;> simp only [Prim.den] at hd <;> try (cases hd; done)
                split at hd
                · rename_i hbd
                  cases hd
                  obtain ⟨v, w', hr, hbel, hrd⟩ := ful_append (P := P) (ty := o.type) HM hu hti h2 (by omega) (by omega) (hrx.mono hmono) hful hry hbd.1 hbd.2.1 hbd.2.2
                  refine wp_value (run a w w' _ _ v rfl rfl hr) (hk v β w' (by show RM w0 ok0 fs stk ρf β nt tm (patch bl S1.bl (S.nb :: ks)) a w'; rw [hp2]; exact HM.grow hbel) (fun _ _ h => h) (fun _ _ => rfl) fun s hs => ?_)
                  cases hs
                  refine ⟨_, A.rd_ext hE hz', ?_⟩
                  show Reads (okS w0 ok0 (patch bl S1.bl (S.nb :: ks)) β) w' _ v
                  rw [hp2]; exact hrd
                · cases hd
              · split at h
                · rename_i xa old hbase
                  obtain ⟨d, ir', hlt, hd, hK, hw', hE', hl', hz'⟩ := emit_sound h hw (by rw [hnv]; exact hl)
                  have hold : ∀ k, old = some k → c = .own k ∧ S1.bl k = some (.own xa ti.size e) := by
                    intro k hk
                    subst hk
                    cases c <;> simp only [St.base] at hbase
                    case nils => cases hbase
                    case own j =>
                      split at hbase
                      · rename_i x' s' E' hj
                        split at hbase
                        · rename_i hse
                          cases hbase
                          rw [hse.1, hse.2] at hj
                          exact ⟨rfl, hj⟩
                        · cases hbase
                      · cases hbase
                    all_goals cases hbase
                  have hnil : old = none → c = .nils ∧ xa = .nil := by
                    intro hk
                    subst hk
                    cases c <;> simp only [St.base] at hbase
                    case nils => cases hbase; exact ⟨rfl, rfl⟩
                    case own j =>
                      split at hbase
                      · split at hbase <;> cases hbase
                      · cases hbase
                    all_goals cases hbase
                  have hoks : ∀ k ∈ old.toList, k ∈ ks := fun k hk => by
                    have hk' : old = some k := by
                      cases old with
                      | none => simp at hk
                      | some j => simp only [Option.toList_some, List.mem_singleton] at hk; rw [hk]
                    obtain ⟨hc, _⟩ := hold k hk'
                    subst hc
                    exact hks k (named_mem hm1 (by simp [hx1, SV.blocks, Px.S1.cells, C.blocks]))
                  have hS' : ∀ S2 : St, S2.bl = S1.bl → ((S2.dropM old).setB S.nb (.own (.var S1.nv) ti.size e)).bl = upd (dropO S1.bl old) S.nb (some (.own (.var S1.nv) ti.size e)) := by
                    intro S2 h2
                    cases old <;> simp [St.setB, St.dropM, St.dropB, dropO, h2]
                  have hSs : ∀ S2 : St, Same S S2 → Same S ((S2.dropM old).setB S.nb (.own (.var S1.nv) ti.size e)) := by
                    intro S2 h2
                    cases old <;> exact h2
                  have hnv2 : ∀ S2 : St, ((S2.dropM old).setB S.nb (.own (.var S1.nv) ti.size e)).nv = S2.nv := by
                    intro S2; cases old <;> rfl
                  have hdrop : ∀ k, k ∉ y.blocks ++ old.toList → dropO S1.bl old k = S.bl k := by
                    intro k hk
                    simp only [List.mem_append, not_or] at hk
                    cases old with
                    | none => exact uS k hk.1
                    | some j =>
                      have : k ≠ j := fun he => hk.2 (by simp [he])
                      simp only [dropO, upd, this, if_false]
                      exact uS k hk.1
                  refine ⟨_, _, _, ir', hE', by rw [hnv2]; exact hl', hK, hw', hSs _ (by rw [eS]; exact ⟨rfl, rfl, rfl, rfl, rfl⟩), fun k hk => ?_, ⟨fun ht => by simp [turnsOp, ho] at ht, fun k hk hn0 => by
                    rw [hS' { S1 with nv := S1.nv + 1 } rfl]
                    simp only [upd, hk, if_false]
                    cases old with
                    | none => exact nS k hn0
                    | some j => simp only [dropO, upd]; split <;> first | rfl | exact nS k hn0⟩, ?_⟩
                  · rw [hS' { S1 with nv := S1.nv + 1 } rfl]
                    have hne : k ≠ S.nb := fun he => hk (by simp [he])
                    simp only [upd, hne, if_false]
                    refine hdrop k fun hk2 => hk ?_
                    rcases List.mem_append.1 hk2 with hk2 | hk2
                    · simp [hfb k hk2]
                    · simp [hoks k hk2]
                  intro ρf hE w0 ok0 fs stk β nt tm bl a w H hag hb hβ hbl K' Q' hk
                  obtain ⟨HM, hmono, dy, hdy, hry⟩ := frz H hag hb
                  rw [hS' { S1 with nv := S1.nv + 1 } rfl] at hk
                  have hp2 : patch bl (upd (dropO S1.bl old) S.nb (some (.own (.var S1.nv) ti.size e))) (S.nb :: ks) = upd (dropO (patch bl S1.bl y.blocks) old) S.nb (some (.own (.var S1.nv) ti.size e)) := by
                    rw [patch_upd2 (b0 := S.bl) (fb := y.blocks ++ old.toList) (fun k hk2 => by
                      rcases List.mem_append.1 hk2 with hk2 | hk2
                      · exact hfb k hk2
                      · exact hoks k hk2) hb hdrop, patch_drop (b0 := S.bl)]
                  rw [hp2] at hk
                  have hid2 : patch bl S1.bl y.blocks S.nb = none := by
                    unfold patch; split
                    · exact nS _ hid
                    · exact hbl
                  simp only [List.all_cons, List.all_nil, Bool.and_true, Bool.and_eq_true, hnv] at hlt
                  have e2 := ev_of_ext hlt.2 hl (hE'.trans hE) hdy
                  -- the row that is appended to
                  have hrow : ∃ (n : Nat) (xs : List Value) (cs : List DV), xa.rd ρf = some (.list n cs) ∧ w.ownsR w0.heap.size e ti.size (a.eval x1) n xs ∧ xs.length = cs.length ∧
                      (∀ (j : Nat) (d : DV), cs[j]? = some d → ∃ u, xs[j]? = some u ∧ Reads (okS w0 ok0 (patch bl S1.bl y.blocks) β) w d u) ∧
                      ((blockOf (a.eval x1) = none) ∨ ∃ k b, old = some k ∧ patch bl S1.bl y.blocks k = some b ∧ b.mut = true ∧ β k = some (a.eval x1)) := by
                    cases hod : old with
                    | none =>
                      obtain ⟨hc, hxa⟩ := hnil hod
                      subst hc hxa
                      have hv : a.eval x1 = .slice none 0 0 := H.one (x := x1) (c := .nils) (by rw [hag x1 hm1]; exact hx1)
                      rw [hv]
                      exact ⟨0, [], [], rfl, World.ownsR_nil w _ _ _, rfl, fun j d hj => by simp at hj, .inl rfl⟩
                    | some k =>
                      obtain ⟨hc, hk1⟩ := hold k hod
                      subst hc
                      have hv : β k = some (a.eval x1) := H.one (x := x1) (c := .own k) (by rw [hag x1 hm1]; exact hx1)
                      have hpk : patch bl S1.bl y.blocks k = some (.own xa ti.size e) := by
                        unfold patch; split
                        · exact hk1
                        · rename_i hn
                          rw [hb k (hoks k (by simp [hod])), ← uS k hn]; exact hk1
                      obtain ⟨v', n, cs, g1, g2, xs, g3, g4, g5⟩ := HM.hbl k _ hpk
                      rw [hv] at g1; cases g1
                      exact ⟨n, xs, cs, g2, g3, g4, g5, .inr ⟨k, _, rfl, hpk, rfl, hv⟩⟩
                  obtain ⟨n, xs, cs, hxr, hown, hlx, hcx, hold2⟩ := hrow
                  have e1 := ev_of_ext hlt.1 hl (hE'.trans hE) hxr
                  simp only [List.map_cons, List.map_nil, e1, e2] at hd
                  cases dy <;> simp only [Prim.den] at hd <;> try (cases hd; done)
                  rename_i m ys
                  split at hd
                  · rename_i hbd
                    cases hd
                    have hzd := A.rd_ext hE hz'
                    have fin : ∀ (v : Value) (w' : World) (news : List Value), (Builtin.append_ #[t, t] o.type #[a.eval x1, a.eval x2]).run P w = .ok v w' → w'.ownsR w0.heap.size e ti.size v (n + m) (xs ++ news) → w.grownBy w' (blockOf (a.eval x1)) →
                        (∀ b, blockOf v = some b → w.heap.size ≤ b ∨ blockOf (a.eval x1) = some b) → news.length = ys.length → (∀ (j : Nat) (d : DV), ys[j]? = some d → ∃ u, news[j]? = some u ∧ Reads (okS w0 ok0 (patch bl S1.bl y.blocks) β) w d u) → o.wp P a w K' Q' := by
                      intro v w' news hr ho2 hg hv hln hcn
                      refine wp_value (run a w w' _ _ v rfl rfl hr) (hk v _ w' (HM.own_turn (v := a.eval x1) hβ hid2 hzd hg hv hold2 ho2 (by simp [hlx, hln]) (app_get hlx hcx hcn)) (upd_none β hβ).1 (upd_none β hβ).2 fun s hs => ?_)
                      cases hs
                      simp [SVRep, S1Rep, CRep, upd]
                    rcases reads_cells hry hbd.2.1 (by omega) with ⟨hm0, ad2, cap2, hv2⟩ | ⟨ad2, cap2, news, hv2, hl2, hc2, h12, hr2⟩
                    · subst hm0
                      have hy0 : ys = [] := List.eq_nil_of_length_eq_zero (by rw [hbd.2.1]; simp)
                      subst hy0
                      obtain ⟨ad1, cap1, hv1, hle⟩ := ownsR_slice hown
                      refine fin (a.eval x1) w [] ?_ (by simpa using hown) ⟨rfl, rfl, rfl, Nat.le_refl _, fun _ _ _ => rfl⟩ (fun b hb => .inr hb) rfl (fun j d hj => by simp at hj)
                      rw [hv1, hv2]
                      exact run_append_zero hu hti _ _ n cap1 cap2 hle
                    · obtain ⟨v, w', hr, ho2, hg, hv⟩ := run_append_own2 (P := P) (ty := o.type) w0.heap.size hu hti h2 rfl rfl (by
                        have := (cellsOfVal_rep (ρ := ρf) (β := β) (ok := okS w0 ok0 bl β) (w := w) h3).1
                        rw [this, hzl]) (by omega) (by omega) hown ad2 m cap2 news hl2 hc2 h12 (by omega) H.bel.size
                      exact fin v w' news (by rw [hv2]; exact hr) ho2 hg hv (by rw [hl2, hbd.2.1]) hr2
                  · cases hd
                · cases h
            · cases h
        · cases h
      · cases h
    · cases h

end
end Go.Px

/- Px13: one operation, part eleven: stores, makes, slices; and every operation together. -/
import Derived.Test.YtgnhhdgepnfnmaaPx12
set_option linter.unusedSimpArgs false
set_option linter.unusedVariables false
namespace Go.Px
open Go.RowKit
section
variable {P : Program} {o : Oper} {ks : List Nat} {S : St} {K : Option SV → St → Option IR} {As : List (List DV → Prop)} {ρ : List DV} {Q : List AV → Prop} {ir : IR}

theorem op_minmax {b : Builtin} (hb : b = .min ∨ b = .max) {args : Array Operand} {argTypes : Array TypeId} (ho : o.op = .call { callee := .builtin b, args := args, argTypes := argTypes })
    (h : symBuiltin P b argTypes (args.toList.map S.ev) S.nb S K = some ir) (hw : IRwp P As ρ ir Q) (hl : ρ.length = S.nv) (hid : S.bl S.nb = none) : OpOut P o S.nb S ks K As ρ Q := by
  rcases hb with rfl | rfl
  · unfold symBuiltin at h
    split at h
    all_goals first | contradiction | skip
    · rename_i p q _ he
      obtain ⟨x1, x2, hargs, hx1, hx2⟩ := args2 he
      subst hargs
      have hm1 : x1 ∈ o.op.operands := by simp [ho, Op.operands, Call.operands]
      have hm2 : x2 ∈ o.op.operands := by simp [ho, Op.operands, Call.operands]
      refine op_prim2 hm1 hm2 hx1 hx2 h hw hl hid fun a w ok d e d' hr1 hr2 hd => ?_
      cases d <;> cases e <;> simp only [Prim.den] at hd <;> try (cases hd; done)
      rename_i k n k' n'
      split at hd
      · cases hd
        refine ⟨.int k (if n' < n then n' else n), run_builtin ho ?_, .int _ _⟩
        simp [builtin, Builtin.min_, reads_int hr1, reads_int hr2, Builtin.min2]
      · cases hd
  · unfold symBuiltin at h
    split at h
    all_goals first | contradiction | skip
    · rename_i p q _ he
      obtain ⟨x1, x2, hargs, hx1, hx2⟩ := args2 he
      subst hargs
      have hm1 : x1 ∈ o.op.operands := by simp [ho, Op.operands, Call.operands]
      have hm2 : x2 ∈ o.op.operands := by simp [ho, Op.operands, Call.operands]
      refine op_prim2 hm1 hm2 hx1 hx2 h hw hl hid fun a w ok d e d' hr1 hr2 hd => ?_
      cases d <;> cases e <;> simp only [Prim.den] at hd <;> try (cases hd; done)
      rename_i k n k' n'
      split at hd
      · cases hd
        refine ⟨.int k (if n' > n then n' else n), run_builtin ho ?_, .int _ _⟩
        simp [builtin, Builtin.max_, reads_int hr1, reads_int hr2, Builtin.max2]
      · cases hd

theorem solid_one {ρ : List DV} {β : Bm} {ok : Nat → Prop} {w : World} {c : C} {v : Value} (h : CRep ρ β ok w c v) (hs : c.solid = true) (hβ : ∀ k v, β k = some v → v.oneCell' = true) : v.oneCell' = true := by
  cases c <;> simp only [CRep] at h <;> simp only [C.solid] at hs
  case «at» a => obtain ⟨d, _, hr⟩ := h; exact oneCell'_of_reads hr
  case nils => subst h; rfl
  case ful a => obtain ⟨d, _, hr, _⟩ := h; exact oneCell'_of_reads hr
  case lp k off => obtain ⟨b, _, rfl⟩ := h; rfl
  case fp x i s off => obtain ⟨_, _, _, _, _, _, _, _, _, _, _, _, rfl⟩ := h; rfl
  case own k => exact hβ _ _ h
  case op k i s off => obtain ⟨_, _, _, _, _, _, _, _, _, rfl⟩ := h; rfl
  case sub k lo n s => obtain ⟨_, _, _, _, _, _, _, _, _, _, _, _, _, _, _, rfl, _⟩ := h; rfl
  case fn f ks => obtain ⟨_, rfl, _⟩ := h; rfl
  case np => subst h; rfl
  all_goals cases hs

/-- A block of the call's own is written. -/
theorem RM.write {w0 : World} {ok0 : Nat → Prop} {fs : List (Array Value)} {stk : List Frm} {ρ : List DV} {β : Bm} {nt : Nat} {tm : Nat → Option SV} {bl : Nat → Option Blk} {a : Act} {w w' : World}
    (H : RM w0 ok0 fs stk ρ β nt tm bl a w) {k : Nat} {b b' : Blk} {v : Value} {m : Nat} (hk : bl k = some b) (hm : b.mut = true) (hm' : b'.mut = true) (hv : β k = some v) (hbo : blockOf v = some m)
    (hoth : ∀ j, j ≠ m → w'.heap[j]? = w.heap[j]?) (hsz : w'.heap.size = w.heap.size) (hos : w'.os = w.os) (htape : w'.tape = w.tape) (hout : w'.output = w.output)
    (hrep : (∀ b o, okS w0 ok0 bl β b → w.heap[b]? = some o → okS w0 ok0 (upd bl k (some b')) β b ∧ w'.heap[b]? = some o) → BlkRep w0 ρ β (okS w0 ok0 (upd bl k (some b')) β) w' k b') :
    RM w0 ok0 fs stk ρ β nt tm (upd bl k (some b')) a w' := by
  have hlt := H.lt_of_mut hk hm hv hbo
  have hokeq : ∀ j, okS w0 ok0 bl β j → okS w0 ok0 (upd bl k (some b')) β j := fun j hj => ⟨hj.1, fun k' blk u hb2 hm2 hu he => by
    unfold upd at hb2
    split at hb2
    · rename_i hkk; subst hkk
      exact hj.2 k' b u hk hm hu he
    · exact hj.2 k' blk u hb2 hm2 hu he⟩
  have hmono : ∀ b o, okS w0 ok0 bl β b → w.heap[b]? = some o → okS w0 ok0 (upd bl k (some b')) β b ∧ w'.heap[b]? = some o := fun j o hj ho => by
    refine ⟨hokeq j hj, ?_⟩
    rw [hoth j fun he => hj.2 k b v hk hm hv (by rw [hbo, he])]
    exact ho
  refine H.step (Ext.refl _) (fun _ _ h => h) hmono (fun k' b2 hb2 => ?_) (fun k1 k2 b1 b2 v1 v2 m' e1 m1 e2 m2 f1 f2 g1 g2 => ?_) ?_ H.na
  · unfold upd at hb2
    split at hb2
    · rename_i hkk; subst hkk; cases hb2
      exact .inr (hrep hmono)
    · rename_i hne
      refine .inl ⟨hb2, fun u m' hu hbo' hor => hoth m' fun he => ?_⟩
      subst he
      rcases hor with hmut | hlt'
      · exact hne (H.inj k' k b2 b u v m' hb2 hmut hk hm hu hv hbo' hbo)
      · omega
  · unfold upd at e1 e2
    split at e1
    · split at e2
      · rename_i h1 h2; rw [h1, h2]
      · rename_i h1 h2; subst h1
        exact H.inj k1 k2 b b2 v1 v2 m' hk hm e2 m2 f1 f2 g1 g2
    · split at e2
      · rename_i h1 h2; subst h2
        exact H.inj k1 k2 b1 b v1 v2 m' e1 m1 hk hm f1 f2 g1 g2
      · exact H.inj k1 k2 b1 b2 v1 v2 m' e1 m1 e2 m2 f1 f2 g1 g2
  · exact H.bel.trans ⟨hos, htape, hout, by rw [hsz]; exact Nat.le_refl _, fun i hi => hoth i (by omega)⟩

theorem setRow_facts (w : World) (g : Nat) (cs : Array Value) : (w.setRow g cs).heap.size = w.heap.size ∧ (w.setRow g cs).os = w.os ∧ (w.setRow g cs).tape = w.tape ∧ (w.setRow g cs).output = w.output := by
  simp [World.setRow]

theorem run_storeVar {T : TypeId} {m : Nat} {g off : Nat} {E : TypeId} {cur : Array Value} {v : Value} {w : World} (hs : sizeT P T = some m) (hm : v.cells.size = m) (hg : w.heap[g]? = some (.cells cur E (0, 0))) (hle : off + m ≤ cur.size) (h1 : ∀ u ∈ v.cells, u.oneCell' = true) :
    (storeVar T ⟨g, off, none⟩ v).run P w = .ok () (w.setRow g (cur.toList.take off ++ v.cells.toList ++ cur.toList.drop (off + m)).toArray) := by
  obtain ⟨_, ti, hti, htm⟩ := sizeT_some hs
  have hst := run_storeCells_at P g off E v.cells.toList 0 cur w hg (by simp [hm]; omega) (fun u hu => h1 u (by simpa using hu))
  simp only [Nat.add_zero, Array.length_toList, hm] at hst
  unfold storeVar
  simp [sizeOf, typeInfo, program, Sem.run, hti, htm, hm, hst]

theorem splice_at {α : Type} {l m : List α} {off j : Nat} (hle : off + m.length ≤ l.length) : (l.take off ++ m ++ l.drop (off + m.length))[j]? = if off ≤ j ∧ j < off + m.length then m[j - off]? else l[j]? := by
  by_cases h1 : j < off
  · rw [if_neg (by omega), List.append_assoc, List.getElem?_append_left (by simp; omega), List.getElem?_take, if_pos h1]
  · by_cases h2 : j < off + m.length
    · rw [if_pos (by omega), List.append_assoc, List.getElem?_append_right (by simp; omega), List.getElem?_append_left (by simp; omega)]
      congr 1; simp; omega
    · rw [if_neg (by omega), List.getElem?_append_right (by simp; omega), List.getElem?_drop]
      congr 1; simp; omega

theorem setAt_get : ∀ (vs : List DV) (cells : List DV) (j0 j : Nat), (setAt cells j0 vs)[j]? = if j0 ≤ j ∧ j < j0 + vs.length ∧ j < cells.length then vs[j - j0]? else cells[j]?
  | [], cells, j0, j => by simp only [setAt, List.length_nil]; rw [if_neg (by omega)]
  | v :: r, cells, j0, j => by
    simp only [setAt]
    rw [setAt_get r (cells.set j0 v) (j0 + 1) j]
    simp only [List.length_set, List.length_cons]
    by_cases h : j0 = j
    · subst h
      rw [if_neg (by omega)]
      by_cases hs : j0 < cells.length
      · rw [if_pos (by omega)]; simp [hs]
      · rw [if_neg (by omega)]; simp [hs]
    · rw [List.getElem?_set_ne h]
      by_cases h2 : j0 + 1 ≤ j ∧ j < j0 + 1 + r.length ∧ j < cells.length
      · rw [if_pos h2, if_pos (by omega)]
        have : j - j0 = (j - (j0 + 1)) + 1 := by omega
        rw [this, List.getElem?_cons_succ]
      · rw [if_neg h2, if_neg (by omega)]
theorem setAt_len : ∀ (vs : List DV) (cells : List DV) (j0 : Nat), (setAt cells j0 vs).length = cells.length
  | [], _, _ => rfl
  | v :: r, cells, j0 => by simp only [setAt]; rw [setAt_len r]; simp

theorem patch_upd3 {bl b0 b1 : Nat → Option Blk} {id k : Nat} {b : Option Blk} {ks fb : List Nat} (hk : k ∈ ks) (hsub : ∀ k ∈ fb, k ∈ ks) (h0 : ∀ k ∈ id :: ks, bl k = b0 k) (h1 : ∀ k, k ∉ fb → b1 k = b0 k) :
    patch bl (upd b1 k b) (id :: ks) = upd (patch bl b1 fb) k b := by
  funext j
  simp only [patch, upd]
  by_cases hj : j = k
  · subst hj; simp [hk]
  · by_cases hf : j ∈ fb
    · simp [hj, hf, hsub j hf]
    · by_cases h2 : j ∈ id :: ks
      · simp only [h2, if_true, hj, if_false, hf]
        rw [h1 j hf, h0 j h2]
      · simp only [h2, if_false, hj, hf]

theorem op_store {T : TypeId} {x y : Operand} (ho : o.op = .store T x y) (hks : ∀ k ∈ namedOf S o.op, k ∈ ks) (h : symOp P o 0 S.nb S K = some ir) (hw : IRwp P As ρ ir Q) (hl : ρ.length = S.nv) (hid : S.bl S.nb = none) : OpOut P o S.nb S ks K As ρ Q := by
  have hmx : x ∈ o.op.operands := by simp [ho, Op.operands]
  have hmy : y ∈ o.op.operands := by simp [ho, Op.operands]
  have run : ∀ (a : Act) (w w' : World) (ad : Addr), a.eval x = .pointer (some ad) → (storeVar T ad (a.eval y)).run P w = .ok () w' → (execOp a.eval o).run P w = .ok .skip w' := by
    intro a w w' ad he hr
    simp only [execOp, ho, he, Instr.storeAt, Instr.sureAddr]
    simp [hr]
  unfold symOp at h
  simp only [ho] at h
  split at h
  · rename_i k off v m hx hy hs
    have hkk : k ∈ ks := hks k (named_mem hmx (by simp [hx, SV.blocks, Px.S1.cells, C.blocks]))
    split at h
    · rename_i cs U hb
      split at h
      · rename_i hcond
        refine ⟨ρ, none, S.setB k (.box (cs.take off ++ v.cells ++ cs.drop (off + m)) U false), ir, Ext.refl _, hl, h, hw, ⟨rfl, rfl, rfl, rfl, rfl⟩, fun j hj => ?_, ⟨fun ht => by simp [turnsOp, ho] at ht, fun j _ hn => by simp only [St.setB, upd]; split <;> simp_all⟩, ?_⟩
        · have : j ≠ k := fun he => hj (by simp [he, hkk])
          simp [St.setB, upd, this]
        intro ρf hE w0 ok0 fs stk β nt tm bl a w H hag hbl hβ hbid K' Q' hk'
        obtain ⟨b, hβk, he⟩ := H.one (x := x) (by rw [hag x hmx]; exact hx)
        have hbk : bl k = some (.box cs U false) := (hbl k hkk).trans hb
        obtain ⟨b', arr, T', fz, h1, h2, h3, h4, h5⟩ := H.hbl k _ hbk
        rw [hβk] at h1; cases h1
        obtain ⟨hb0, rfl⟩ := h4 rfl
        have hv : S1Rep ρf β (okS w0 ok0 bl β) w v (a.eval y) := H.eval (x := y) (sv := .s v) (by rw [hag y hmy]; exact hy)
        have hvc := hv.cells (fun k v h => notAgg_of_one (H.na k v h))
        have hone : ∀ u ∈ (a.eval y).cells, u.oneCell' = true := fun u hu => by
          obtain ⟨j, hj, rfl⟩ := Array.mem_iff_getElem.1 hu
          have hjl : j < v.cells.length := by rw [← hvc.1]; exact hj
          obtain ⟨u', hu', hr⟩ := hvc.2 j (v.cells[j]) (by simp)
          simp [hj] at hu'
          rw [hu']
          exact solid_one hr (List.all_eq_true.1 hcond.2.2 _ (by simp)) H.na
        have hst := run_storeVar (P := P) (T := T) (m := m) (g := b) (off := off) (E := T') (cur := arr) (v := a.eval y) (w := w) hs (by rw [hvc.1]; exact hcond.1) h2 (by rw [h3.1]; exact hcond.2.1) hone
        have hp : patch bl (S.setB k (.box (cs.take off ++ v.cells ++ cs.drop (off + m)) U false)).bl (S.nb :: ks) = upd bl k (some (.box (cs.take off ++ v.cells ++ cs.drop (off + m)) U false)) := by
          have := patch_upd3 (bl := bl) (b0 := S.bl) (b1 := S.bl) (id := S.nb) (k := k) (b := some (.box (cs.take off ++ v.cells ++ cs.drop (off + m)) U false)) (ks := ks) (fb := []) hkk (by simp) (fun j hj => by
            rcases List.mem_cons.1 hj with rfl | hj
            · rw [hbid, hid]
            · exact hbl j hj) (fun _ _ => rfl)
          rw [patch_nil] at this
          exact this
        obtain ⟨f1, f2, f3, f4⟩ := setRow_facts w b (arr.toList.take off ++ (a.eval y).cells.toList ++ arr.toList.drop (off + m)).toArray
        refine wp_skipped (run a w _ _ he hst) (hk' undef β _ (by
          rw [hp]
          refine H.write hbk rfl rfl hβk rfl (fun j hj => setRow_other w b j _ hj) f1 f2 f3 f4 fun hmono => ?_
          refine ⟨b, _, T', (0, 0), hβk, setRow_heap w b arr _ T' _ h2, ?_, fun _ => ⟨hb0, rfl⟩, fun hh => by cases hh⟩
          have hlen : v.cells.length = m := hcond.1
          refine ⟨?_, fun j c hj => ?_⟩
          · simp [hvc.1, h3.1, hlen]
          · subst hlen
            rw [splice_at (by omega)] at hj
            have hsz : (a.eval y).cells.toList.length = v.cells.length := by simp [hvc.1]
            simp only [List.getElem?_toArray]
            rw [← hsz, splice_at (by simp only [Array.length_toList, hvc.1, h3.1]; omega)]
            rw [hsz]
            split at hj
            · rename_i hr
              rw [if_pos hr]
              obtain ⟨u, hu, hq⟩ := hvc.2 _ c hj
              exact ⟨u, by simpa using hu, hq.imp (Ext.refl _) (fun _ _ h => h) hmono⟩
            · rename_i hr
              rw [if_neg hr]
              obtain ⟨u, hu, hq⟩ := h3.2 _ c hj
              exact ⟨u, by simpa using hu, hq.imp (Ext.refl _) (fun _ _ h => h) hmono⟩) (fun _ _ h => h) (fun _ _ => rfl) (fun s hs => by cases hs))
      · cases h
    · cases h
  · rename_i k i s off v m hx hy hs
    have hkk : k ∈ ks := hks k (named_mem hmx (by simp [hx, SV.blocks, Px.S1.cells, C.blocks]))
    split at h
    · rename_i l S1 hl1
      obtain ⟨eS, uS, nS, lS⟩ := toAs_facts hl1
      have hnv : S1.nv = S.nv := by rw [eS]
      have hfb : ∀ j ∈ v.cells.flatMap C.blocks, j ∈ ks := fun j hj => hks j (named_mem hmy (by rw [hy]; exact hj))
      split at h
      · rename_i z s' e hb
        split at h
        · rename_i hcond
          obtain ⟨hlen, hss⟩ := hcond
          subst hss
          obtain ⟨d, ir', hlt, hd, hK, hw', hE', hl', hz'⟩ := emit_sound h hw (by rw [hnv]; exact hl)
          refine ⟨_, none, ({ S1 with nv := S1.nv + 1 } : St).setB k (.own (.var S1.nv) s e), ir', hE', hl', hK, hw', by rw [eS]; exact ⟨rfl, rfl, rfl, rfl, rfl⟩, fun j hj => ?_, ⟨fun ht => by simp [turnsOp, ho] at ht, fun j _ hn => by
            have := nS j hn
            simp only [St.setB, upd]; split
            · rename_i he; rw [he] at this; rw [hb] at this; cases this
            · exact this⟩, ?_⟩
          · have : j ≠ k := fun he => hj (by simp [he, hkk])
            simp only [St.setB, upd, this, if_false]
            exact uS j fun hk2 => hj (by simp [hfb j hk2])
          intro ρf hE w0 ok0 fs stk β nt tm bl a w H hag hbl hβ hbid K' Q' hk'
          have hag2 : ∀ j ∈ S.nb :: ks, bl j = S.bl j := fun j hj => by
            rcases List.mem_cons.1 hj with rfl | hj
            · rw [hbid, hid]
            · exact hbl j hj
          have hp : patch bl (({ S1 with nv := S1.nv + 1 } : St).setB k (.own (.var S1.nv) s e)).bl (S.nb :: ks) = upd (patch bl S1.bl (v.cells.flatMap C.blocks)) k (some (.own (.var S1.nv) s e)) :=
            patch_upd3 (b0 := S.bl) hkk hfb hag2 uS
          have hv : S1Rep ρf β (okS w0 ok0 bl β) w v (a.eval y) := H.eval (x := y) (sv := .s v) (by rw [hag y hmy]; exact hy)
          have hvc := hv.cells (fun k v h => notAgg_of_one (H.na k v h))
          obtain ⟨_, _, _, f4⟩ := toAs_sound (w0 := w0) (ok0 := ok0) (fs := fs) (stk := stk) (ρ := ρf) (β := β) (nt := nt) (tm := tm) (a := a) (w := w) hl1
          obtain ⟨HM, hmono1, har⟩ := f4 (bl := bl) H (fun j hj => hbl j (hfb j hj)) (fun j => (a.eval y).cells.getD j undef) (fun j c hj => by
            obtain ⟨u, hu, hq⟩ := hvc.2 j c hj
            simpa [Array.getD_eq_getD_getElem?, hu] using hq)
          have hbk : patch bl S1.bl (v.cells.flatMap C.blocks) k = some (.own z s e) := by
            unfold patch; split
            · exact hb
            · rename_i hn; rw [hbl k hkk, ← uS k hn]; exact hb
          obtain ⟨b, n', cap, kI, iv, hβk, hi, hi0, hin, he⟩ := H.one (x := x) (by rw [hag x hmx]; exact hx)
          obtain ⟨v', n, cells, g1, g2, xs, hown, hxl, hxc⟩ := HM.hbl k _ hbk
          rw [hβk] at g1; cases g1
          simp only [List.all_cons, Bool.and_eq_true, hnv] at hlt
          have e1 := ev_of_ext hlt.1 hl (hE'.trans hE) g2
          have e2 := ev_of_ext hlt.2.1 hl (hE'.trans hE) hi
          simp only [List.map_cons, e1, e2, Prim.den] at hd
          split at hd
          · rename_i hbd
            cases hd
            rcases hown.2 with ⟨h0, _⟩ | ⟨g, cap', cur, hvg, hbg, hh, hnc, hcm, hcs, htake⟩
            · cases h0
            · obtain ⟨rfl, rfl, rfl⟩ : g = b ∧ n = n' ∧ cap' = cap := by cases hvg; exact ⟨rfl, rfl, rfl⟩
              have hml : m = l.length := by rw [lS, hlen]
              have hcl : cells.length = n * s := by rw [← hxl, hown.1]
              have hns : n * s ≤ cap' * s := Nat.mul_le_mul_right _ hnc
              have hone : ∀ u ∈ (a.eval y).cells, u.oneCell' = true := fun u hu => by
                obtain ⟨j, hj, rfl⟩ := Array.mem_iff_getElem.1 hu
                have hjl : j < l.length := by rw [lS, ← hvc.1]; exact hj
                obtain ⟨d', _, hrd⟩ := har j (l[j]) (by simp)
                have := oneCell'_of_reads hrd
                simpa [Array.getD_eq_getD_getElem?, hj] using this
              have hbd3 : iv.toNat * s + off + l.length ≤ cells.length := by simpa using hbd.2.2
              have hst := run_storeVar (P := P) (T := T) (m := m) (g := g) (off := iv.toNat * s + off) (E := e) (cur := cur) (v := a.eval y) (w := w) hs (by rw [hvc.1]; exact hlen) hh (by omega) hone
              obtain ⟨f1, f2, f3, f5⟩ := setRow_facts w g (cur.toList.take (iv.toNat * s + off) ++ (a.eval y).cells.toList ++ cur.toList.drop (iv.toNat * s + off + m)).toArray
              refine wp_skipped (run a w _ _ he hst) (hk' undef β _ (by
                rw [hp]
                refine HM.write hbk rfl rfl hβk rfl (fun j hj => setRow_other w g j _ hj) f1 f2 f3 f5 fun hmono => ?_
                have hsz : (a.eval y).cells.toList.length = m := by simp [hvc.1, hlen]
                have hcur' : ∀ j : Nat, (cur.toList.take (iv.toNat * s + off) ++ (a.eval y).cells.toList ++ cur.toList.drop (iv.toNat * s + off + m))[j]? =
                    if iv.toNat * s + off ≤ j ∧ j < iv.toNat * s + off + m then (a.eval y).cells.toList[j - (iv.toNat * s + off)]? else cur.toList[j]? := fun j => by
                  rw [← hsz]; exact splice_at (by simp only [Array.length_toList, hsz] at *; omega)
                have hlen' : (cur.toList.take (iv.toNat * s + off) ++ (a.eval y).cells.toList ++ cur.toList.drop (iv.toNat * s + off + m)).length = cur.size := by
                  simp [hvc.1, hlen]; omega
                refine ⟨_, n, _, hβk, A.rd_ext hE hz', (cur.toList.take (iv.toNat * s + off) ++ (a.eval y).cells.toList ++ cur.toList.drop (iv.toNat * s + off + m)).take (n * s), ⟨?_, .inr ⟨g, cap', _, rfl, hbg, setRow_heap w g cur _ e _ hh, hnc, hcm, ?_, ?_⟩⟩, ?_, fun j d hj => ?_⟩
                · rw [List.length_take, hlen']; omega
                · simp only [List.size_toArray, hlen']; exact hcs
                · rfl
                · rw [List.length_take, hlen', setAt_len]; omega
                · rw [setAt_get] at hj
                  rw [List.getElem?_take]
                  have hjl : j < n * s := by
                    split at hj
                    · omega
                    · have := (List.getElem?_eq_some_iff.1 hj).1; omega
                  rw [if_pos hjl, hcur' j]
                  simp only [List.length_map] at hj
                  rw [← hml] at hj
                  split at hj
                  · rename_i hr
                    rw [if_pos ⟨hr.1, hr.2.1⟩]
                    rw [List.getElem?_map] at hj
                    cases hx2 : l[j - (iv.toNat * s + off)]? with
                    | none => rw [hx2] at hj; cases hj
                    | some z2 =>
                      rw [hx2] at hj
                      simp only [Option.map_some, Option.some.injEq] at hj
                      obtain ⟨d', hd', hrd⟩ := har _ z2 hx2
                      have hzl : z2.lt S.nv = true := by rw [← hnv]; exact List.all_eq_true.1 (by rw [hnv]; exact hlt.2.2) z2 (List.mem_of_getElem? hx2)
                      have := ev_of_ext hzl hl (hE'.trans hE) hd'
                      have hjj : j - (iv.toNat * s + off) < (a.eval y).cells.size := by rw [hvc.1, hlen]; omega
                      refine ⟨(a.eval y).cells[j - (iv.toNat * s + off)], by simp [hjj], ?_⟩
                      rw [← hj, this]
                      have h9 : (a.eval y).cells.getD (j - (iv.toNat * s + off)) undef = (a.eval y).cells[j - (iv.toNat * s + off)] := by simp [Array.getD_eq_getD_getElem?, hjj]
                      rw [← h9]
                      exact hrd.imp hmono
                  · rename_i hr
                    rw [if_neg (by
                      intro hc
                      have := (List.getElem?_eq_some_iff.1 hj).1
                      exact hr ⟨hc.1, hc.2, this⟩)]
                    obtain ⟨u, hu, hq⟩ := hxc j d hj
                    rw [← htake, List.getElem?_take, if_pos hjl] at hu
                    exact ⟨u, hu, hq.imp hmono⟩) (fun _ _ h => h) (fun _ _ => rfl) (fun s hs => by cases hs))
          · cases hd
        · cases h
      · cases h
    · cases h
  · cases h

end
end Go.Px

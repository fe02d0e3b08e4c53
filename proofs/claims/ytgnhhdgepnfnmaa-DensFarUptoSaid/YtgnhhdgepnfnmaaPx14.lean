/- Px14: one operation, part ten: making a slice, slicing; then every operation. -/
import Derived.Test.YtgnhhdgepnfnmaaPx13
set_option linter.unusedSimpArgs false
set_option linter.unusedVariables false
namespace Go.Px
open Go.RowKit

section
variable {P : Program} {o : Oper} {ks : List Nat} {S : St} {K : Option SV → St → Option IR} {As : List (List DV → Prop)} {ρ : List DV} {Q : List AV → Prop} {ir : IR}

theorem op_makeSlice {t : TypeId} {l c : Operand} (ho : o.op = .makeSlice t l c) (h : symOp P o 0 S.nb S K = some ir) (hw : IRwp P As ρ ir Q) (hl : ρ.length = S.nv) (hid : S.bl S.nb = none) : OpOut P o S.nb S ks K As ρ Q := by
  have hml : l ∈ o.op.operands := by simp [ho, Op.operands]
  have hmc : c ∈ o.op.operands := by simp [ho, Op.operands]
  unfold symOp at h
  simp only [ho] at h
  split at h
  · rename_i e la ca hu hla hca
    split at h
    · rename_i ti zs hti hz
      split at h
      · cases h
      · rename_i hcond
        simp only [not_or, Decidable.not_not] at hcond
        obtain ⟨hs, hs0, hb0⟩ := hcond
        obtain ⟨ti', z, h1, h2, h3⟩ := zerosOf_some hz
        rw [hti] at h1; cases h1
        split at h
        · rename_i za S1 hza
          obtain ⟨eS, uS, nS, lS⟩ := toAs_facts hza
          have hfl : zs.flatMap C.blocks = [] := List.flatMap_eq_nil_iff.2 fun c hc => zeros_blocks hz c hc
          have hbl1 : S1.bl = S.bl := by funext k; exact uS k (by simp [hfl])
          have hS1 : S1 = S := by rw [eS, hbl1]
          subst hS1
          obtain ⟨d, ir', hlt, hd, hK, hw', hE', hl', hz'⟩ := emit_sound h hw hl
          simp only [List.all_cons, Bool.and_eq_true] at hlt
          obtain ⟨dl, hdl⟩ := rd_of_lt hlt.1 hl
          obtain ⟨dc, hdc⟩ := rd_of_lt hlt.2.1 hl
          simp only [List.map_cons, A.ev_of_rd hdl, A.ev_of_rd hdc] at hd
          cases dl <;> try (simp [Prim.den] at hd; done)
          rename_i kl iv
          cases dc <;> try (cases kl <;> simp [Prim.den] at hd; done)
          rename_i kc cv
          cases kl <;> try (simp [Prim.den] at hd; done)
          cases kc <;> try (simp [Prim.den] at hd; done)
          simp only [Prim.den] at hd
          split at hd
          · rename_i hb
            obtain ⟨b0, b1, b2⟩ := hb
            simp only [Option.some.injEq, List.length_map] at hd
            refine ⟨_, _, ({ S1 with nv := S1.nv + 1 } : St).setB S1.nb (.own (.var S1.nv) ti.size e), ir', hE', hl', hK, hw', ⟨rfl, rfl, rfl, rfl, rfl⟩, fun k hk => ?_, ⟨fun ht => by simp [turnsOp, ho] at ht, fun k hk h => by simp [St.setB, upd, hk, h]⟩, ?_⟩
            · have hne : k ≠ S1.nb := fun he => hk (by simp [he])
              simp [St.setB, upd, hne]
            intro ρf hE w0 ok0 fs stk β nt tm bl a w H hag hbl hβ hbid K' Q' hk
            have evl : a.eval l = .int .i64 iv := by
              obtain ⟨d', hd', hr⟩ := H.one (x := l) (by rw [hag l hml]; exact hla)
              rw [A.rd_ext (hE'.trans hE) hdl] at hd'; cases hd'
              exact reads_int hr
            have evc : a.eval c = .int .i64 cv := by
              obtain ⟨d', hd', hr⟩ := H.one (x := c) (by rw [hag c hmc]; exact hca)
              rw [A.rd_ext (hE'.trans hE) hdc] at hd'; cases hd'
              exact reads_int hr
            have hc0 : 0 ≤ cv := by omega
            have hcb : cv ≤ cv * (ti.bytes : Int) := by
              have : cv * 1 ≤ cv * (ti.bytes : Int) := Int.mul_le_mul_of_nonneg_left (by omega) hc0
              omega
            have hby : (ti.bytes : Int) * cv ≤ 281474976710656 := by
              rw [Int.mul_comm]; omega
            have hrun := run_make (P := P) w t e ti z hu hti h2 .i64 .i64 iv cv b0 b1 hby (by omega)
            have hrun' : (execOp a.eval o).run P w = .ok (.value (.slice (some ⟨w.heap.size, 0, none⟩) iv.toNat cv.toNat)) (w.alloc (.cells (madeCells z.cells (cv.toNat * ti.size)) e)) := by
              simp [execOp, ho, evl, evc, hrun]
            have hzc := cellsOfVal_rep (ρ := ρf) (β := β) (ok := okS w0 ok0 bl β) (w := w) h3
            obtain ⟨_, _, _, f4⟩ := toAs_sound (w0 := w0) (ok0 := ok0) (fs := fs) (stk := stk) (ρ := ρf) (β := β) (nt := nt) (tm := tm) (a := a) (w := w) hza
            obtain ⟨_, g2, g3⟩ := f4 (bl := bl) H (fun k hk => by rw [hfl] at hk; cases hk) (fun j => z.cells.getD j undef) (fun j c hj => by
              obtain ⟨u, hu, hq⟩ := hzc.2 j c hj
              simpa [Array.getD_eq_getD_getElem?, hu] using hq)
            rw [hfl, patch_nil] at g3
            have hzl : z.cells.size = za.length := by rw [hzc.1, lS]
            have hsz : ti.size = za.length := by rw [lS]; exact hs
            have hle : iv.toNat ≤ cv.toNat := by omega
            have hcells : ∀ (j : Nat) (d : DV), ((List.range (iv.toNat * za.length)).map fun j => (za.map (A.ev ρ)).getD (j % za.length) (.bool false))[j]? = some d → ∃ u, (madeCells z.cells (cv.toNat * ti.size))[j]? = some u ∧ Reads (okS w0 ok0 bl β) w d u := by
              intro j d' hj
              rw [List.getElem?_map] at hj
              by_cases hjl : j < iv.toNat * za.length
              · rw [List.getElem?_range hjl] at hj
                simp only [Option.map_some, Option.some.injEq] at hj
                have hmod : j % za.length < za.length := Nat.mod_lt _ (by omega)
                have hjc : j < cv.toNat * ti.size := by
                  have : iv.toNat * za.length ≤ cv.toNat * za.length := Nat.mul_le_mul_right _ hle
                  rw [hsz]; omega
                obtain ⟨dd, hdd, hrd⟩ := g3 (j % za.length) (za[j % za.length]'hmod) (List.getElem?_eq_getElem hmod)
                refine ⟨z.cells.getD (j % za.length) undef, ?_, ?_⟩
                · simp only [madeCells, Array.getElem?_map]
                  rw [Array.getElem?_range]
                  simp only [hjc, if_true, Option.map_some, Option.some.injEq, hzl]
                  rw [getElem!_def, Array.getD_eq_getD_getElem?]
                  have : j % za.length < z.cells.size := by omega
                  simp [this]
                · have hx : (za[j % za.length]'hmod).lt S1.nv = true := List.all_eq_true.1 hlt.2.2 _ (List.getElem_mem hmod)
                  have := ev_of_ext hx hl (hE'.trans hE) hdd
                  rw [← hj, List.getD_eq_getElem?_getD, List.getElem?_map, List.getElem?_eq_getElem hmod]
                  simp only [Option.map_some, Option.getD_some]
                  rw [this]; exact hrd
              · rw [List.getElem?_eq_none (by simpa using hjl)] at hj; cases hj
            have hp2 : patch bl (({ S1 with nv := S1.nv + 1 } : St).setB S1.nb (.own (.var S1.nv) ti.size e)).bl (S1.nb :: ks) = upd bl S1.nb (some (.own (.var S1.nv) ti.size e)) :=
              patch_upd (b0 := S1.bl) hbl
            refine wp_value hrun' (hk _ _ _ (by
              rw [hp2]
              refine H.new_own hβ hbid (A.rd_ext hE (by rw [hz', ← hd])) hle (by unfold maxLen; omega) (by simp [hsz]) (by rw [size_madeCells]) hcells) (upd_none β hβ).1 (upd_none β hβ).2 fun s hs => ?_)
            cases hs
            simp [SVRep, S1Rep, CRep, upd]
          · cases hd
        · cases h
    · cases h
  · cases h

/-- A part of what a slice reads as. -/
theorem sl_reads {ok : Nat → Prop} {w : World} {n cap s l h m : Nat} {cells : List DV} {ad : Option Addr} (hr : Reads ok w (.list n cells) (.slice ad n cap)) (hlen : cells.length = n * s) (h1 : l ≤ h) (h2 : h ≤ n) (h3 : h ≤ m) :
    Reads ok w (.list (h - l) ((cells.drop (l * s)).take ((h - l) * s))) (sliced ad l h m s) := by
  cases hr with
  | list _ _ _ _ f hcap hmem hrr =>
    have hsum : l * s + (h - l) * s ≤ n * s := by rw [← Nat.add_mul]; exact Nat.mul_le_mul_right _ (by omega)
    have hlen2 : ((cells.drop (l * s)).take ((h - l) * s)).length = (h - l) * s := by simp; omega
    unfold sliced
    refine .list _ _ _ _ (fun j => f (l * s + j)) (by omega) (fun hne => ?_) (fun j d hj => ?_)
    · have h0 : 0 < (h - l) * s := by rw [← hlen2]; exact List.length_pos_iff.2 hne
      have hml : ¬ m = l := fun he => by
        have : h - l = 0 := by omega
        rw [this, Nat.zero_mul] at h0; omega
      obtain ⟨a0, ha, hok, hc⟩ := hmem (fun e => by rw [e] at hlen; simp at hlen; omega)
      subst ha
      refine ⟨a0.add (l * s), by simp [hml], by rw [Addr_add_block]; exact hok, fun j hj => ?_⟩
      rw [Addr_add_add]
      rw [hlen2] at hj
      exact hc _ (by omega)
    · rw [List.getElem?_take] at hj
      split at hj
      · rw [List.getElem?_drop] at hj
        exact hrr _ _ hj
      · cases hj

/-- What slicing does. -/
theorem run_sl {t e : TypeId} {s : Nat} (hu : P.underlying t = some (.slice e)) (hs : sizeT P e = some s) {w : World} {ad : Option Addr} {n cap : Nat} {lo hi mx : Option Value} {l h : Nat} {m : Nat}
    (hlo : lo = none ∧ l = 0 ∨ ∃ k, lo = some (.int k (l : Int))) (hhi : hi = none ∧ h = n ∧ mx = none ∨ ∃ k, hi = some (.int k (h : Int))) (hmx : mx = none ∧ m = cap ∨ mx ≠ none ∧ m = h ∧ ∃ k, mx = some (.int k (m : Int)))
    (h1 : l ≤ h) (h2 : h ≤ n) (h3 : n ≤ cap) : (Instr.sliceAt t (.slice ad n cap) lo hi mx).run P w = .ok (sliced ad l h m s) w := by
  obtain ⟨_, ti, hti, hts⟩ := sizeT_some hs
  have hse : (sizeOf e).run P w = .ok s w := by simp [sizeOf, typeInfo, program, Sem.run, hti, hts]
  have g1 : (h : Int) ≤ (cap : Int) := by omega
  have g2 : (l : Int) ≤ (h : Int) := by omega
  have g3 : (h : Int) ≤ (n : Int) := by omega
  have g4 : h ≤ cap := by omega
  rcases hmx with ⟨rfl, rfl⟩ | ⟨hm0, rfl, km, rfl⟩
  · rcases hhi with ⟨rfl, rfl, _⟩ | ⟨kh, rfl⟩
    · rcases hlo with ⟨rfl, rfl⟩ | ⟨kl, rfl⟩ <;> simp [Instr.sliceAt, Instr.slice, run_underlying hu, Instr.sliceBounds, run_sliceBound, sliced, hse, h1, h2, h3, g1, g2, g3, g4]
    · rcases hlo with ⟨rfl, rfl⟩ | ⟨kl, rfl⟩ <;> simp [Instr.sliceAt, Instr.slice, run_underlying hu, Instr.sliceBounds, run_sliceBound, sliced, hse, h1, h2, h3, g1, g2, g3, g4]
  · rcases hhi with ⟨_, _, hx⟩ | ⟨kh, rfl⟩
    · cases hx
    · rcases hlo with ⟨rfl, rfl⟩ | ⟨kl, rfl⟩ <;> simp [Instr.sliceAt, Instr.slice, run_underlying hu, Instr.sliceBounds, run_sliceBound, sliced, hse, h1, h2, h3, g1, g2, g3, g4]

theorem bound_some {x : Operand} {S : St} {d : Option A} {z : A} (h : boundA (some x) S d = some z) : S.ev x = some (.s (.one (.at z))) := by
  simp only [boundA] at h
  split at h
  · rename_i a he; cases h; exact he
  · cases h

theorem ownCut_some {S : St} {asArg s : Nat} {e : TypeId} {c : C} {lo hi mx : Option Operand} {b : Bool} {k : Nat} {x ha : A} (h : S.ownCut asArg s e c lo hi mx = some (b, k, x, ha)) :
    c = .own k ∧ S.bl k = some (.own x s e) ∧ (∃ y, hi = some y ∧ S.ev y = some (.s (.one (.at ha)))) ∧ (b = true → lo = none ∧ ∃ m, mx = some m ∧ S.ev m = some (.s (.one (.at ha)))) ∧ (b = false → mx = none) := by
  cases c <;> simp only [St.ownCut] at h
  case own k' =>
    split at h
    · rename_i x' s' e' y hb
      split at h
      · rename_i z hz
        split at h
        · cases h
        · rename_i hse
          simp only [not_or, Decidable.not_not] at hse
          split at h
          · rename_i hc
            simp only [Option.some.injEq, Prod.mk.injEq] at h
            obtain ⟨rfl, rfl, rfl, rfl⟩ := h
            simp only [Bool.and_eq_true, beq_iff_eq] at hc
            refine ⟨rfl, by rw [hb, hse.1, hse.2], ⟨y, rfl, bound_some hz⟩, fun _ => ⟨by cases lo <;> simp_all, ?_⟩, fun hh => by cases hh⟩
            cases mx with
            | none => simp at hc
            | some m => exact ⟨m, rfl, bound_some hc.2⟩
          · split at h
            · rename_i hc
              simp only [Option.some.injEq, Prod.mk.injEq] at h
              obtain ⟨rfl, rfl, rfl, rfl⟩ := h
              simp only [Bool.and_eq_true] at hc
              exact ⟨rfl, by rw [hb, hse.1, hse.2], ⟨y, rfl, bound_some hz⟩, (fun hh => by cases hh), fun _ => by cases mx <;> simp_all⟩
            · cases h
      · cases h
    · cases h
  all_goals cases h

theorem patch_cut {bl b0 : Nat → Option Blk} {id k : Nat} {b : Option Blk} {ks : List Nat} (hk : k ∈ ks) (h0 : ∀ j ∈ ks, bl j = b0 j) : patch bl (upd (upd b0 k none) id b) (id :: ks) = upd (dropO bl (some k)) id b := by
  funext j
  simp only [patch, upd, List.mem_cons, dropO]
  by_cases h1 : j = id
  · simp [h1]
  · by_cases h2 : j ∈ ks
    · simp [h1, h2, h0 j h2]
    · have : j ≠ k := fun he => h2 (by rw [he]; exact hk)
      simp [h1, h2, this]

theorem op_slice {t : TypeId} {x : Operand} {lo hi mx : Option Operand} {asArg : Nat} (ho : o.op = .slice t x lo hi mx) (hks : ∀ k ∈ namedOf S o.op, k ∈ ks) (h : symOp P o asArg S.nb S K = some ir) (hw : IRwp P As ρ ir Q) (hl : ρ.length = S.nv) (hid : S.bl S.nb = none) : OpOut P o S.nb S ks K As ρ Q := by
  have hm : x ∈ o.op.operands := by simp [ho, Op.operands]
  have hml : ∀ y, lo = some y → y ∈ o.op.operands := fun y hy => by simp [ho, Op.operands, hy]
  have hmh : ∀ y, hi = some y → y ∈ o.op.operands := fun y hy => by simp [ho, Op.operands, hy]
  have hmm : ∀ y, mx = some y → y ∈ o.op.operands := fun y hy => by simp [ho, Op.operands, hy]
  unfold symOp at h
  simp only [ho] at h
  split at h
  · rename_i e c hu hx
    split at h
    · cases h
    rename_i s hs
    split at h
    · -- in its own memory
      rename_i k xa ha hcut
      obtain ⟨rfl, hbk, ⟨y, rfl, hy⟩, hcut1, _⟩ := ownCut_some hcut
      obtain ⟨rfl, m, rfl, hmx⟩ := hcut1 rfl
      have hkk : k ∈ ks := hks k (named_mem hm (by rw [hx]; simp [SV.blocks, Px.S1.cells, C.blocks]))
      obtain ⟨d, ir', hlt, hd, hK, hw', hE', hl', hz'⟩ := emit_sound h hw hl
      refine ⟨_, _, (({ S with nv := S.nv + 1 } : St).dropB k).setB S.nb (.own (.var S.nv) s e), ir', hE', hl', hK, hw', ⟨rfl, rfl, rfl, rfl, rfl⟩, fun j hj => ?_, ⟨fun ht => by simp [turnsOp, ho] at ht, fun j hj hn => ?_⟩, ?_⟩
      · have h1 : j ≠ S.nb := fun he => hj (by simp [he])
        have h2 : j ≠ k := fun he => hj (by simp [he, hkk])
        simp [St.setB, St.dropB, upd, h1, h2]
      · simp only [St.setB, St.dropB, upd, hj, if_false]; split <;> simp_all
      intro ρf hE w0 ok0 fs stk β nt tm bl a w H hag hbl hβ hbid K' Q' hk'
      have hEf := hE'.trans hE
      have hβk : β k = some (a.eval x) := H.one (x := x) (c := .own k) (by rw [hag x hm]; exact hx)
      obtain ⟨v, n, cells, g1, g2, xs, hown, hxl, hxc⟩ := H.hbl k _ ((hbl k hkk).trans hbk)
      rw [hβk] at g1; cases g1
      obtain ⟨dh, hdh, hrh⟩ := H.one (x := y) (by rw [hag y (hmh y rfl)]; exact hy)
      obtain ⟨dm, hdm, hrm⟩ := H.one (x := m) (by rw [hag m (hmm m rfl)]; exact hmx)
      rw [hdh] at hdm; cases hdm
      simp only [List.all_cons, List.all_nil, Bool.and_true, Bool.and_eq_true] at hlt
      have e1 := ev_of_ext hlt.1 hl hEf g2
      have e3 := ev_of_ext hlt.2.2 hl hEf hdh
      have e2 : (A.int .i64 0).ev ρ = .int .i64 0 := rfl
      simp only [List.map_cons, List.map_nil, e1, e2, e3] at hd
      cases dh <;> try (simp [Prim.den] at hd; done)
      rename_i kh hv
      simp only [Prim.den] at hd
      split at hd
      · rename_i hb
        obtain ⟨_, b1, b2, b3⟩ := hb
        simp only [Option.some.injEq] at hd
        obtain ⟨ad, cap, hvx, hcap⟩ := ownsR_slice hown
        have hnat : (hv.toNat : Int) = hv := Int.toNat_of_nonneg b1
        have hrun := run_sl (P := P) hu hs (w := w) (ad := ad) (n := n) (cap := cap) (lo := none) (hi := some (a.eval y)) (mx := some (a.eval m)) (l := 0) (h := hv.toNat) (m := hv.toNat) (.inl ⟨rfl, rfl⟩) (.inr ⟨kh, by rw [reads_int hrh, hnat]⟩)
          (.inr ⟨by simp, rfl, kh, by rw [reads_int hrm, hnat]⟩) (by omega) (by omega) hcap
        have hrun' : (execOp a.eval o).run P w = .ok (.value (sliced ad 0 hv.toNat hv.toNat s)) w := by
          simp only [execOp, ho, hvx]
          simp [hrun]
        have hle : hv.toNat ≤ n := by omega
        have hms : hv.toNat * s ≤ n * s := Nat.mul_le_mul_right _ hle
        have hsl : sliced ad 0 hv.toNat hv.toNat s = .slice ad hv.toNat hv.toNat := by
          unfold sliced
          have : (ad.map fun z => z.add (0 * s)) = ad := by cases ad <;> simp [Addr.add]
          simp only [Nat.sub_zero, this, ite_self]
        have hcells : d = .list hv.toNat (cells.take (hv.toNat * s)) := by
          rw [← hd]; simp
        have hown2 : w.ownsR w0.heap.size e s (.slice ad hv.toNat hv.toNat) hv.toNat (xs.take (hv.toNat * s)) := by
          refine ⟨by rw [List.length_take, hown.1]; omega, ?_⟩
          rcases hown.2 with ⟨h0, hn0⟩ | ⟨g, cap', cur, h1, h2, h3, h4, h5, h6, h7⟩
          · rw [hvx] at h0; cases h0
            have : hv.toNat = 0 := by omega
            exact .inl ⟨by rw [this], this⟩
          · rw [hvx] at h1; cases h1
            refine .inr ⟨g, hv.toNat, cur, rfl, h2, h3, Nat.le_refl _, by omega, Nat.le_trans (Nat.le_trans hms (Nat.mul_le_mul_right _ h4)) h6, ?_⟩
            rw [← h7, List.take_take, Nat.min_eq_left hms]
        have hx' : (A.var S.nv).rd ρf = some (.list hv.toNat (cells.take (hv.toNat * s))) := by rw [A.rd_ext hE hz', hcells]
        have hp2 : patch bl ((({ S with nv := S.nv + 1 } : St).dropB k).setB S.nb (.own (.var S.nv) s e)).bl (S.nb :: ks) = upd (dropO bl (some k)) S.nb (some (.own (.var S.nv) s e)) := patch_cut hkk hbl
        have HT := H.own_turn (k0 := some k) (v := a.eval x) (v' := .slice ad hv.toNat hv.toNat) (w' := w) hβ hbid hx' ⟨rfl, rfl, rfl, Nat.le_refl _, fun _ _ _ => rfl⟩ (fun b hb => .inr (by rw [hvx]; cases ad <;> exact hb))
          (.inr ⟨k, _, rfl, (hbl k hkk).trans hbk, rfl, hβk⟩) hown2 (by simp [hxl]) (fun j dd hj => by
            rw [List.getElem?_take] at hj ⊢
            split at hj
            · rename_i hjl; rw [if_pos hjl]; exact hxc j dd hj
            · cases hj)
        rw [hsl] at hrun'
        refine wp_value hrun' (hk' _ _ w (by rw [hp2]; exact HT) (upd_none β hβ).1 (upd_none β hβ).2 fun s' hs' => ?_)
        cases hs'
        simp [SVRep, S1Rep, CRep, upd]
      · cases hd
    · -- for a call that is walked into
      rename_i k xa ha hcut
      obtain ⟨rfl, hbk, ⟨y, rfl, hy⟩, _, hmx⟩ := ownCut_some hcut
      have hmx := hmx rfl
      subst hmx
      have hkk : k ∈ ks := hks k (named_mem hm (by rw [hx]; simp [SV.blocks, Px.S1.cells, C.blocks]))
      split at h
      · rename_i la hla
        obtain ⟨d, ir', hlt, hd, hK, hw', hE', hl', hz'⟩ := emit_sound h hw hl
        refine OpOut.plain hE' hl' hK hw' hid fun ρf hE w0 ok0 fs stk β nt tm bl a w H hag hbl => ?_
        have hEf := hE'.trans hE
        have hβk : β k = some (a.eval x) := H.one (x := x) (c := .own k) (by rw [hag x hm]; exact hx)
        obtain ⟨v, n, cells, g1, g2, xs, hown, hxl, hxc⟩ := H.hbl k _ ((hbl k hkk).trans hbk)
        rw [hβk] at g1; cases g1
        obtain ⟨dh, hdh, hrh⟩ := H.one (x := y) (by rw [hag y (hmh y rfl)]; exact hy)
        simp only [List.all_cons, List.all_nil, Bool.and_true, Bool.and_eq_true] at hlt
        obtain ⟨dl, hdl⟩ := rd_of_lt hlt.2.1 hl
        have e1 := ev_of_ext hlt.1 hl hEf g2
        have e3 := ev_of_ext hlt.2.2 hl hEf hdh
        simp only [List.map_cons, List.map_nil, e1, e3, A.ev_of_rd hdl] at hd
        cases dl <;> try (simp [Prim.den] at hd; done)
        rename_i kl lv
        cases dh <;> try (simp [Prim.den] at hd; done)
        rename_i kh hv
        simp only [Prim.den] at hd
        split at hd
        · rename_i hb
          obtain ⟨b0, b1, b2, b3⟩ := hb
          simp only [Option.some.injEq] at hd
          obtain ⟨ad, cap, hvx, hcap⟩ := ownsR_slice hown
          have hnat : (hv.toNat : Int) = hv := Int.toNat_of_nonneg (by omega)
          have hnatl : (lv.toNat : Int) = lv := Int.toNat_of_nonneg b0
          have el : lo.map a.eval = none ∧ lv.toNat = 0 ∨ ∃ k, lo.map a.eval = some (.int k (lv.toNat : Int)) := by
            cases lo with
            | none =>
              simp only [boundA, Option.some.injEq] at hla
              subst hla
              simp only [A.rd, Option.some.injEq] at hdl
              cases hdl
              exact .inl ⟨rfl, rfl⟩
            | some z =>
              obtain ⟨d', hd', hr⟩ := H.one (x := z) (by rw [hag z (hml z rfl)]; exact bound_some hla)
              rw [A.rd_ext hEf hdl] at hd'; cases hd'
              exact .inr ⟨kl, by simp [reads_int hr]; omega⟩
          have hrun := run_sl (P := P) hu hs (w := w) (ad := ad) (n := n) (cap := cap) (lo := lo.map a.eval) (hi := some (a.eval y)) (mx := none) (l := lv.toNat) (h := hv.toNat) (m := cap) el (.inr ⟨kh, by rw [reads_int hrh, hnat]⟩)
            (.inl ⟨rfl, rfl⟩) (by omega) (by omega) hcap
          have hrun' : (execOp a.eval o).run P w = .ok (.value (sliced ad lv.toNat hv.toNat cap s)) w := by
            simp only [execOp, ho, hvx]
            simp [hrun]
          refine ⟨_, hrun', fun s' hs' => ?_⟩
          cases hs'
          rcases hown.2 with ⟨h0, hn0⟩ | ⟨g, cap', cur, h1, h2, h3, h4, h5, h6, h7⟩
          · rw [hvx] at h0; cases h0
            have hh0 : hv.toNat = 0 := by omega
            have hl0 : lv.toNat = 0 := by omega
            refine ⟨none, 0, 0, kl, lv, .i64, hv - lv, none, 0, by rw [hβk, hvx, hn0], A.rd_ext hEf hdl, by rw [A.rd_ext hE hz', ← hd], b0, by omega, by omega, ?_, fun hpos => by omega, rfl⟩
            have : (hv - lv).toNat = 0 := by omega
            simp [sliced, hh0, hl0, this]
          · rw [hvx] at h1; cases h1
            refine ⟨some ⟨g, 0, none⟩, n, cap, kl, lv, .i64, hv - lv, (if cap = lv.toNat then some ⟨g, 0, none⟩ else (some ⟨g, 0, none⟩ : Option Addr).map (·.add (lv.toNat * s))), cap - lv.toNat, by rw [hβk, hvx], A.rd_ext hEf hdl, by rw [A.rd_ext hE hz', ← hd], b0, by omega, by omega, ?_, fun hpos => ?_, rfl⟩
            · unfold sliced
              have : (hv - lv).toNat = hv.toNat - lv.toNat := by omega
              rw [this]
            · have hne : ¬ cap = lv.toNat := by omega
              exact ⟨g, rfl, by simp [hne, Addr_plain]⟩
        · cases hd
      · cases h
    split at h
    · rename_i xa S1 hA
      obtain ⟨eS, uS, nS⟩ := toA_facts hA
      have hnv : S1.nv = S.nv := by rw [eS]
      have hev : ∀ (n : Nat) (y : Operand), ({ S1 with nv := n } : St).ev y = S.ev y := fun n y => by rw [St.ev_eq, St.ev_eq, eS]
      have hfb : ∀ k ∈ c.blocks, k ∈ ks := fun k hk => hks k (named_mem hm (by rw [hx]; simpa [SV.blocks, Px.S1.cells] using hk))
      have tail : ∀ (ha : A) (n2 : Nat) (ρ2 : List DV) (ir2 : IR), Ext ρ ρ2 → ρ2.length = n2 → IRwp P As ρ2 ir2 Q →
          (match boundA lo { S1 with nv := n2 } (some (.int .i64 0)), boundA mx { S1 with nv := n2 } (some ha) with
            | some la, some ma => if ma = ha then prim (.slc s) [xa, la, ha] { S1 with nv := n2 } fun z S => K (some (.s (.one (if mx.isSome then .ful z else .at z)))) S else none
            | _, _ => none) = some ir2 →
          (hi = none ∧ mx = none ∧ (∃ n cells, xa.rd ρ2 = some (.list n cells) ∧ ha.rd ρ2 = some (.int .i64 n)) ∨ ∃ y, hi = some y ∧ S.ev y = some (.s (.one (.at ha)))) → OpOut P o S.nb S ks K As ρ Q := by
        intro ha n2 ρ2 ir2 hE2 hl2 hw2 h hhi
        split at h
        · rename_i la ma hla hma
          split at h
          · rename_i hmh2
            subst hmh2
            obtain ⟨z, d, n3, ρ3, ir3, hlt, hd, hK, hw3, hE3, hl3, hz⟩ := prim_sound h hw2 hl2
            simp only [List.all_cons, List.all_nil, Bool.and_true, Bool.and_eq_true] at hlt
            obtain ⟨dx, hdx⟩ := rd_of_lt hlt.1 hl2
            obtain ⟨dl, hdl⟩ := rd_of_lt hlt.2.1 hl2
            obtain ⟨dh, hdh⟩ := rd_of_lt hlt.2.2 hl2
            simp only [List.map_cons, List.map_nil, A.ev_of_rd hdx, A.ev_of_rd hdl, A.ev_of_rd hdh] at hd
            cases dx <;> try (simp [Prim.den] at hd; done)
            rename_i n cells
            cases dl <;> try (simp [Prim.den] at hd; done)
            rename_i kl lv
            cases dh <;> try (simp [Prim.den] at hd; done)
            rename_i kh hv
            simp only [Prim.den] at hd
            split at hd
            · rename_i hb
              obtain ⟨b0, b1, b2, b3⟩ := hb
              simp only [Option.some.injEq] at hd
              refine ⟨ρ3, _, { S1 with nv := n3 }, ir3, hE2.trans hE3, hl3, hK, hw3, by rw [eS]; exact ⟨rfl, rfl, rfl, rfl, rfl⟩, fun k hk => uS k fun hk2 => hk (by simp [hfb k hk2]), ⟨fun ht => by simp [turnsOp, ho] at ht, fun k _ h => nS k h⟩, ?_⟩
              intro ρf hE w0 ok0 fs stk β nt tm bl a w H hag hbl hβ hbid K' Q' hk'
              have hEf := hE3.trans hE
              obtain ⟨_, _, f⟩ := toA_sound (w0 := w0) (ok0 := ok0) (fs := fs) (stk := stk) (ρ := ρf) (β := β) (nt := nt) (tm := tm) (bl := bl) (a := a) (w := w) hA
              obtain ⟨HM, hmono, d0, hd0, hr0⟩ := f H (fun k hk => hbl k (hfb k hk)) (a.eval x) (H.one (x := x) (by rw [hag x hm]; exact hx))
              rw [A.rd_ext hEf hdx] at hd0; cases hd0
              obtain ⟨ad, cap, hvx, hcap, _⟩ := reads_list hr0
              have eval1 : ∀ (y : Operand) (q : A) (dq : DV), y ∈ o.op.operands → S.ev y = some (.s (.one (.at q))) → q.rd ρ2 = some dq → Reads (okS w0 ok0 bl β) w dq (a.eval y) := by
                intro y q dq hy hey hq
                obtain ⟨d', hd', hr⟩ := H.one (x := y) (by rw [hag y hy]; exact hey)
                rw [A.rd_ext hEf hq] at hd'; cases hd'
                exact hr
              have el : lo.map a.eval = none ∧ lv.toNat = 0 ∨ ∃ k, lo.map a.eval = some (.int k (lv.toNat : Int)) := by
                cases lo with
                | none =>
                  simp only [boundA, Option.some.injEq] at hla
                  subst hla
                  simp only [A.rd, Option.some.injEq] at hdl
                  cases hdl
                  exact .inl ⟨rfl, rfl⟩
                | some y =>
                  have := reads_int (eval1 y la _ (hml y rfl) (by rw [← hev n2 y]; exact bound_some hla) hdl)
                  exact .inr ⟨kl, by simp [this]; omega⟩
              have eh : hi.map a.eval = none ∧ hv.toNat = n ∧ mx.map a.eval = none ∨ ∃ k, hi.map a.eval = some (.int k (hv.toNat : Int)) := by
                rcases hhi with ⟨rfl, rfl, n', cells', e1, e2⟩ | ⟨y, rfl, hey⟩
                · rw [hdx] at e1; cases e1
                  rw [hdh] at e2; cases e2
                  exact .inl ⟨rfl, by simp, rfl⟩
                · have := reads_int (eval1 y ma _ (hmh y rfl) hey hdh)
                  exact .inr ⟨kh, by simp [this]; omega⟩
              have em : mx.map a.eval = none ∧ (if mx.isSome then hv.toNat else cap) = cap ∨ mx.map a.eval ≠ none ∧ (if mx.isSome then hv.toNat else cap) = hv.toNat ∧ ∃ k, mx.map a.eval = some (.int k (((if mx.isSome then hv.toNat else cap) : Nat) : Int)) := by
                cases mx with
                | none => exact .inl ⟨rfl, by simp⟩
                | some y =>
                  have := reads_int (eval1 y ma _ (hmm y rfl) (by rw [← hev n2 y]; exact bound_some hma) hdh)
                  exact .inr ⟨by simp, by simp, kh, by simp [this]; omega⟩
              have hrun := run_sl (P := P) hu hs (w := w) (ad := ad) (n := n) (cap := cap) el eh em (by omega) (by omega) hcap
              have hrun' : (execOp a.eval o).run P w = .ok (.value (sliced ad lv.toNat hv.toNat (if mx.isSome then hv.toNat else cap) s)) w := by
                simp only [execOp, ho, hvx]
                simp [hrun]
              have hp2 : patch bl S1.bl (S.nb :: ks) = patch bl S1.bl c.blocks := patch_wide (b0 := S.bl) (fun k hk => by simp [hfb k hk]) (fun k hk => by
                rcases List.mem_cons.1 hk with rfl | hk
                · rw [hbid, hid]
                · exact hbl k hk) uS
              rw [hvx] at hr0
              have hsl := sl_reads hr0 b3 (l := lv.toNat) (h := hv.toNat) (m := if mx.isSome then hv.toNat else cap) (by omega) (by omega) (by split <;> omega)
              have hdz : d = .list (hv.toNat - lv.toNat) ((cells.drop (lv.toNat * s)).take ((hv.toNat - lv.toNat) * s)) := by
                rw [← hd]
                have : (hv - lv).toNat = hv.toNat - lv.toNat := by omega
                rw [this]
              refine wp_value hrun' (hk' _ β _ (by show RM w0 ok0 fs stk ρf β nt tm (patch bl S1.bl (S.nb :: ks)) a _; rw [hp2]; exact HM) (fun _ _ h => h) (fun _ _ => rfl) fun s' hs' => ?_)
              cases hs'
              show CRep ρf β (okS w0 ok0 (patch bl S1.bl (S.nb :: ks)) β) w _ _
              rw [hp2]
              cases mx with
              | none => exact ⟨d, A.rd_ext hE hz, by rw [hdz]; exact hsl⟩
              | some y => exact ⟨d, A.rd_ext hE hz, by rw [hdz]; exact hsl, _, _, rfl⟩
            · cases hd
          · cases h
        · cases h
      cases hi with
      | none =>
        simp only at h
        split at h
        · cases h
        · rename_i hmx
          have hmx0 : mx = none := by cases mx with | none => rfl | some y => exact absurd rfl hmx
          obtain ⟨z, d, n2, ρ2, ir2, hlt, hd, hK, hw2, hE2, hl2, hz⟩ := prim_sound h hw (by rw [hnv]; exact hl)
          refine tail z n2 ρ2 ir2 hE2 hl2 hw2 (by subst hmx0; exact hK) (.inl ⟨rfl, hmx0, ?_⟩)
          simp only [List.all_cons, List.all_nil, Bool.and_true] at hlt
          rw [hnv] at hlt
          obtain ⟨dx, hdx⟩ := rd_of_lt hlt hl
          simp only [List.map_cons, List.map_nil, A.ev_of_rd hdx] at hd
          cases dx <;> try (simp [Prim.den] at hd; done)
          rename_i n cells
          simp only [Prim.den, Option.some.injEq] at hd
          exact ⟨n, cells, A.rd_ext hE2 hdx, by rw [hz, hd]⟩
      | some y =>
        simp only at h
        split at h
        · rename_i z hz
          exact tail z S1.nv ρ ir (Ext.refl _) (by rw [hnv]; exact hl) hw h (.inr ⟨y, rfl, by have := bound_some hz; rw [← hev S1.nv y]; exact this⟩)
        · cases h
    · cases h
  · cases h

/-- EVERY OPERATION. -/
theorem symOp_sound {asArg : Nat} (hks : ∀ k ∈ namedOf S o.op, k ∈ ks) (h : symOp P o asArg S.nb S K = some ir) (hk : KnOK S.kn ρ) (hw : IRwp P As ρ ir Q) (hl : ρ.length = S.nv) (hid : S.bl S.nb = none) : OpOut P o S.nb S ks K As ρ Q := by
  have hf : (∀ t len ps, o.op ≠ .buildSlice t len ps) → (∀ t x lo hi mx, o.op ≠ .slice t x lo hi mx) → symOp P o 0 S.nb S K = some ir := fun hne hne2 => by
    unfold symOp at h ⊢
    split at h <;> first | (rename_i he; exact absurd he (hne2 _ _ _ _ _)) | (simp_all; done)
  cases ho : o.op
  case move x => exact op_move (.inl ho) (by have := hf (by simp [ho]) (by simp [ho]); simpa only [symOp, ho] using this) hw hl hid
  case assign x => exact op_move (.inr ho) (by have := hf (by simp [ho]) (by simp [ho]); simpa only [symOp, ho] using this) hw hl hid
  case pick c x y => exact op_pick ho (hf (by simp [ho]) (by simp [ho])) hk hw hl hid
  case alloc T => exact op_alloc ho (hf (by simp [ho]) (by simp [ho])) hw hl
  case box T x => exact op_box ho (hf (by simp [ho]) (by simp [ho])) hw hl
  case build t ps => exact op_build ho (hf (by simp [ho]) (by simp [ho])) hw hl hid
  case buildSlice t len ps => exact op_buildSlice ho hks h hw hl hid
  case panic x =>
    simp only [symOp, ho] at h
    cases h
    exact hw.elim
  case load T x => exact op_load ho hks (hf (by simp [ho]) (by simp [ho])) hw hl hid
  case store T x y => exact op_store ho hks (hf (by simp [ho]) (by simp [ho])) hw hl hid
  case nilCheck x => exact op_nilCheck ho (hf (by simp [ho]) (by simp [ho])) hw hl hid
  case binOp op t x y ty => exact op_binOp ho (hf (by simp [ho]) (by simp [ho])) hw hl hid
  case unOp op t x => exact op_unOp ho (hf (by simp [ho]) (by simp [ho])) hw hl hid
  case convert src dst x => exact op_convert ho (hf (by simp [ho]) (by simp [ho])) hw hl hid
  case makeSlice t l c => exact op_makeSlice ho (hf (by simp [ho]) (by simp [ho])) hw hl hid
  case slice t x lo hi mx => exact op_slice ho hks h hw hl hid
  case fieldAddr t x f => exact op_fieldAddr ho (hf (by simp [ho]) (by simp [ho])) hw hl hid
  case field t x f => exact op_field ho (hf (by simp [ho]) (by simp [ho])) hw hl hid
  case indexAddr t x i => exact op_indexAddr ho hks (hf (by simp [ho]) (by simp [ho])) hw hl hid
  case index t x i => exact op_index ho (hf (by simp [ho]) (by simp [ho])) hw hl hid
  case extract x i => exact op_extract ho (hf (by simp [ho]) (by simp [ho])) hw hl hid
  case makeFunc fn first caps => exact op_makeFunc ho (hf (by simp [ho]) (by simp [ho])) hw hl hid
  case call c =>
    have h' := hf (by simp [ho]) (by simp [ho])
    obtain ⟨callee, args, argTypes⟩ := c
    cases callee with
    | builtin b =>
      simp only [symOp, ho] at h'
      cases b
      case len => exact op_len ho hks h' hw hl hid
      case append => exact op_append ho hks h' hw hl hid
      case min => exact op_minmax (.inl rfl) ho h' hw hl hid
      case max => exact op_minmax (.inr rfl) ho h' hw hl hid
      all_goals (simp [symBuiltin] at h')
    | value x => exact op_call ho rfl hks h' hw hl hid
    | _ => simp [symOp, ho] at h'
  all_goals (simp [symOp, ho] at h)

end
end Go.Px

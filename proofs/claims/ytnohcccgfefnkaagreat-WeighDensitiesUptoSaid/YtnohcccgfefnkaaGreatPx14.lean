/- Px9: one operation, part seven: appending. -/
import Derived.Test.YtnohcccgfefnkaaGreatPx8
set_option linter.unusedSimpArgs false
set_option linter.unusedVariables false
namespace Go.Px
open Go.RowKit

section
variable {P : Program} {w : World}

/-- Nothing is appended: the slice stays. -/
theorem run_append_zero {t ty e : TypeId} {i : TypeInfo} (ht : P.underlying t = some (.slice e)) (hi : P.info? e = some i) (b a : Option Addr) (n cap c : Nat) (hn : n ≤ cap) :
    (Builtin.append_ #[t, t] ty #[.slice b n cap, .slice a 0 c]).run P w = .ok (.slice b n cap) w := by
  cases b <;> cases a <;> simp [Builtin.append_, run_underlying ht, sizeOf, typeInfo, hi, Builtin.lenOf, Builtin.firstCells, loadCells, loadCellsFrom, hn, storeCells]

theorem zeros_row {z : Value} {e : TypeId} {size n : Nat} {xs news : List Value} {cap : Nat} (hzs : z.cells.size = size) (hl : (xs ++ news).length = n * size) (hge : n ≤ cap) :
    (xs.toArray ++ news.toArray ++ Builtin.zeroCells z.cells (cap - n)).size = cap * size ∧ (xs.toArray ++ news.toArray ++ Builtin.zeroCells z.cells (cap - n)).toList.take (n * size) = xs ++ news := by
  constructor
  · simp only [Array.size_append, List.size_toArray, size_zeroCells, hzs]
    simp only [List.length_append] at hl
    rw [hl, ← Nat.add_mul]
    congr 1; omega
  · simp only [Array.toList_append]
    rw [← hl]
    exact List.take_left

/-- A row of the call's own, appended to: it is still one; its block is the old one, or new. -/
theorem run_append_own2 (base : Nat → Prop) {t ty e : TypeId} {i : TypeInfo} {z : Value} {size bytes : Nat} (ht : P.underlying t = some (.slice e)) (hi : P.info? e = some i) (hz : i.zero = some z)
    (hsize : i.size = size) (hby : i.bytes = bytes) (hzs : z.cells.size = size) (hsz : 0 < size) (hb0 : 0 < bytes)
    {v : Value} {n : Nat} {xs : List Value} (hown : w.ownsR base e size v n xs)
    (a : Addr) (m c : Nat) (news : List Value) (hl : news.length = m * size) (hnews : ∀ j u, news[j]? = some u → w.cell? (a.add j) = some u) (h1 : ∀ u ∈ news, u.oneCell' = true)
    (hbytes : (n + m) * bytes ≤ 70368744177664) (hbase : base w.heap.size) :
    ∃ v' w', (Builtin.append_ #[t, t] ty #[v, .slice (some a) m c]).run P w = .ok v' w' ∧ w'.ownsR base e size v' (n + m) (xs ++ news) ∧ GrowsBy w w' (blockOf v) ∧
      ∀ b, blockOf v' = some b → w.heap.size ≤ b ∨ blockOf v = some b := by
  subst hsize
  subst hby
  have hnm : n + m ≤ (n + m) * i.bytes := Nat.le_mul_of_pos_right _ hb0
  have h63 : n + m ≤ maxLen := by unfold maxLen; omega
  have hlen : (xs ++ news).length = (n + m) * i.size := by rw [List.length_append, hown.1, hl, Nat.add_mul]
  -- what a row that was made anew owns
  have fresh : ∀ (old : Nat), old < n + m → ∀ (row : Option Nat), let cap := grownCap w (n + m) old e
      (w.drew.alloc (.cells (xs.toArray ++ news.toArray ++ Builtin.zeroCells z.cells (cap - (n + m))) e)).ownsR base e i.size (.slice (some ⟨w.heap.size, 0, none⟩) (n + m) cap) (n + m) (xs ++ news) ∧
      GrowsBy w (w.drew.alloc (.cells (xs.toArray ++ news.toArray ++ Builtin.zeroCells z.cells (cap - (n + m))) e)) row := by
    intro old ho row cap
    have hge : n + m ≤ cap := grownCap_ge w (n + m) old e
    obtain ⟨r1, r2⟩ := zeros_row (e := e) hzs hlen hge
    exact ⟨⟨hlen, .inr ⟨w.heap.size, cap, _, rfl, hbase, heap_alloc_new w.drew _, hge, grownCap_le_maxLen w (n + m) old e h63, Nat.le_of_eq r1.symm, r2⟩⟩,
      ⟨⟨rfl, rfl, rfl, by simp, fun k hk _ => heap_alloc_old w.drew _ k hk⟩, Nat.le_succ _⟩⟩
  rcases hown.2 with ⟨rfl, rfl⟩ | ⟨g, cap, cur, rfl, hbg, hg, hnc, hcm, hcs, htake⟩
  · have hx : xs = [] := List.eq_nil_of_length_eq_zero (by simpa using hown.1)
    subst hx
    by_cases hm : m = 0
    · subst hm
      have hn : news = [] := List.eq_nil_of_length_eq_zero (by simpa using hl)
      subst hn
      exact ⟨.slice none 0 0, w, run_append_zero ht hi none (some a) 0 0 c (Nat.le_refl _), World.ownsR_nil w base e i.size, ⟨⟨rfl, rfl, rfl, Nat.le_refl _, fun _ _ _ => rfl⟩, Nat.le_refl _⟩, fun b hb => by cases hb⟩
    · have hr := run_append_nil (P := P) w t ty e i z ht hi hz a m c news hl hnews (by omega) (by omega) (by simp only [Nat.zero_add] at hbytes; omega)
      obtain ⟨f1, f2⟩ := fresh 0 (by omega) (blockOf (.slice none 0 0))
      simp only [Nat.zero_add, List.nil_append, Array.empty_append] at f1 f2 ⊢
      exact ⟨_, _, hr, f1, f2, fun b hb => by cases hb; exact .inl (Nat.le_refl _)⟩
  · by_cases hroom : n + m ≤ cap
    · have hfit : n * i.size + news.length ≤ cur.size := by rw [hl, ← Nat.add_mul]; exact Nat.le_trans (Nat.mul_le_mul_right _ hroom) hcs
      have hr := run_append_room (P := P) w t ty e i ht hi g n cap cur hg a m c news hl hnews h1 hroom hfit
      refine ⟨_, _, hr, ⟨hlen, .inr ⟨g, cap, _, rfl, hbg, setRow_heap w g cur _ e _ hg, hroom, hcm, ?_, ?_⟩⟩, ⟨⟨rfl, rfl, rfl, by simp, fun k _ hk => setRow_other w g k _ (fun e => hk (by rw [e]; rfl))⟩, Nat.le_refl _⟩, fun b hb => .inr hb⟩
      · simp only [List.size_toArray, List.length_append, List.length_take, List.length_drop, Array.length_toList]
        omega
      · rw [htake, ← hlen]
        exact List.take_left
    · have holds : ∀ j u, xs[j]? = some u → w.cell? ((⟨g, 0, none⟩ : Addr).add j) = some u := hown.cells (g := g) rfl
      have hr := run_append_grow (P := P) w t ty e i z ht hi hz ⟨g, 0, none⟩ n cap xs hown.1 holds a m c news hl hnews (by omega) (by omega) (growslice_fits (by omega) (by omega))
      obtain ⟨f1, f2⟩ := fresh cap (by omega) (blockOf (.slice (some ⟨g, 0, none⟩) n cap))
      exact ⟨_, _, hr, f1, f2, fun b hb => by cases hb; exact .inl (Nat.le_refl _)⟩

end
end Go.Px
/- Px10: one operation, part eight: lengths, appends, calls by contract. -/
set_option linter.unusedSimpArgs false
set_option linter.unusedVariables false
namespace Go.Px
open Go.RowKit

/-! ### Arguments -/
def ArgRd (ρ : List DV) (ok : Nat → Prop) (w : World) : Arg → Value → Prop
  | .one a, v => ARd ρ ok w a v
  | .agg l, v => ∃ vs : Array Value, v = .agg vs ∧ vs.size = l.length ∧ ∀ (j : Nat) (a : A), l[j]? = some a → ∃ u, vs[j]? = some u ∧ ARd ρ ok w a u
  | .ref l, v => ∃ b arr T fz, v = .pointer (some ⟨b, 0, none⟩) ∧ w.heap[b]? = some (.cells arr T fz) ∧ arr.size = l.length ∧ ∀ (j : Nat) (a : A), l[j]? = some a → ∃ u, arr[j]? = some u ∧ ARd ρ ok w a u
  | .own .., _ => False

theorem ArgRd.rep {ρ ρf : List DV} {ok : Nat → Prop} {w : World} {g : Arg} {v : Value} {n : Nat} (h : ArgRd ρf ok w g v) (hl : ρ.length = n) (hE : Ext ρ ρf) (hlt : g.lt n = true) : RepAV ok w (g.ev ρ) v := by
  cases g with
  | one a =>
    obtain ⟨d, hd, hr⟩ := h
    simp only [Arg.ev, RepAV, ev_of_ext hlt hl hE hd]
    exact hr
  | agg l =>
    obtain ⟨vs, hv, hs, hc⟩ := h
    refine ⟨vs, hv, by simpa using hs, fun j d hj => ?_⟩
    rw [List.getElem?_map] at hj
    cases hx : l[j]? with
    | none => rw [hx] at hj; cases hj
    | some a =>
      rw [hx] at hj; simp only [Option.map_some, Option.some.injEq] at hj
      obtain ⟨u, hu, d', hd', hr⟩ := hc j a hx
      refine ⟨u, hu, ?_⟩
      rw [← hj, ev_of_ext (List.all_eq_true.1 hlt a (List.mem_of_getElem? hx)) hl hE hd']
      exact hr
  | ref l =>
    obtain ⟨b, arr, T, fz, hv, hh, hs, hc⟩ := h
    refine ⟨b, arr, T, fz, hv, hh, by simpa using hs, fun j d hj => ?_⟩
    rw [List.getElem?_map] at hj
    cases hx : l[j]? with
    | none => rw [hx] at hj; cases hj
    | some a =>
      rw [hx] at hj; simp only [Option.map_some, Option.some.injEq] at hj
      obtain ⟨u, hu, d', hd', hr⟩ := hc j a hx
      refine ⟨u, hu, ?_⟩
      rw [← hj, ev_of_ext (List.all_eq_true.1 hlt a (List.mem_of_getElem? hx)) hl hE hd']
      exact hr
  | own s E a => exact h.elim

theorem ARd.mono {ρ : List DV} {ok ok' : Nat → Prop} {w : World} {x : A} {v : Value} (h : ARd ρ ok w x v) (hm : ∀ b, ok b → ok' b) : ARd ρ ok' w x v :=
  let ⟨d, hd, hr⟩ := h; ⟨d, hd, hr.mono hm⟩
theorem ArgRd.mono {ρ : List DV} {ok ok' : Nat → Prop} {w : World} {g : Arg} {v : Value} (h : ArgRd ρ ok w g v) (hm : ∀ b, ok b → ok' b) : ArgRd ρ ok' w g v := by
  cases g with
  | one a => exact ARd.mono h hm
  | agg l => obtain ⟨vs, hv, hs, hc⟩ := h; exact ⟨vs, hv, hs, fun j a hj => let ⟨u, hu, hr⟩ := hc j a hj; ⟨u, hu, hr.mono hm⟩⟩
  | ref l => obtain ⟨b, arr, T, fz, hv, hh, hs, hc⟩ := h; exact ⟨b, arr, T, fz, hv, hh, hs, fun j a hj => let ⟨u, hu, hr⟩ := hc j a hj; ⟨u, hu, hr.mono hm⟩⟩
  | own s E a => exact h.elim

theorem reads_nil {ok : Nat → Prop} {w : World} : Reads ok w (.list 0 []) (.slice none 0 0) :=
  .list 0 [] none 0 (fun _ => undef) (Nat.le_refl _) (fun h => absurd rfl h) (fun j d hj => by simp at hj)

section
variable {w0 : W0} {ok0 : Nat → Prop} {fs : List (Array Value)} {stk : List Frm} {ρ ρ' : List DV} {β : Bm} {nt : Nat} {tm : Nat → Option SV} {bl : Nat → Option Blk} {a : Act} {w : World} {ok : Nat → Prop}

theorem plain_rd {c : C} {x : A} {v : Value} (h : c.plain = some x) (hr : CRep ρ β ok w c v) : ARd ρ ok w x v := by
  cases c <;> simp only [C.plain] at h
  case «at» y => cases h; exact hr
  case nils => cases h; simp only [CRep] at hr; subst hr; exact ⟨_, rfl, reads_nil⟩
  case ful y => cases h; obtain ⟨d, hd, hq, _⟩ := hr; exact ⟨d, hd, hq⟩
  all_goals cases h

theorem argOf_facts {S S1 : St} {v : SV} {g : Arg} (h : S.argOf v = some (g, S1)) : S1 = { S with bl := S1.bl } ∧ (∀ k, k ∉ SV.blocks (some v) → S1.bl k = S.bl k) ∧ (∀ k, S.bl k = none → S1.bl k = none) := by
  unfold St.argOf at h
  split at h
  · split at h
    · simp only [Option.map_eq_some_iff] at h
      obtain ⟨l, _, hh⟩ := h
      cases hh
      exact ⟨rfl, fun _ _ => rfl, fun _ h => h⟩
    · cases h
  · rename_i c _
    simp only [Option.map_eq_some_iff] at h
    obtain ⟨⟨x, S'⟩, hx, hh⟩ := h
    cases hh
    obtain ⟨e, u, n⟩ := toA_facts hx
    exact ⟨e, fun k hk => u k (by simpa [SV.blocks, S1.cells] using hk), n⟩
  · rename_i cs
    simp only [Option.map_eq_some_iff] at h
    obtain ⟨⟨x, S'⟩, hx, hh⟩ := h
    cases hh
    obtain ⟨e, u, n, _⟩ := toAs_facts hx
    exact ⟨e, fun k hk => u k (by simpa [SV.blocks, S1.cells] using hk), n⟩
  · cases h

theorem argOf_sound {S S1 : St} {v : SV} {g : Arg} (h : S.argOf v = some (g, S1)) (H : RM w0 ok0 fs stk ρ β nt tm bl a w) (hag : ∀ k ∈ SV.blocks (some v), bl k = S.bl k) {u : Value} (hv : SVRep ρ β (okS w0 ok0 bl β) w v u) :
    RM w0 ok0 fs stk ρ β nt tm (patch bl S1.bl (SV.blocks (some v))) a w ∧ (∀ b, okS w0 ok0 bl β b → okS w0 ok0 (patch bl S1.bl (SV.blocks (some v))) β b) ∧ ArgRd ρ (okS w0 ok0 (patch bl S1.bl (SV.blocks (some v))) β) w g u := by
  unfold St.argOf at h
  split at h
  · rename_i k
    split at h
    · rename_i cs T ro hk
      simp only [Option.map_eq_some_iff] at h
      obtain ⟨l, hl, hh⟩ := h
      cases hh
      rw [patch_same hag]
      refine ⟨H, fun _ h => h, ?_⟩
      obtain ⟨b, hβ, hu⟩ := hv
      obtain ⟨b', arr, T', fz, h1, h2, h3, _, _⟩ := H.hbl k _ ((hag k (by simp [SV.blocks, S1.cells, C.blocks])).trans hk)
      rw [hβ] at h1; cases h1
      have hm := mapM_get _ _ _ hl
      refine ⟨b, arr, T', fz, hu, h2, by rw [h3.1, hm.1], fun j x hj => ?_⟩
      obtain ⟨c, hc, hp⟩ := mapM_back _ hl hj
      obtain ⟨u', hu', hr⟩ := h3.2 j c hc
      exact ⟨u', hu', plain_rd hp hr⟩
    · cases h
  · rename_i c _
    simp only [Option.map_eq_some_iff] at h
    obtain ⟨⟨x, S'⟩, hx, hh⟩ := h
    cases hh
    have hb : SV.blocks (some (.s (.one c))) = c.blocks := by simp [SV.blocks, S1.cells]
    rw [hb] at hag ⊢
    obtain ⟨g1, g2, d, hd, hr⟩ := (toA_sound (bl := bl) hx).2.2 H hag u hv
    exact ⟨g1, g2, d, hd, hr⟩
  · rename_i cs
    simp only [Option.map_eq_some_iff] at h
    obtain ⟨⟨x, S'⟩, hx, hh⟩ := h
    cases hh
    have hb : SV.blocks (some (.s (.agg cs))) = cs.flatMap C.blocks := rfl
    rw [hb] at hag ⊢
    obtain ⟨vs, hu, hsz, hc⟩ := hv
    obtain ⟨_, _, hlen, f4⟩ := toAs_sound (w0 := w0) (ok0 := ok0) (fs := fs) (stk := stk) (ρ := ρ) (β := β) (nt := nt) (tm := tm) (a := a) (w := w) hx
    obtain ⟨g1, g2, g3⟩ := f4 (bl := bl) H hag (fun j => vs.getD j undef) (fun j c hj => by
      obtain ⟨u', hu', hq⟩ := hc j c hj
      simpa [Array.getD_eq_getD_getElem?, hu'] using hq)
    refine ⟨g1, g2, vs, hu, by rw [hsz, hlen], fun j x' hj => ?_⟩
    have hjl : j < vs.size := by rw [hsz, ← hlen]; exact (List.getElem?_eq_some_iff.1 hj).1
    refine ⟨vs[j], by simp [hjl], ?_⟩
    simpa [Array.getD_eq_getD_getElem?, hjl] using g3 j x' hj
  · cases h

theorem argsOf_facts : ∀ {l : List (Option SV)} {S S1 : St} {gs : List Arg}, S.argsOf l = some (gs, S1) → S1 = { S with bl := S1.bl } ∧ (∀ k, k ∉ l.flatMap SV.blocks → S1.bl k = S.bl k) ∧ (∀ k, S.bl k = none → S1.bl k = none) ∧ gs.length = l.length
  | [], S, S1, gs, h => by simp only [St.argsOf] at h; cases h; exact ⟨rfl, fun _ _ => rfl, fun _ h => h, rfl⟩
  | none :: r, S, S1, gs, h => by simp only [St.argsOf] at h; cases h
  | some v :: r, S, S1, gs, h => by
    simp only [St.argsOf, Option.bind_eq_bind, Option.bind_eq_some_iff, Option.pure_def] at h
    obtain ⟨⟨x, S'⟩, hx, ⟨l', S''⟩, hl', hh⟩ := h
    cases hh
    obtain ⟨e1, u1, n1⟩ := argOf_facts hx
    obtain ⟨e2, u2, n2, m2⟩ := argsOf_facts hl'
    refine ⟨by rw [e2, e1], fun k hk => ?_, fun k hk => n2 k (n1 k hk), by simp [m2]⟩
    simp only [List.flatMap_cons, List.mem_append, not_or] at hk
    rw [u2 k hk.2, u1 k hk.1]

theorem argsOf_sound : ∀ {l : List (Option SV)} {S S1 : St} {gs : List Arg}, S.argsOf l = some (gs, S1) → ∀ {bl : Nat → Option Blk}, RM w0 ok0 fs stk ρ β nt tm bl a w → (∀ k ∈ l.flatMap SV.blocks, bl k = S.bl k) →
    ∀ vs : Nat → Value, (∀ (j : Nat) (v : SV), l[j]? = some (some v) → SVRep ρ β (okS w0 ok0 bl β) w v (vs j)) →
      RM w0 ok0 fs stk ρ β nt tm (patch bl S1.bl (l.flatMap SV.blocks)) a w ∧ (∀ b, okS w0 ok0 bl β b → okS w0 ok0 (patch bl S1.bl (l.flatMap SV.blocks)) β b) ∧
      ∀ (j : Nat) (g : Arg), gs[j]? = some g → ArgRd ρ (okS w0 ok0 (patch bl S1.bl (l.flatMap SV.blocks)) β) w g (vs j)
  | [], S, S1, gs, h, bl, H, _, vs, _ => by
    simp only [St.argsOf] at h; cases h
    simp only [List.flatMap_nil, patch_nil]
    exact ⟨H, fun _ h => h, fun j x hj => by simp at hj⟩
  | none :: r, S, S1, gs, h, bl, H, _, vs, _ => by simp only [St.argsOf] at h; cases h
  | some v :: r, S, S1, gs, h, bl, H, hag, vs, hvs => by
    simp only [St.argsOf, Option.bind_eq_bind, Option.bind_eq_some_iff, Option.pure_def] at h
    obtain ⟨⟨x, S'⟩, hx, ⟨l', S''⟩, hl', hh⟩ := h
    cases hh
    obtain ⟨e1, u1, n1⟩ := argOf_facts hx
    obtain ⟨e2, u2, n2, _⟩ := argsOf_facts hl'
    simp only [List.flatMap_cons] at hag ⊢
    obtain ⟨H1, m1, hr⟩ := argOf_sound hx H (fun k hk => hag k (by simp [hk])) (hvs 0 v rfl)
    have hag2 : ∀ k ∈ r.flatMap SV.blocks, patch bl S'.bl (SV.blocks (some v)) k = S'.bl k := fun k hk => by
      unfold patch; split
      · rfl
      · rename_i hn; rw [u1 k hn]; exact hag k (by simp [hk])
    obtain ⟨H2, m2, f3⟩ := argsOf_sound hl' H1 hag2 (fun j => vs (j + 1)) (fun j v' hj => (hvs (j + 1) v' (by simpa using hj)).imp (Ext.refl _) (fun _ _ h => h) (fun b o hb ho => ⟨m1 b hb, ho⟩))
    rw [patch_patch u2] at H2 m2 f3
    refine ⟨H2, fun b hb => m2 b (m1 b hb), fun j y hj => ?_⟩
    cases j with
    | zero => simp at hj; subst hj; exact hr.mono m2
    | succ j => exact f3 j y (by simpa using hj)

end
end Go.Px
/- Px11: one operation, part nine: calls by contract, builtins. -/
set_option linter.unusedSimpArgs false
set_option linter.unusedVariables false
namespace Go.Px
open Go.RowKit

/-! ### Results -/
theorem reads_at {ρ : List DV} {β : Bm} {ok : Nat → Prop} {w : World} {i : Nat} {d : DV} {v : Value} (h : ρ[i]? = some d) (hr : Reads ok w d v) : CRep ρ β ok w (.at (.var i)) v := ⟨d, h, hr⟩

theorem resOf_len : ∀ (l : List Shp) (n : Nat), (resOf l n).length = l.length
  | [], _ => rfl
  | .one :: r, n => by simp [resOf, resOf_len r]
  | .agg m :: r, n => by simp [resOf, resOf_len r]
  | .own _ _ :: r, n => by simp [resOf, resOf_len r]

/-- A call's results are told by the variables that stand for them. -/
theorem resOf_rep {ρ : List DV} {β : Bm} {ok : Nat → Prop} {w : World} : ∀ {shp : List Shp} {res : List AV} {n : Nat}, fitAll shp res = true → (∀ (i : Nat) (d : DV), (flatAll res)[i]? = some d → ρ[n + i]? = some d) →
    ∀ (j : Nat) (x : S1) (r : AV) (u : Value), (resOf shp n)[j]? = some x → res[j]? = some r → RepAV ok w r u → S1Rep ρ β ok w x u
  | [], [], n, _, _, j, x, r, u, hx, hr, _ => by simp [resOf] at hx
  | s :: shp, a :: res, n, hf, hρ, j, x, r, u, hx, hr, hu => by
    simp only [fitAll, Bool.and_eq_true] at hf
    cases s with
    | one =>
      cases a with
      | one d =>
        cases j with
        | zero =>
          simp only [resOf, List.getElem?_cons_zero, Option.some.injEq] at hx hr
          subst hx hr
          exact ⟨d, by have := hρ 0 d (by simp [flatAll, AV.flat]); simpa [A.rd] using this, hu⟩
        | succ j =>
          simp only [resOf, List.getElem?_cons_succ] at hx hr
          refine resOf_rep hf.2 (fun i d hd => ?_) j x r u hx hr hu
          have := hρ (i + 1) d (by simpa [flatAll, AV.flat] using hd)
          rwa [show n + (i + 1) = n + 1 + i by omega] at this
      | agg ds => simp [AV.fits] at hf
      | ref ds => simp [AV.fits] at hf
      | own s E n cells => simp [AV.fits] at hf
      | nref ds => simp [AV.fits] at hf
    | agg m =>
      cases a with
      | agg ds =>
        have hm : ds.length = m := by simpa [AV.fits] using hf.1
        cases j with
        | zero =>
          simp only [resOf, List.getElem?_cons_zero, Option.some.injEq] at hx hr
          subst hx hr
          obtain ⟨vs, hv, hs, hc⟩ := hu
          refine ⟨vs, hv, by simp [hs, hm], fun j c hj => ?_⟩
          rw [List.getElem?_map] at hj
          by_cases hjl : j < m
          · rw [List.getElem?_range hjl] at hj
            simp only [Option.map_some, Option.some.injEq] at hj
            obtain ⟨u', hu', hr'⟩ := hc j (ds[j]'(by omega)) (by simp)
            refine ⟨u', hu', ?_⟩
            subst hj
            refine reads_at (hρ j _ ?_) hr'
            simp [flatAll, AV.flat, List.getElem?_append, hm, hjl]
          · rw [List.getElem?_eq_none (by simpa using hjl)] at hj; cases hj
        | succ j =>
          simp only [resOf, List.getElem?_cons_succ] at hx hr
          refine resOf_rep hf.2 (fun i d hd => ?_) j x r u hx hr hu
          have := hρ (m + i) d (by
            simp only [flatAll, List.flatMap_cons, AV.flat] at hd ⊢
            rw [List.getElem?_append_right (by omega)]
            rw [show m + i - ds.length = i by omega]; exact hd)
          rwa [show n + (m + i) = n + m + i by omega] at this
      | one d => simp [AV.fits] at hf
      | ref ds => simp [AV.fits] at hf
      | own s E n cells => simp [AV.fits] at hf
      | nref ds => simp [AV.fits] at hf
    | own s0 E0 =>
      cases a with
      | own s1 E1 n1 cells1 =>
        cases j with
        | zero =>
          simp only [List.getElem?_cons_zero, Option.some.injEq] at hr
          subst hr
          exact hu.elim
        | succ j =>
          simp only [resOf, List.getElem?_cons_succ] at hx hr
          refine resOf_rep hf.2 (fun i d hd => ?_) j x r u hx hr hu
          have := hρ (i + 1) d (by simpa [flatAll, AV.flat] using hd)
          rwa [show n + (i + 1) = n + 1 + i by omega] at this
      | one d => simp [AV.fits] at hf
      | agg ds => simp [AV.fits] at hf
      | ref ds => simp [AV.fits] at hf
      | nref ds => simp [AV.fits] at hf
  | [], _ :: _, n, hf, _, j, x, r, u, hx, hr, _ => by simp [fitAll] at hf
  | _ :: _, [], n, hf, _, j, x, r, u, hx, hr, _ => by simp [fitAll] at hf

theorem fitAll_len : ∀ {shp : List Shp} {res : List AV}, fitAll shp res = true → shp.length = res.length
  | [], [], _ => rfl
  | s :: shp, a :: res, h => by simp only [fitAll, Bool.and_eq_true] at h; simp [fitAll_len h.2]
  | [], _ :: _, h => by simp [fitAll] at h
  | _ :: _, [], h => by simp [fitAll] at h

theorem flat_count : ∀ {shp : List Shp} {res : List AV}, fitAll shp res = true → (flatAll res).length = countAll shp
  | [], [], _ => rfl
  | s :: shp, a :: res, h => by
    simp only [fitAll, Bool.and_eq_true] at h
    have ih := flat_count h.2
    simp only [flatAll, List.flatMap_cons, List.length_append, countAll, List.map_cons, List.sum_cons] at ih ⊢
    rw [ih]
    congr 1
    cases s <;> cases a <;> simp_all [AV.fits, AV.flat, Shp.count]
  | [], _ :: _, h => by simp [fitAll] at h
  | _ :: _, [], h => by simp [fitAll] at h

theorem RepAV.mono {ok ok' : Nat → Prop} {w : World} (h : ∀ b, ok b → ok' b) {r : AV} {u : Value} (hr : RepAV ok w r u) : RepAV ok' w r u := by
  cases r with
  | one d => exact Reads.mono h hr
  | agg ds => obtain ⟨vs, h1, h2, h3⟩ := hr; exact ⟨vs, h1, h2, fun j d hj => let ⟨u, hu, hq⟩ := h3 j d hj; ⟨u, hu, hq.mono h⟩⟩
  | ref ds => obtain ⟨b, arr, T, fz, h1, h2, h3, h4⟩ := hr; exact ⟨b, arr, T, fz, h1, h2, h3, fun j d hj => let ⟨u, hu, hq⟩ := h4 j d hj; ⟨u, hu, hq.mono h⟩⟩
  | own s E n cells => exact hr.elim
  | nref ds => obtain ⟨b, arr, T, fz, b2, arr2, T2, fz2, h1, h2, h3, h4, h5, h5', h6⟩ := hr; exact ⟨b, arr, T, fz, b2, arr2, T2, fz2, h1, h2, h3, h4, h5, h5', fun j d hj => let ⟨u, hu, hq⟩ := h6 j d hj; ⟨u, hu, hq.mono h⟩⟩

/-- Results, none of which is a row handed over. -/
def RepRes0 (ok : Nat → Prop) (w : World) (l : List AV) (v : Value) : Prop :=
  match l with
  | [x] => RepAV ok w x v
  | l => ∃ vs : Array Value, v = .tuple vs ∧ RepAVs ok w l vs

theorem RepRes0.mono {ok ok' : Nat → Prop} {w : World} (h : ∀ b, ok b → ok' b) {l : List AV} {v : Value} (hr : RepRes0 ok w l v) : RepRes0 ok' w l v := by
  match l, hr with
  | [], ⟨vs, h1, h2, h3⟩ => exact ⟨vs, h1, h2, fun j d hj => let ⟨u, hu, hq⟩ := h3 j d hj; ⟨u, hu, hq.mono h⟩⟩
  | [x], hr => exact RepAV.mono h hr
  | x :: y :: r, ⟨vs, h1, h2, h3⟩ => exact ⟨vs, h1, h2, fun j d hj => let ⟨u, hu, hq⟩ := h3 j d hj; ⟨u, hu, hq.mono h⟩⟩

def AV.isOwn : AV → Bool
  | .own .. => true
  | _ => false
def Shp.isOwn : Shp → Bool
  | .own .. => true
  | _ => false

theorem RepR.plain {base : Nat} {ok : Nat → Prop} {ow : Option Nat} {w : World} {x : AV} {v : Value} (hx : x.isOwn = false) (h : RepR base ok ow w x v) : RepAV (fun b => (ok b ∨ base ≤ b) ∧ ow ≠ some b) w x v := by
  cases x with
  | own s E n cells => cases hx
  | _ => exact h

theorem fit_noOwn : ∀ {shp : List Shp} {res : List AV}, fitAll shp res = true → (∀ s ∈ shp, s.isOwn = false) → ∀ x ∈ res, x.isOwn = false
  | [], [], _, _, x, hx => by cases hx
  | s :: shp, a :: res, h, hs, x, hx => by
    simp only [fitAll, Bool.and_eq_true] at h
    rcases List.mem_cons.1 hx with rfl | hx
    · have := hs s (by simp)
      cases s <;> cases x <;> simp_all [AV.fits, AV.isOwn, Shp.isOwn]
    · exact fit_noOwn h.2 (fun s hs' => hs s (by simp [hs'])) x hx
  | [], _ :: _, h, _, x, hx => by cases h
  | _ :: _, [], h, _, x, hx => by cases h

theorem shps_noOwn {P : Program} {fn : Func} : ∀ s ∈ shpsOf P fn, s.isOwn = false := by
  intro s hs
  simp only [shpsOf, List.mem_map] at hs
  obtain ⟨t, _, rfl⟩ := hs
  unfold shpOf
  split <;> rfl

theorem RepRes.plain {base : Nat} {ok : Nat → Prop} {w : World} {l : List AV} {v : Value} (hl : ∀ x ∈ l, x.isOwn = false) (h : RepRes base ok w l v) : RepRes0 (fun b => ok b ∨ base ≤ b) w l v := by
  obtain ⟨ow, h⟩ := h
  match l, hl, h with
  | [], hl, ⟨vs, h1, h2, h3⟩ => exact ⟨vs, h1, h2, fun j d hj => by simp at hj⟩
  | [x], hl, h => exact (RepR.plain (hl x (by simp)) h).mono fun b hb => hb.1
  | x :: y :: r, hl, ⟨vs, h1, h2, h3⟩ => exact ⟨vs, h1, h2, fun j d hj => let ⟨u, hu, hq⟩ := h3 j d hj; ⟨u, hu, (RepR.plain (hl d (List.mem_of_getElem? hj)) hq).mono fun b hb => hb.1⟩⟩

section
variable {P : Program} {o : Oper} {ks : List Nat} {S : St} {K : Option SV → St → Option IR} {As : List (List DV → Prop)} {ρ : List DV} {Q : List AV → Prop} {ir : IR}

theorem svOf_rep {ρ : List DV} {β : Bm} {ok : Nat → Prop} {w : World} {shp : List Shp} {res : List AV} {n : Nat} {v : Value} (hf : fitAll shp res = true) (hρ : ∀ (i : Nat) (d : DV), (flatAll res)[i]? = some d → ρ[n + i]? = some d)
    (hv : RepRes0 ok w res v) : SVRep ρ β ok w (svOf (resOf shp n)) v := by
  have hlen := fitAll_len hf
  have hrl := resOf_len shp n
  have key := resOf_rep (β := β) (ok := ok) (w := w) hf hρ
  unfold RepRes0 at hv
  split at hv
  · rename_i r
    have : ∃ x, resOf shp n = [x] := by
      rw [hlen] at hrl
      match hh : resOf shp n, hrl with
      | [x], _ => exact ⟨x, rfl⟩
    obtain ⟨x, hx⟩ := this
    rw [hx]
    exact key 0 x r v (by rw [hx]; rfl) rfl hv
  · rename_i hne
    obtain ⟨vs, hvt, hsz, hc⟩ := hv
    have : svOf (resOf shp n) = .tup (resOf shp n) := by
      unfold svOf
      split
      · rename_i x hx
        exfalso
        rw [hx] at hrl
        rw [hlen] at hrl
        obtain ⟨r, hr⟩ := List.length_eq_one_iff.1 hrl.symm
        exact hne r hr
      · rfl
    rw [this]
    refine ⟨vs, hvt, by rw [hsz, hrl, hlen], fun j x hj => ?_⟩
    have hjl : j < res.length := by rw [← hlen, ← hrl]; exact (List.getElem?_eq_some_iff.1 hj).1
    obtain ⟨u, hu, hr⟩ := hc j (res[j]) (by simp)
    exact ⟨u, hu, key j x _ u hj (by simp) hr⟩

theorem op_call {c : Call} {x : Operand} (ho : o.op = .call c) (hcal : c.callee = .value x) (hks : ∀ k ∈ namedOf S o.op, k ∈ ks) (h : symOp P o 0 S.nb S K = some ir) (hw : IRwp P As ρ ir Q) (hl : ρ.length = S.nv) (hid : S.bl S.nb = none) : OpOut P o S.nb S ks K As ρ Q := by
  obtain ⟨callee, args, argTypes⟩ := c
  simp only at hcal
  subst hcal
  have hmx : x ∈ o.op.operands := by simp [ho, Op.operands, Call.operands]
  have hma : ∀ y ∈ args, y ∈ o.op.operands := fun y hy => by simp [ho, Op.operands, Call.operands, hy]
  unfold symOp at h
  simp only [ho] at h
  split at h
  · rename_i f caps hx
    split at h
    · rename_i fn hfn
      split at h
      · rename_i gs S1 hgs
        split at h
        · rename_i hlt
          obtain ⟨eS, uS, nS, lS⟩ := argsOf_facts hgs
          have hnv : S1.nv = S.nv := by rw [eS]
          have hcapk : ∀ k ∈ caps, k ∈ ks := fun k hk => hks k (by
            refine List.mem_append.2 (.inr ?_)
            simp only [ho, capsOf, hx]; exact hk)
          have hfb : ∀ k ∈ (args.toList.map S.ev ++ capSVs caps).flatMap SV.blocks, k ∈ ks := fun k hk => by
            rw [List.flatMap_append, List.mem_append] at hk
            rcases hk with hk | hk
            · obtain ⟨v, hv, hkv⟩ := List.mem_flatMap.1 hk
              obtain ⟨y, hy, rfl⟩ := List.mem_map.1 hv
              exact hks k (named_mem (hma y (by simpa using hy)) hkv)
            · obtain ⟨v, hv, hkv⟩ := List.mem_flatMap.1 hk
              simp only [capSVs] at hv
              obtain ⟨y, hy, rfl⟩ := List.mem_map.1 hv
              simp only [SV.blocks, Px.S1.cells, List.flatMap_cons, C.blocks, List.flatMap_nil, List.append_nil, List.mem_singleton] at hkv
              subst hkv
              exact hcapk _ hy
          -- up to the callee's door
          have enter : ∀ {res : List AV}, PureCalls P f (gs.map (Arg.ev ρ)) res → ∀ (ρf : List DV), Ext ρ ρf → ∀ (w0 : W0) (ok0 : Nat → Prop) (fs : List (Array Value)) (stk : List Frm) (β : Bm) (nt : Nat) (tm : Nat → Option SV) (bl : Nat → Option Blk) (a : Act) (w : World),
              RM w0 ok0 fs stk ρf β nt tm bl a w → (∀ x ∈ o.op.operands, evT tm x = S.ev x) → (∀ k ∈ ks, bl k = S.bl k) → ∀ (K' : Act → World → Prop) (Q' : Exit → Act → World → Prop),
              RM w0 ok0 fs stk ρf β nt tm (patch bl S1.bl ((args.toList.map S.ev ++ capSVs caps).flatMap SV.blocks)) a w ∧
              ((∀ v w', RepRes w.heap.size (okS w0 ok0 (patch bl S1.bl ((args.toList.map S.ev ++ capSVs caps).flatMap SV.blocks)) β) w' res v → Grows w w' → K' (a.put o.dst v) w') → o.wp P a w K' Q') := by
            intro res hpc ρf hE w0 ok0 fs stk β nt tm bl a w H hag hb K' Q'
            obtain ⟨capv, hfv, hcs, hcap⟩ := H.one (x := x) (by rw [hag x hmx]; exact hx)
            -- the arguments' values
            have hvals : ∀ (j : Nat) (v : SV), (args.toList.map S.ev ++ capSVs caps)[j]? = some (some v) → SVRep ρf β (okS w0 ok0 bl β) w v ((args.map a.eval ++ capv).getD j undef) := by
              intro j v hj
              by_cases hja : j < args.size
              · rw [List.getElem?_append_left (by simpa using hja), List.getElem?_map] at hj
                have hj2 : args.toList[j]? = some args[j] := by simp [hja]
                rw [hj2] at hj
                simp only [Option.map_some, Option.some.injEq] at hj
                have : (args.map a.eval ++ capv).getD j undef = a.eval args[j] := by
                  rw [Array.getD_eq_getD_getElem?, Array.getElem?_append_left (by simpa using hja)]
                  simp [hja]
                rw [this]
                exact H.eval (by rw [hag _ (hma _ (by simp))]; exact hj)
              · rw [List.getElem?_append_right (by simpa using hja)] at hj
                simp only [capSVs, List.getElem?_map, List.length_map, Array.length_toList] at hj
                cases hk : caps[j - args.size]? with
                | none => rw [hk] at hj; cases hj
                | some k =>
                  rw [hk] at hj
                  simp only [Option.map_some, Option.some.injEq] at hj
                  subst hj
                  obtain ⟨b, hb1, hb2⟩ := hcap _ k hk
                  have : (args.map a.eval ++ capv).getD j undef = .pointer (some ⟨b, 0, none⟩) := by
                    rw [Array.getD_eq_getD_getElem?, Array.getElem?_append_right (by simp; omega)]
                    simp [hb2]
                  rw [this]
                  exact ⟨b, hb1, rfl⟩
            obtain ⟨HM, hmono, harg⟩ := argsOf_sound hgs H (fun k hk => hb k (hfb k hk)) (fun j => (args.map a.eval ++ capv).getD j undef) hvals
            have hrep : RepAVs (okS w0 ok0 (patch bl S1.bl ((args.toList.map S.ev ++ capSVs caps).flatMap SV.blocks)) β) w (gs.map (Arg.ev ρ)) (args.map a.eval ++ capv) := by
              refine ⟨by simp [lS, hcs, capSVs], fun j d hj => ?_⟩
              rw [List.getElem?_map] at hj
              cases hg : gs[j]? with
              | none => rw [hg] at hj; cases hj
              | some g =>
                rw [hg] at hj; simp only [Option.map_some, Option.some.injEq] at hj
                have hjl : j < (args.map a.eval ++ capv).size := by
                  have := (List.getElem?_eq_some_iff.1 hg).1
                  rw [lS] at this; simp [capSVs] at this; simp [hcs]; omega
                refine ⟨(args.map a.eval ++ capv)[j], by simp [hjl], ?_⟩
                have := (harg j g hg).rep hl hE (by rw [← hnv]; exact List.all_eq_true.1 hlt g (List.mem_of_getElem? hg))
                rw [← hj]
                rw [Array.getD_eq_getD_getElem?, Array.getElem?_eq_getElem hjl, Option.getD_some] at this
                exact this
            obtain ⟨⟨fn', hfn', hname, hbody⟩, hcalls⟩ := hpc
            have hrun : (execOp a.eval o).run P w = .ok (.enter f (args.map a.eval ++ capv)) w := by
              simp only [execOp, ho, resolve, hfv, Deferred.ofValue, invoke, callFunc, Sem.run_bind, Sem.run_pure, Result.andThen_ok, program, Sem.run, hfn', Array.empty_append, hname, hbody, Bool.false_eq_true, if_false]
            refine ⟨HM, fun hk => ?_⟩
            unfold Oper.wp
            rw [hrun]
            refine (hcalls w _ _ hrep).mono fun e w' => ?_
            rintro ⟨v, rfl, hres, hbel⟩
            exact hk v w' hres hbel
          have hp2 : ∀ bl : Nat → Option Blk, bl S.nb = none → (∀ k ∈ ks, bl k = S.bl k) → patch bl S1.bl (S.nb :: ks) = patch bl S1.bl ((args.toList.map S.ev ++ capSVs caps).flatMap SV.blocks) := fun bl hbl hb =>
            patch_wide (b0 := S.bl) (fun k hk => by simp [hfb k hk]) (fun k hk => by
              rcases List.mem_cons.1 hk with rfl | hk
              · rw [hbl, hid]
              · exact hb k hk) uS
          split at h
          · split at h
            · rename_i s E r hown hshp
              simp only [Option.map_eq_some_iff] at h
              obtain ⟨ir', hK, rfl⟩ := h
              obtain ⟨res, hpc, hfit, hw'⟩ := hw
              have hrno : ∀ x ∈ r, x.isOwn = false := fun x hx => shps_noOwn (P := P) (fn := fn) x (by rw [hshp]; simp [hx])
              match res, hfit with
              | .own s' E' n cells :: rest, hfit =>
              simp only [fitAll, AV.fits, Bool.and_eq_true, beq_iff_eq] at hfit
              obtain ⟨⟨rfl, rfl⟩, hfit⟩ := hfit
              have hflat : flatAll (AV.own s E n cells :: rest) = .list n cells :: flatAll rest := rfl
              rw [hflat] at hw'
              have hcnt := flat_count hfit
              refine ⟨ρ ++ .list n cells :: flatAll rest, _, ({ S1 with nv := S1.nv + 1 + countAll r } : St).setB S.nb (.own (.var S1.nv) s E), ir', Ext.app _ _, by simp [St.setB, hl, hnv, hcnt]; omega, hK, hw', by rw [eS]; exact ⟨rfl, rfl, rfl, rfl, rfl⟩,
                fun k hk => ?_, ⟨fun ht => by simp [turnsOp, ho] at ht, fun k hk hn0 => by simp only [St.setB, upd, hk, if_false]; exact nS k hn0⟩, ?_⟩
              · have hne : k ≠ S.nb := fun he => hk (by simp [he])
                simp only [St.setB, upd, hne, if_false]
                exact uS k fun hk2 => hk (by simp [hfb k hk2])
              intro ρf hE w0 ok0 fs stk β nt tm bl a w H hag hb hβ hbl K' Q' hk
              obtain ⟨HM, hgo⟩ := enter hpc ρf ((Ext.app _ _).trans hE) w0 ok0 fs stk β nt tm bl a w H hag hb K' Q'
              refine hgo fun v w' hres hbel => ?_
              have hid2 : patch bl S1.bl ((args.toList.map S.ev ++ capSVs caps).flatMap SV.blocks) S.nb = none := by
                unfold patch; split
                · exact nS _ hid
                · exact hbl
              have hp3 : patch bl (({ S1 with nv := S1.nv + 1 + countAll r } : St).setB S.nb (.own (.var S1.nv) s E)).bl (S.nb :: ks) = upd (patch bl S1.bl ((args.toList.map S.ev ++ capSVs caps).flatMap SV.blocks)) S.nb (some (.own (.var S1.nv) s E)) :=
                patch_upd2 (b0 := S.bl) hfb hb uS
              rw [hp3] at hk
              have hx0 : (A.var S1.nv).rd ρf = some (.list n cells) := by
                simp only [A.rd]
                refine hE _ _ ?_
                rw [hnv, ← hl, List.getElem?_append_right (Nat.le_refl _)]; simp
              -- the row and the others
              obtain ⟨ow, hres⟩ := hres
              have main : ∀ (v0 : Value), RepR w.heap.size (okS w0 ok0 (patch bl S1.bl ((args.toList.map S.ev ++ capSVs caps).flatMap SV.blocks)) β) ow w' (.own s E n cells) v0 → ∀ v : Value,
                  (∀ (β' : Bm) (ok' : Nat → Prop), β' S.nb = some v0 → (∀ b, ((okS w0 ok0 (patch bl S1.bl ((args.toList.map S.ev ++ capSVs caps).flatMap SV.blocks)) β b ∨ w.heap.size ≤ b) ∧ ow ≠ some b) → ok' b) →
                    SVRep ρf β' ok' w' (svOf (.one (.own S.nb) :: resOf r (S1.nv + 1))) v) → K' (a.put o.dst v) w' := by
                intro v0 ⟨⟨xs, hown, hxl, hxc⟩, hblk⟩ v hsv
                have hna : v0.oneCell' = true := by
                  obtain ⟨ad, cap, e, _⟩ := ownsR_slice hown
                  rw [e]; rfl
                have hnew : ∀ m, blockOf v0 = some m → w.heap.size ≤ m ∨ (none : Option Nat) = some m := fun m hm => by
                  rcases hown.2 with ⟨rfl, _⟩ | ⟨g, cap, cur, rfl, hbg, _⟩
                  · cases hm
                  · cases hm; exact .inl hbg
                have hgr : GrowsBy w w' none := ⟨⟨hbel.os, hbel.tape, hbel.output, hbel.size, fun k hk _ => hbel.block k hk⟩, hbel.drawn⟩
                have hokn : ∀ b, ((okS w0 ok0 (patch bl S1.bl ((args.toList.map S.ev ++ capSVs caps).flatMap SV.blocks)) β b ∨ w.heap.size ≤ b) ∧ ow ≠ some b) →
                    okS w0 ok0 (upd (dropO (patch bl S1.bl ((args.toList.map S.ev ++ capSVs caps).flatMap SV.blocks)) none) S.nb (some (.own (.var S1.nv) s E))) (upd β S.nb (some v0)) b := by
                  intro b hb
                  refine ⟨?_, fun k blk u hbk hm hu he => ?_⟩
                  · rcases hb.1 with h1 | h1
                    · exact h1.1
                    · exact .inr (HM.bel.own h1)
                  · by_cases hki : k = S.nb
                    · rw [hki] at hu
                      simp only [upd, if_true] at hu
                      cases hu
                      exact hb.2 (hblk b he)
                    · simp only [upd, if_neg hki] at hbk hu
                      have hbk' := (dropO_some hbk).1
                      rcases hb.1 with h1 | h1
                      · exact h1.2 k blk u hbk' hm hu he
                      · have := (HM.lt_of_mut hbk' hm hu he).2; omega
                obtain ⟨H2, _⟩ := HM.turn (k0 := none) (row := none) (blk := .own (.var S1.nv) s E) (v := v0) hβ hid2 hgr (fun r hr => by cases hr) hnew hna fun hmono2 _ => by
                  have hown2 : w'.ownsR w0.own E s v0 n xs := by
                    refine ⟨hown.1, ?_⟩
                    rcases hown.2 with h1 | ⟨g, cap, cur, h1, h2, h3⟩
                    · exact .inl h1
                    · exact .inr ⟨g, cap, cur, h1, HM.bel.own h2, h3⟩
                  exact ⟨v0, n, cells, by simp [upd], hx0, xs, hown2, hxl, fun j d hj => let ⟨u, hu, hr⟩ := hxc j d hj; ⟨u, hu, hr.mono hokn⟩⟩
                refine hk v _ w' H2 (upd_none β hβ).1 (upd_none β hβ).2 fun s' hs' => ?_
                cases hs'
                exact hsv _ _ (by simp [upd]) hokn
              have hρr : ∀ (i : Nat) (d : DV), (flatAll rest)[i]? = some d → ρf[S1.nv + 1 + i]? = some d := fun i d hd => hE _ _ (by
                rw [hnv, ← hl, List.getElem?_append_right (by omega), show ρ.length + 1 + i - ρ.length = i + 1 by omega]
                simpa using hd)
              have hrest := fit_noOwn hfit hrno
              match rest, hres, hfit, hρr, hrest with
              | [], hres, hfit, hρr, hrest =>
                refine main v hres v fun β' ok' hβ' hok' => ?_
                have : r = [] := List.eq_nil_of_length_eq_zero (by have := fitAll_len hfit; simpa using this)
                subst this
                exact hβ'
              | x1 :: rest, hres, hfit, hρr, hrest =>
                obtain ⟨vs, rfl, hsz, hc⟩ := hres
                obtain ⟨v0, hv0, hr0⟩ := hc 0 _ rfl
                refine main v0 hr0 _ fun β' ok' hβ' hok' => ?_
                have hrl := resOf_len r (S1.nv + 1)
                have hfl := fitAll_len hfit
                have hne : resOf r (S1.nv + 1) ≠ [] := fun he => by rw [he] at hrl; rw [hfl] at hrl; simp at hrl
                have hsv : svOf (.one (.own S.nb) :: resOf r (S1.nv + 1)) = .tup (.one (.own S.nb) :: resOf r (S1.nv + 1)) := by
                  cases hq : resOf r (S1.nv + 1) with
                  | nil => exact absurd hq hne
                  | cons y ys => rfl
                rw [hsv]
                refine ⟨vs, rfl, by simp [hsz, hrl, hfl], fun j x hj => ?_⟩
                cases j with
                | zero =>
                  simp only [List.getElem?_cons_zero, Option.some.injEq] at hj
                  subst hj
                  exact ⟨v0, hv0, hβ'⟩
                | succ j =>
                  simp only [List.getElem?_cons_succ] at hj
                  have hjl : j < (x1 :: rest).length := by rw [← hfl, ← hrl]; exact (List.getElem?_eq_some_iff.1 hj).1
                  obtain ⟨u, hu, hru⟩ := hc (j + 1) ((x1 :: rest)[j]) (by simp)
                  refine ⟨u, hu, resOf_rep (β := β') (ok := ok') (w := w') hfit hρr j x ((x1 :: rest)[j]) u hj (by simp) ?_⟩
                  exact (RepR.plain (hrest _ (List.getElem_mem hjl)) hru).mono hok'
            · cases h
          · simp only [Option.map_eq_some_iff] at h
            obtain ⟨ir', hK, rfl⟩ := h
            obtain ⟨res, hpc, hfit, hw'⟩ := hw
            refine ⟨ρ ++ flatAll res, some (svOf (resOf (shpsOf P fn) S1.nv)), { S1 with nv := S1.nv + countAll (shpsOf P fn) }, ir', Ext.app _ _, by simp [hl, hnv, flat_count hfit], hK, hw', by rw [eS]; exact ⟨rfl, rfl, rfl, rfl, rfl⟩,
              fun k hk => uS k fun hk2 => hk (by simp [hfb k hk2]), ⟨fun ht => by simp [turnsOp, ho] at ht, fun k _ h => nS k h⟩, ?_⟩
            intro ρf hE w0 ok0 fs stk β nt tm bl a w H hag hb hβ hbl K' Q' hk
            obtain ⟨HM, hgo⟩ := enter hpc ρf ((Ext.app _ _).trans hE) w0 ok0 fs stk β nt tm bl a w H hag hb K' Q'
            refine hgo fun v w' hres hbel => ?_
            have HG := HM.grow hbel
            refine hk v β w' (by show RM w0 ok0 fs stk ρf β nt tm (patch bl S1.bl (S.nb :: ks)) a w'; rw [hp2 bl hbl hb]; exact HG) (fun _ _ h => h) (fun _ _ => rfl) fun s hs => ?_
            cases hs
            show SVRep ρf β (okS w0 ok0 (patch bl S1.bl (S.nb :: ks)) β) w' _ v
            rw [hp2 bl hbl hb]
            refine svOf_rep hfit (fun i d hd => hE _ _ ?_) (?_ : RepRes0 _ w' res v)
            · rw [hnv, ← hl, List.getElem?_append_right (by omega)]
              rw [show ρ.length + i - ρ.length = i by omega]; exact hd
            · -- what the result is read by: blocks that were ok, or new ones
              have hok : ∀ b, (okS w0 ok0 (patch bl S1.bl ((args.toList.map S.ev ++ capSVs caps).flatMap SV.blocks)) β b ∨ w.heap.size ≤ b) → okS w0 ok0 (patch bl S1.bl ((args.toList.map S.ev ++ capSVs caps).flatMap SV.blocks)) β b := by
                intro b hb
                rcases hb with hb | hb
                · exact hb
                · exact ⟨.inr (HM.bel.own hb), fun k blk u hbk hm hu he => by have := (HM.lt_of_mut hbk hm hu he).2; omega⟩
              exact (hres.plain (fit_noOwn hfit shps_noOwn)).mono hok
        · cases h
      · cases h
    · cases h
  · cases h

end
end Go.Px
/- Px12: one operation, part ten: builtins, stores, makes, slices. -/
set_option linter.unusedSimpArgs false
set_option linter.unusedVariables false
namespace Go.Px
open Go.RowKit
section
variable {P : Program} {o : Oper} {ks : List Nat} {S : St} {K : Option SV → St → Option IR} {As : List (List DV → Prop)} {ρ : List DV} {Q : List AV → Prop} {ir : IR}

theorem args1 {α β : Type} {f : α → β} {l : Array α} {u : β} (h : l.toList.map f = [u]) : ∃ x, l = #[x] ∧ f x = u := by
  cases hl : l.toList with
  | nil => rw [hl] at h; cases h
  | cons x r =>
    rw [hl] at h
    cases r with
    | nil => simp only [List.map_cons, List.map_nil, List.cons.injEq, and_true] at h; exact ⟨x, by rw [← Array.toArray_toList (xs := l), hl], h⟩
    | cons y r => simp at h
theorem args2 {α β : Type} {f : α → β} {l : Array α} {u v : β} (h : l.toList.map f = [u, v]) : ∃ x y, l = #[x, y] ∧ f x = u ∧ f y = v := by
  cases hl : l.toList with
  | nil => rw [hl] at h; cases h
  | cons x r =>
    rw [hl] at h
    cases r with
    | nil => simp at h
    | cons y r =>
      cases r with
      | nil => simp only [List.map_cons, List.map_nil, List.cons.injEq, and_true] at h; exact ⟨x, y, by rw [← Array.toArray_toList (xs := l), hl], h.1, h.2⟩
      | cons z r => simp at h

theorem run_builtin {b : Builtin} {args : Array Operand} {argTypes : Array TypeId} {a : Act} {w w' : World} {v : Value} (ho : o.op = .call { callee := .builtin b, args := args, argTypes := argTypes })
    (h : (builtin b argTypes o.type (args.map fun | .const _ => true | _ => false) (args.map a.eval)).run P w = .ok (.value v) w') : (execOp a.eval o).run P w = .ok (.value v) w' := by
  simp only [execOp, ho, resolve, Sem.run_bind, Sem.run_pure, Result.andThen_ok, invoke]
  exact h

/-- What a slice's value says of its length. -/
theorem slice_len {w0 : W0} {ok0 : Nat → Prop} {fs : List (Array Value)} {stk : List Frm} {ρ : List DV} {β : Bm} {nt : Nat} {tm : Nat → Option SV} {bl : Nat → Option Blk} {a : Act} {w : World}
    (H : RM w0 ok0 fs stk ρ β nt tm bl a w) {k : Nat} {y : A} {v : Value} (hk : (∃ s E, bl k = some (.own y s E)) ∨ bl k = some (.fro y)) (hv : β k = some v) : ∃ n cells ad cap, y.rd ρ = some (.list n cells) ∧ v = .slice ad n cap := by
  rcases hk with ⟨s, E, hk⟩ | hk
  · obtain ⟨v', n, cells, h1, h2, xs, ho, _⟩ := H.hbl k _ hk
    rw [hv] at h1; cases h1
    obtain ⟨ad, cap, e, _⟩ := ownsR_slice ho
    exact ⟨n, cells, ad, cap, h2, e⟩
  · obtain ⟨v', n, cells, h1, h2, h3, _⟩ := H.hbl k _ hk
    rw [hv] at h1; cases h1
    obtain ⟨ad, cap, e, _⟩ := reads_list h3
    exact ⟨n, cells, ad, cap, h2, e⟩

theorem op_len {args : Array Operand} {argTypes : Array TypeId} (ho : o.op = .call { callee := .builtin .len, args := args, argTypes := argTypes }) (hks : ∀ k ∈ namedOf S o.op, k ∈ ks)
    (h : symBuiltin P .len argTypes (args.toList.map S.ev) S.nb S K = some ir) (hw : IRwp P As ρ ir Q) (hl : ρ.length = S.nv) (hid : S.bl S.nb = none) : OpOut P o S.nb S ks K As ρ Q := by
  unfold symBuiltin at h
  split at h
  · rename_i c _ he
    obtain ⟨x, hargs, hx⟩ := args1 he
    subst hargs
    have hm : x ∈ o.op.operands := by simp [ho, Op.operands, Call.operands]
    split at h
    · rename_i e hu
      simp only [Option.bind_eq_some_iff] at hu
      obtain ⟨t, ht, hu⟩ := hu
      have run : ∀ (a : Act) (w : World) (ad : Option Addr) (n cap : Nat), a.eval x = .slice ad n cap → (execOp a.eval o).run P w = .ok (.value (.int .i64 n)) w := by
        intro a w ad n cap hv
        refine run_builtin ho ?_
        simp [builtin, Builtin.len_, ht, hv, run_underlying hu, goInt]
      have fin : ∀ y : A, prim .len [y] S (fun a S => K (some (.s (.one (.at a)))) S) = some ir →
          (∀ (ρf : List DV) (w0 : W0) (ok0 : Nat → Prop) (fs : List (Array Value)) (stk : List Frm) (β : Bm) (nt : Nat) (tm : Nat → Option SV) (bl : Nat → Option Blk) (a : Act) (w : World),
            RM w0 ok0 fs stk ρf β nt tm bl a w → (∀ x ∈ o.op.operands, evT tm x = S.ev x) → (∀ k ∈ ks, bl k = S.bl k) → (∃ n cells ad cap, y.rd ρf = some (.list n cells) ∧ a.eval x = .slice ad n cap) ∨ ∀ n cells, y.rd ρf ≠ some (.list n cells)) → OpOut P o S.nb S ks K As ρ Q := by
        intro y hp hy
        obtain ⟨zz, d, n, ρ', ir', hlt, hd, hK, hw', hE', hl', hz⟩ := prim_sound hp hw hl
        refine OpOut.plain hE' hl' hK hw' hid fun ρf hE w0 ok0 fs stk β nt tm bl a w H hag hb => ?_
        simp only [List.all_cons, List.all_nil, Bool.and_true] at hlt
        obtain ⟨dy, hdy⟩ := rd_of_lt hlt hl
        simp only [List.map_cons, List.map_nil, A.ev_of_rd hdy] at hd
        have hdy' := A.rd_ext (hE'.trans hE) hdy
        cases dy <;> simp only [Prim.den] at hd <;> try (cases hd; done)
        rcases hy ρf w0 ok0 fs stk β nt tm bl a w H hag hb with ⟨n', cells', ad, cap, h1, h2⟩ | h1
        · rw [hdy'] at h1; cases h1
          cases hd
          exact ⟨_, run a w ad _ cap h2, fun s hs => by cases hs; exact ⟨_, A.rd_ext hE hz, .int _ _⟩⟩
        · exact absurd hdy' (h1 _ _)
      split at h
      · rename_i k
        have own : ∀ y : A, ((∃ s E, S.bl k = some (.own y s E)) ∨ S.bl k = some (.fro y)) → prim .len [y] S (fun a S => K (some (.s (.one (.at a)))) S) = some ir → OpOut P o S.nb S ks K As ρ Q := by
          intro y hk hp
          refine fin y hp fun ρf w0 ok0 fs stk β nt tm bl a w H hag hb => ?_
          have hbk : bl k = S.bl k := hb k (hks k (named_mem hm (by simp [hx, SV.blocks, S1.cells, C.blocks])))
          have hβ := H.one (x := x) (by rw [hag x hm]; exact hx)
          exact .inl (slice_len H (by rw [hbk]; exact hk) hβ)
        split at h
        · rename_i y s E hk; exact own y (.inl ⟨s, E, hk⟩) h
        · rename_i y hk; exact own y (.inr hk) h
        · cases h
      · rename_i k lo nn s
        refine OpOut.plain (ρ' := ρ) (n := S.nv) (Ext.refl _) hl h hw hid fun ρf hE w0 ok0 fs stk β nt tm bl a w H hag hb => ?_
        obtain ⟨b, nk, capk, kI, lv, kJ, nv, ad, cap, g1, g2, g3, g4, g5, g6, g7, g8, rfl⟩ := H.one (x := x) (by rw [hag x hm]; exact hx)
        refine ⟨_, run a w ad nv.toNat cap g7, fun s hs => ?_⟩
        cases hs
        have : (nv.toNat : Int) = nv := Int.toNat_of_nonneg g5
        exact ⟨_, g3, by rw [this]; exact .int _ _⟩
      · rename_i hno hsub
        split at h
        · rename_i y S1 hA
          cases c <;> simp only [St.toA] at hA
          case «at» z =>
            cases hA
            refine fin _ h fun ρf w0 ok0 fs stk β nt tm bl a w H hag hb => ?_
            obtain ⟨d, hd, hr⟩ := H.one (x := x) (by rw [hag x hm]; exact hx)
            cases d with
            | list n cells => obtain ⟨ad, cap, e, _⟩ := reads_list hr; exact .inl ⟨n, cells, ad, cap, hd, e⟩
            | _ => exact .inr fun n cells e => by rw [hd] at e; cases e
          case nils =>
            cases hA
            refine fin _ h fun ρf w0 ok0 fs stk β nt tm bl a w H hag hb => ?_
            have hv := H.one (x := x) (by rw [hag x hm]; exact hx)
            exact .inl ⟨0, [], none, 0, rfl, hv⟩
          case ful z =>
            cases hA
            refine fin _ h fun ρf w0 ok0 fs stk β nt tm bl a w H hag hb => ?_
            obtain ⟨d, hd, hr, _⟩ := H.one (x := x) (by rw [hag x hm]; exact hx)
            cases d with
            | list n cells => obtain ⟨ad, cap, e, _⟩ := reads_list hr; exact .inl ⟨n, cells, ad, cap, hd, e⟩
            | _ => exact .inr fun n cells e => by rw [hd] at e; cases e
          case own k => exact absurd rfl (hno k)
          all_goals cases hA
        · cases h
    · cases h
  all_goals first | (cases h; done) | contradiction

/-- A new row, or a row taken over, told as an own row. -/
theorem RM.own_turn {w0 : W0} {ok0 : Nat → Prop} {fs : List (Array Value)} {stk : List Frm} {ρ : List DV} {β : Bm} {nt : Nat} {tm : Nat → Option SV} {bl : Nat → Option Blk} {a : Act} {w : World}
    (H : RM w0 ok0 fs stk ρ β nt tm bl a w) {k0 : Option Nat} {id : Nat} {v v' : Value} {w' : World} (hβ : β id = none) (hid : bl id = none)
    {x : A} {n s : Nat} {E : TypeId} {cells : List DV} {xs : List Value} (hx : x.rd ρ = some (.list n cells)) (hg : GrowsBy w w' (blockOf v)) (hv : ∀ b, blockOf v' = some b → w.heap.size ≤ b ∨ blockOf v = some b)
    (hold : (blockOf v = none) ∨ ∃ k b, k0 = some k ∧ bl k = some b ∧ b.mut = true ∧ β k = some v)
    (hown : w'.ownsR w0.own E s v' n xs) (hl : xs.length = cells.length) (hc : ∀ (j : Nat) (d : DV), cells[j]? = some d → ∃ u, xs[j]? = some u ∧ Reads (okS w0 ok0 bl β) w d u) :
    RM w0 ok0 fs stk ρ (upd β id (some v')) nt tm (upd (dropO bl k0) id (some (.own x s E))) a w' := by
  obtain ⟨ad, cap, hve, _⟩ := ownsR_slice hown
  refine (H.turn (k0 := k0) (row := blockOf v) hβ hid hg (fun r hr => ?_) hv (by rw [hve]; rfl) fun hmono _ => ?_).1
  · rcases hold with h0 | ⟨k, b, h1, h2, h3, h4⟩
    · rw [h0] at hr; cases hr
    · exact ⟨k, b, v, h1, h2, h3, h4, hr⟩
  · exact ⟨v', n, cells, by simp [upd], hx, xs, hown, hl, fun j d hj => let ⟨u, hu, hr⟩ := hc j d hj; ⟨u, hu, hr.imp hmono⟩⟩

/-- The cells that a list reads by, as values. -/
theorem reads_cells {ok : Nat → Prop} {w : World} {n s : Nat} {cells : List DV} {v : Value} (hr : Reads ok w (.list n cells) v) (hlen : cells.length = n * s) (hs : 0 < s) :
    (n = 0 ∧ ∃ ad cap, v = .slice ad 0 cap) ∨ ∃ (ad : Addr) (cap : Nat) (news : List Value), v = .slice (some ad) n cap ∧ news.length = n * s ∧ (∀ (j : Nat) (u : Value), news[j]? = some u → w.cell? (ad.add j) = some u) ∧ (∀ u ∈ news, u.oneCell' = true) ∧
      ∀ (j : Nat) (d : DV), cells[j]? = some d → ∃ u, news[j]? = some u ∧ Reads ok w d u := by
  obtain ⟨a, cap, hv, _, f, hmem, hrd⟩ := reads_list hr
  by_cases h0 : cells = []
  · subst h0
    have : n = 0 := by
      rcases Nat.eq_zero_or_pos n with h | h
      · exact h
      · have := Nat.mul_pos h hs
        simp at hlen; omega
    subst this
    exact .inl ⟨rfl, a, cap, hv⟩
  · obtain ⟨ad, had, _, hc⟩ := hmem h0
    subst had
    refine .inr ⟨ad, cap, (List.range cells.length).map f, hv, by simp [hlen], fun j u hj => ?_, fun u hu => ?_, fun j d hj => ?_⟩
    · rw [List.getElem?_map] at hj
      by_cases hjl : j < cells.length
      · rw [List.getElem?_range hjl] at hj
        simp only [Option.map_some, Option.some.injEq] at hj
        rw [← hj]; exact hc j hjl
      · rw [List.getElem?_eq_none (by simpa using hjl)] at hj; cases hj
    · obtain ⟨j, hj, rfl⟩ := List.mem_map.1 hu
      have hjl : j < cells.length := by simpa using hj
      exact oneCell'_of_reads (hrd j _ (List.getElem?_eq_getElem hjl))
    · have hjl := (List.getElem?_eq_some_iff.1 hj).1
      exact ⟨f j, by simp [hjl], hrd j d hj⟩

theorem append_types {t ty : TypeId} {argTypes : Array TypeId} {args : Array Value} (h0 : argTypes[0]? = some t) (h1 : argTypes[1]? = some t) : Builtin.append_ argTypes ty args = Builtin.append_ #[t, t] ty args := by
  unfold Builtin.append_
  simp only [h0, h1]
  rfl

theorem reads_row {w0 : W0} {ok0 : Nat → Prop} {fs : List (Array Value)} {stk : List Frm} {ρ : List DV} {β : Bm} {nt : Nat} {tm : Nat → Option SV} {bl : Nat → Option Blk} {a : Act} {w w' : World}
    (H : RM w0 ok0 fs stk ρ β nt tm bl a w) (hb : Grows w w') {n cap : Nat} {E : TypeId} {cells : List DV} {arr : Array Value} {fz : Nat × Nat} (hh : w'.heap[w.heap.size]? = some (.cells arr E fz)) (hn : n ≤ cap)
    (hc : ∀ (j : Nat) (d : DV), cells[j]? = some d → ∃ u, arr[j]? = some u ∧ Reads (okS w0 ok0 bl β) w d u) : Reads (okS w0 ok0 bl β) w' (.list n cells) (.slice (some ⟨w.heap.size, 0, none⟩) n cap) := by
  refine .list n cells _ cap (fun j => arr.getD j undef) hn (fun _ => ⟨_, rfl, okS_new H, fun j hj => ?_⟩) (fun j d hj => ?_)
  · obtain ⟨u, hu, _⟩ := hc j (cells[j]) (by simp)
    rw [Addr_plain]
    simp [World.cell?, hh, Array.getD_eq_getD_getElem?, hu]
  · obtain ⟨u, hu, hr⟩ := hc j d hj
    have : arr.getD j undef = u := by simp [Array.getD_eq_getD_getElem?, hu]
    simp only [this]
    exact hr.imp fun b o hb' ho => ⟨hb', by rw [hb.block b (Array.getElem?_eq_some_iff.1 ho).1]; exact ho⟩

theorem app_get {xs ys : List DV} {olds news : List Value} {R : DV → Value → Prop} (hl : olds.length = xs.length) (h1 : ∀ (j : Nat) (d : DV), xs[j]? = some d → ∃ u, olds[j]? = some u ∧ R d u) (h2 : ∀ (j : Nat) (d : DV), ys[j]? = some d → ∃ u, news[j]? = some u ∧ R d u) :
    ∀ (j : Nat) (d : DV), (xs ++ ys)[j]? = some d → ∃ u, (olds ++ news)[j]? = some u ∧ R d u := by
  intro j d hj
  by_cases hx : j < xs.length
  · rw [List.getElem?_append_left hx] at hj
    rw [List.getElem?_append_left (by omega)]
    exact h1 j d hj
  · rw [List.getElem?_append_right (by omega)] at hj
    rw [List.getElem?_append_right (by omega), hl]
    exact h2 _ d hj

/-- Appending to a slice without room: what comes is read as both, one behind the other. -/
theorem ful_append {w0 : W0} {ok0 : Nat → Prop} {fs : List (Array Value)} {stk : List Frm} {ρ : List DV} {β : Bm} {nt : Nat} {tm : Nat → Option SV} {bl : Nat → Option Blk} {a : Act} {w : World}
    (H : RM w0 ok0 fs stk ρ β nt tm bl a w) {t ty e : TypeId} {ti : TypeInfo} {z : Value} (hu : P.underlying t = some (.slice e)) (hti : P.info? e = some ti) (hz : ti.zero = some z) (hs0 : 0 < ti.size) (hb0 : 0 < ti.bytes)
    {n m : Nat} {xs ys : List DV} {v1 v2 : Value} (r1 : Reads (okS w0 ok0 bl β) w (.list n xs) v1) (hf : ∃ ad k, v1 = .slice ad k k) (r2 : Reads (okS w0 ok0 bl β) w (.list m ys) v2)
    (hx : xs.length = n * ti.size) (hy : ys.length = m * ti.size) (hbd : (n + m) * ti.bytes ≤ 2 ^ 46) :
    ∃ v w', (Builtin.append_ #[t, t] ty #[v1, v2]).run P w = .ok v w' ∧ Grows w w' ∧ Reads (okS w0 ok0 bl β) w' (.list (n + m) (xs ++ ys)) v := by
  obtain ⟨ad1, k1, hv1⟩ := hf
  have hnm : n + m ≤ (n + m) * ti.bytes := Nat.le_mul_of_pos_right _ hb0
  rcases reads_cells r2 hy hs0 with ⟨hm0, ad2, cap2, hv2⟩ | ⟨ad2, cap2, news, hv2, hl2, hc2, h12, hr2⟩
  · subst hm0
    have hy0 : ys = [] := List.eq_nil_of_length_eq_zero (by rw [hy]; simp)
    subst hy0
    obtain ⟨a', cap', hv', hcap, _⟩ := reads_list r1
    rw [hv'] at hv1; cases hv1
    refine ⟨v1, w, ?_, ⟨Below.refl _ _, Nat.le_refl _⟩, by simpa using r1⟩
    rw [hv2, hv']
    exact run_append_zero hu hti _ _ n n cap2 (Nat.le_refl _)
  · by_cases hm0 : m = 0
    · subst hm0
      have hy0 : ys = [] := List.eq_nil_of_length_eq_zero (by rw [hy]; simp)
      subst hy0
      obtain ⟨a', cap', hv', hcap, _⟩ := reads_list r1
      rw [hv'] at hv1; cases hv1
      refine ⟨v1, w, ?_, ⟨Below.refl _ _, Nat.le_refl _⟩, by simpa using r1⟩
      rw [hv2, hv']
      exact run_append_zero hu hti _ _ n n cap2 (Nat.le_refl _)
    · -- a new row
      have grown : ∀ (olds : List Value) (old : Nat), olds.length = xs.length → (∀ (j : Nat) (d : DV), xs[j]? = some d → ∃ u, olds[j]? = some u ∧ Reads (okS w0 ok0 bl β) w d u) →
          let cap := grownCap w (n + m) old e
          Grows w (w.drew.alloc (.cells (olds.toArray ++ news.toArray ++ Builtin.zeroCells z.cells (cap - (n + m))) e)) ∧
          Reads (okS w0 ok0 bl β) (w.drew.alloc (.cells (olds.toArray ++ news.toArray ++ Builtin.zeroCells z.cells (cap - (n + m))) e)) (.list (n + m) (xs ++ ys)) (.slice (some ⟨w.heap.size, 0, none⟩) (n + m) cap) := by
        intro olds old hlo hro cap
        have hbel : Grows w (w.drew.alloc (.cells (olds.toArray ++ news.toArray ++ Builtin.zeroCells z.cells (cap - (n + m))) e)) := ⟨((Below.refl _ _).drew).alloc (by simp) _, Nat.le_succ _⟩
        refine ⟨hbel, reads_row (E := e) (fz := (0, 0)) H hbel (heap_alloc_new w.drew _) (grownCap_ge w (n + m) old e) fun j d hj => ?_⟩
        obtain ⟨u, hu', hr⟩ := app_get (R := fun d u => Reads (okS w0 ok0 bl β) w d u) hlo hro hr2 j d hj
        refine ⟨u, ?_, hr⟩
        have hjl := (List.getElem?_eq_some_iff.1 hu').1
        rw [Array.getElem?_append_left (by simpa using hjl)]
        simpa using hu'
      rcases reads_cells r1 hx hs0 with ⟨hn0, ad1', cap1, hv1'⟩ | ⟨ad1', cap1, olds, hv1', hl1, hc1, h11, hr1⟩
      · subst hn0
        have hx0 : xs = [] := List.eq_nil_of_length_eq_zero (by rw [hx]; simp)
        subst hx0
        rw [hv1'] at hv1; cases hv1
        cases ad1 with
        | none =>
          have hr := run_append_nil (P := P) w t ty e ti z hu hti hz ad2 m cap2 news hl2 hc2 (by omega) (by simp only [Nat.zero_add] at hnm hbd; omega) (by simp only [Nat.zero_add] at hbd; omega)
          obtain ⟨g1, g2⟩ := grown [] 0 rfl (fun j d hj => by simp at hj)
          simp only [Nat.zero_add, List.nil_append, Array.empty_append] at g1 g2 ⊢
          exact ⟨_, _, by rw [hv1', hv2]; exact hr, g1, g2⟩
        | some b1 =>
          have hr := run_append_grow (P := P) w t ty e ti z hu hti hz b1 0 0 [] (by simp) (fun j v hj => by simp at hj) ad2 m cap2 news hl2 hc2 (by omega) (by omega) (growslice_fits (by omega) (by omega))
          obtain ⟨g1, g2⟩ := grown [] 0 rfl (fun j d hj => by simp at hj)
          exact ⟨_, _, by rw [hv1', hv2]; exact hr, g1, g2⟩
      · rw [hv1'] at hv1; cases hv1
        have hr := run_append_grow (P := P) w t ty e ti z hu hti hz ad1' n n olds hl1 hc1 ad2 m cap2 news hl2 hc2 (by omega) (by omega) (growslice_fits (by omega) (by omega))
        obtain ⟨g1, g2⟩ := grown olds n (by rw [hl1, hx]) hr1
        exact ⟨_, _, by rw [hv1', hv2]; exact hr, g1, g2⟩

theorem patch_drop {bl b0 b1 : Nat → Option Blk} {fb : List Nat} (old : Option Nat) : patch bl (dropO b1 old) (fb ++ old.toList) = dropO (patch bl b1 fb) old := by
  funext k
  cases old with
  | none => simp [dropO, patch]
  | some j =>
    simp only [dropO, patch, upd, Option.toList_some, List.mem_append, List.mem_singleton]
    by_cases hk : k = j
    · simp [hk]
    · simp [hk]

theorem op_append {args : Array Operand} {argTypes : Array TypeId} (ho : o.op = .call { callee := .builtin .append, args := args, argTypes := argTypes }) (hks : ∀ k ∈ namedOf S o.op, k ∈ ks)
    (h : symBuiltin P .append argTypes (args.toList.map S.ev) S.nb S K = some ir) (hw : IRwp P As ρ ir Q) (hl : ρ.length = S.nv) (hid : S.bl S.nb = none) : OpOut P o S.nb S ks K As ρ Q := by
  unfold symBuiltin at h
  split at h
  all_goals first | contradiction | skip
  · rename_i c y _ he
    obtain ⟨x1, x2, hargs, hx1, hx2⟩ := args2 he
    subst hargs
    have hm1 : x1 ∈ o.op.operands := by simp [ho, Op.operands, Call.operands]
    have hm2 : x2 ∈ o.op.operands := by simp [ho, Op.operands, Call.operands]
    split at h
    · rename_i t t' ht ht'
      split at h
      · rename_i e e' hu hu'
        split at h
        · rename_i ti zs hti hz
          obtain ⟨ti', z, h1, h2, h3⟩ := zerosOf_some hz
          rw [hti] at h1; cases h1
          split at h
          · cases h
          · rename_i hcond
            simp only [not_or, Decidable.not_not] at hcond
            obtain ⟨htt, hs0, hb0, hzl⟩ := hcond
            subst htt
            have run : ∀ (a : Act) (w w' : World) (v1 v2 v : Value), a.eval x1 = v1 → a.eval x2 = v2 → (Builtin.append_ #[t, t] o.type #[v1, v2]).run P w = .ok v w' → (execOp a.eval o).run P w = .ok (.value v) w' := by
              intro a w w' v1 v2 v e1 e2 hr
              refine run_builtin ho ?_
              simp only [builtin, List.map_toArray, List.map_cons, List.map_nil, e1, e2, append_types ht ht', Sem.run_bind, hr, Result.andThen_ok, Sem.run_pure]
            split at h
            · rename_i ya S1 hy
              obtain ⟨eS, uS, nS⟩ := toA_facts hy
              have hnv : S1.nv = S.nv := by rw [eS]
              have hfb : ∀ k ∈ y.blocks, k ∈ ks := fun k hk => hks k (named_mem hm2 (by simp [hx2, SV.blocks, Px.S1.cells, hk]))
              -- what is appended, once it is frozen
              have frz : ∀ {w0 : W0} {ok0 : Nat → Prop} {fs : List (Array Value)} {stk : List Frm} {ρf : List DV} {β : Bm} {nt : Nat} {tm : Nat → Option SV} {bl : Nat → Option Blk} {a : Act} {w : World},
                  RM w0 ok0 fs stk ρf β nt tm bl a w → (∀ x ∈ o.op.operands, evT tm x = S.ev x) → (∀ k ∈ ks, bl k = S.bl k) →
                  RM w0 ok0 fs stk ρf β nt tm (patch bl S1.bl y.blocks) a w ∧ (∀ b, okS w0 ok0 bl β b → okS w0 ok0 (patch bl S1.bl y.blocks) β b) ∧ ∃ d, ya.rd ρf = some d ∧ Reads (okS w0 ok0 (patch bl S1.bl y.blocks) β) w d (a.eval x2) := by
                intro w0 ok0 fs stk ρf β nt tm bl a w H hag hb
                exact (toA_sound (bl := bl) hy).2.2 H (fun k hk => hb k (hfb k hk)) _ (H.one (x := x2) (by rw [hag x2 hm2]; exact hx2))
              split at h
              · -- without room
                rename_i xa
                obtain ⟨zz, d, n, ρ', ir', hlt, hd, hK, hw', hE', hl', hz'⟩ := prim_sound h hw (by rw [hnv]; exact hl)
                refine ⟨ρ', _, { S1 with nv := n }, ir', hE', hl', hK, hw', by rw [eS]; exact ⟨rfl, rfl, rfl, rfl, rfl⟩, fun k hk => uS k fun hk2 => hk (by simp [hfb k hk2]), ⟨fun ht => by simp [turnsOp, ho] at ht, fun k _ h => nS k h⟩, ?_⟩
                intro ρf hE w0 ok0 fs stk β nt tm bl a w H hag hb hβ hbl K' Q' hk
                obtain ⟨HM, hmono, dy, hdy, hry⟩ := frz H hag hb
                obtain ⟨dx, hdx, hrx, hful⟩ := H.one (x := x1) (by rw [hag x1 hm1]; exact hx1)
                have hp2 : patch bl S1.bl (S.nb :: ks) = patch bl S1.bl y.blocks := patch_wide (b0 := S.bl) (fun k hk => by simp [hfb k hk]) (fun k hk => by
                  rcases List.mem_cons.1 hk with rfl | hk
                  · rw [hbl, hid]
                  · exact hb k hk) uS
                simp only [List.all_cons, List.all_nil, Bool.and_true, Bool.and_eq_true, hnv] at hlt
                simp only [List.map_cons, List.map_nil, ev_of_ext hlt.1 hl (hE'.trans hE) hdx, ev_of_ext hlt.2 hl (hE'.trans hE) hdy] at hd
                cases dx <;> cases dy <;> simp only [Prim.den] at hd <;> try (cases hd; done)
                split at hd
                · rename_i hbd
                  cases hd
                  obtain ⟨v, w', hr, hbel, hrd⟩ := ful_append (P := P) (ty := o.type) HM hu hti h2 (by omega) (by omega) (hrx.mono hmono) hful hry hbd.1 hbd.2.1 hbd.2.2
                  refine wp_value (run a w w' _ _ v rfl rfl hr) (hk v β w' (by show RM w0 ok0 fs stk ρf β nt tm (patch bl S1.bl (S.nb :: ks)) a w'; rw [hp2]; exact HM.grow hbel) (fun _ _ h => h) (fun _ _ => rfl) fun s hs => ?_)
                  cases hs
                  refine ⟨_, A.rd_ext hE hz', ?_⟩
                  show Reads (okS w0 ok0 (patch bl S1.bl (S.nb :: ks)) β) w' _ v
                  rw [hp2]; exact hrd
                · cases hd
              · split at h
                · rename_i xa old hbase
                  obtain ⟨d, ir', hlt, hd, hK, hw', hE', hl', hz'⟩ := emit_sound h hw (by rw [hnv]; exact hl)
                  have hold : ∀ k, old = some k → c = .own k ∧ S1.bl k = some (.own xa ti.size e) := by
                    intro k hk
                    subst hk
                    cases c <;> simp only [St.base] at hbase
                    case nils => cases hbase
                    case own j =>
                      split at hbase
                      · rename_i x' s' E' hj
                        split at hbase
                        · rename_i hse
                          cases hbase
                          rw [hse.1, hse.2] at hj
                          exact ⟨rfl, hj⟩
                        · cases hbase
                      · cases hbase
                    all_goals cases hbase
                  have hnil : old = none → c = .nils ∧ xa = .nil := by
                    intro hk
                    subst hk
                    cases c <;> simp only [St.base] at hbase
                    case nils => cases hbase; exact ⟨rfl, rfl⟩
                    case own j =>
                      split at hbase
                      · split at hbase <;> cases hbase
                      · cases hbase
                    all_goals cases hbase
                  have hoks : ∀ k ∈ old.toList, k ∈ ks := fun k hk => by
                    have hk' : old = some k := by
                      cases old with
                      | none => simp at hk
                      | some j => simp only [Option.toList_some, List.mem_singleton] at hk; rw [hk]
                    obtain ⟨hc, _⟩ := hold k hk'
                    subst hc
                    exact hks k (named_mem hm1 (by simp [hx1, SV.blocks, Px.S1.cells, C.blocks]))
                  have hS' : ∀ S2 : St, S2.bl = S1.bl → ((S2.dropM old).setB S.nb (.own (.var S1.nv) ti.size e)).bl = upd (dropO S1.bl old) S.nb (some (.own (.var S1.nv) ti.size e)) := by
                    intro S2 h2
                    cases old <;> simp [St.setB, St.dropM, St.dropB, dropO, h2]
                  have hSs : ∀ S2 : St, Same S S2 → Same S ((S2.dropM old).setB S.nb (.own (.var S1.nv) ti.size e)) := by
                    intro S2 h2
                    cases old <;> exact h2
                  have hnv2 : ∀ S2 : St, ((S2.dropM old).setB S.nb (.own (.var S1.nv) ti.size e)).nv = S2.nv := by
                    intro S2; cases old <;> rfl
                  have hdrop : ∀ k, k ∉ y.blocks ++ old.toList → dropO S1.bl old k = S.bl k := by
                    intro k hk
                    simp only [List.mem_append, not_or] at hk
                    cases old with
                    | none => exact uS k hk.1
                    | some j =>
                      have : k ≠ j := fun he => hk.2 (by simp [he])
                      simp only [dropO, upd, this, if_false]
                      exact uS k hk.1
                  refine ⟨_, _, _, ir', hE', by rw [hnv2]; exact hl', hK, hw', hSs _ (by rw [eS]; exact ⟨rfl, rfl, rfl, rfl, rfl⟩), fun k hk => ?_, ⟨fun ht => by simp [turnsOp, ho] at ht, fun k hk hn0 => by
                    rw [hS' { S1 with nv := S1.nv + 1 } rfl]
                    simp only [upd, hk, if_false]
                    cases old with
                    | none => exact nS k hn0
                    | some j => simp only [dropO, upd]; split <;> first | rfl | exact nS k hn0⟩, ?_⟩
                  · rw [hS' { S1 with nv := S1.nv + 1 } rfl]
                    have hne : k ≠ S.nb := fun he => hk (by simp [he])
                    simp only [upd, hne, if_false]
                    refine hdrop k fun hk2 => hk ?_
                    rcases List.mem_append.1 hk2 with hk2 | hk2
                    · simp [hfb k hk2]
                    · simp [hoks k hk2]
                  intro ρf hE w0 ok0 fs stk β nt tm bl a w H hag hb hβ hbl K' Q' hk
                  obtain ⟨HM, hmono, dy, hdy, hry⟩ := frz H hag hb
                  rw [hS' { S1 with nv := S1.nv + 1 } rfl] at hk
                  have hp2 : patch bl (upd (dropO S1.bl old) S.nb (some (.own (.var S1.nv) ti.size e))) (S.nb :: ks) = upd (dropO (patch bl S1.bl y.blocks) old) S.nb (some (.own (.var S1.nv) ti.size e)) := by
                    rw [patch_upd2 (b0 := S.bl) (fb := y.blocks ++ old.toList) (fun k hk2 => by
                      rcases List.mem_append.1 hk2 with hk2 | hk2
                      · exact hfb k hk2
                      · exact hoks k hk2) hb hdrop, patch_drop (b0 := S.bl)]
                  rw [hp2] at hk
                  have hid2 : patch bl S1.bl y.blocks S.nb = none := by
                    unfold patch; split
                    · exact nS _ hid
                    · exact hbl
                  simp only [List.all_cons, List.all_nil, Bool.and_true, Bool.and_eq_true, hnv] at hlt
                  have e2 := ev_of_ext hlt.2 hl (hE'.trans hE) hdy
                  -- the row that is appended to
                  have hrow : ∃ (n : Nat) (xs : List Value) (cs : List DV), xa.rd ρf = some (.list n cs) ∧ w.ownsR w0.own e ti.size (a.eval x1) n xs ∧ xs.length = cs.length ∧
                      (∀ (j : Nat) (d : DV), cs[j]? = some d → ∃ u, xs[j]? = some u ∧ Reads (okS w0 ok0 (patch bl S1.bl y.blocks) β) w d u) ∧
                      ((blockOf (a.eval x1) = none) ∨ ∃ k b, old = some k ∧ patch bl S1.bl y.blocks k = some b ∧ b.mut = true ∧ β k = some (a.eval x1)) := by
                    cases hod : old with
                    | none =>
                      obtain ⟨hc, hxa⟩ := hnil hod
                      subst hc hxa
                      have hv : a.eval x1 = .slice none 0 0 := H.one (x := x1) (c := .nils) (by rw [hag x1 hm1]; exact hx1)
                      rw [hv]
                      exact ⟨0, [], [], rfl, World.ownsR_nil w _ _ _, rfl, fun j d hj => by simp at hj, .inl rfl⟩
                    | some k =>
                      obtain ⟨hc, hk1⟩ := hold k hod
                      subst hc
                      have hv : β k = some (a.eval x1) := H.one (x := x1) (c := .own k) (by rw [hag x1 hm1]; exact hx1)
                      have hpk : patch bl S1.bl y.blocks k = some (.own xa ti.size e) := by
                        unfold patch; split
                        · exact hk1
                        · rename_i hn
                          rw [hb k (hoks k (by simp [hod])), ← uS k hn]; exact hk1
                      obtain ⟨v', n, cs, g1, g2, xs, g3, g4, g5⟩ := HM.hbl k _ hpk
                      rw [hv] at g1; cases g1
                      exact ⟨n, xs, cs, g2, g3, g4, g5, .inr ⟨k, _, rfl, hpk, rfl, hv⟩⟩
                  obtain ⟨n, xs, cs, hxr, hown, hlx, hcx, hold2⟩ := hrow
                  have e1 := ev_of_ext hlt.1 hl (hE'.trans hE) hxr
                  simp only [List.map_cons, List.map_nil, e1, e2] at hd
                  cases dy <;> simp only [Prim.den] at hd <;> try (cases hd; done)
                  rename_i m ys
                  split at hd
                  · rename_i hbd
                    cases hd
                    have hzd := A.rd_ext hE hz'
                    have fin : ∀ (v : Value) (w' : World) (news : List Value), (Builtin.append_ #[t, t] o.type #[a.eval x1, a.eval x2]).run P w = .ok v w' → w'.ownsR w0.own e ti.size v (n + m) (xs ++ news) → GrowsBy w w' (blockOf (a.eval x1)) →
                        (∀ b, blockOf v = some b → w.heap.size ≤ b ∨ blockOf (a.eval x1) = some b) → news.length = ys.length → (∀ (j : Nat) (d : DV), ys[j]? = some d → ∃ u, news[j]? = some u ∧ Reads (okS w0 ok0 (patch bl S1.bl y.blocks) β) w d u) → o.wp P a w K' Q' := by
                      intro v w' news hr ho2 hg hv hln hcn
                      refine wp_value (run a w w' _ _ v rfl rfl hr) (hk v _ w' (HM.own_turn (v := a.eval x1) hβ hid2 hzd hg hv hold2 ho2 (by simp [hlx, hln]) (app_get hlx hcx hcn)) (upd_none β hβ).1 (upd_none β hβ).2 fun s hs => ?_)
                      cases hs
                      simp [SVRep, S1Rep, CRep, upd]
                    rcases reads_cells hry hbd.2.1 (by omega) with ⟨hm0, ad2, cap2, hv2⟩ | ⟨ad2, cap2, news, hv2, hl2, hc2, h12, hr2⟩
                    · subst hm0
                      have hy0 : ys = [] := List.eq_nil_of_length_eq_zero (by rw [hbd.2.1]; simp)
                      subst hy0
                      obtain ⟨ad1, cap1, hv1, hle⟩ := ownsR_slice hown
                      refine fin (a.eval x1) w [] ?_ (by simpa using hown) ⟨⟨rfl, rfl, rfl, Nat.le_refl _, fun _ _ _ => rfl⟩, Nat.le_refl _⟩ (fun b hb => .inr hb) rfl (fun j d hj => by simp at hj)
                      rw [hv1, hv2]
                      exact run_append_zero hu hti _ _ n cap1 cap2 hle
                    · obtain ⟨v, w', hr, ho2, hg, hv⟩ := run_append_own2 (P := P) (ty := o.type) w0.own hu hti h2 rfl rfl (by
                        have := (cellsOfVal_rep (ρ := ρf) (β := β) (ok := okS w0 ok0 bl β) (w := w) h3).1
                        rw [this, hzl]) (by omega) (by omega) hown ad2 m cap2 news hl2 hc2 h12 (by omega) (H.bel.own (Nat.le_refl _))
                      exact fin v w' news (by rw [hv2]; exact hr) ho2 hg hv (by rw [hl2, hbd.2.1]) hr2
                  · cases hd
                · cases h
            · cases h
        · cases h
      · cases h
    · cases h

end
end Go.Px
/- Px13: one operation, part eleven: stores, makes, slices; and every operation together. -/
set_option linter.unusedSimpArgs false
set_option linter.unusedVariables false
namespace Go.Px
open Go.RowKit
section
variable {P : Program} {o : Oper} {ks : List Nat} {S : St} {K : Option SV → St → Option IR} {As : List (List DV → Prop)} {ρ : List DV} {Q : List AV → Prop} {ir : IR}

theorem op_minmax {b : Builtin} (hb : b = .min ∨ b = .max) {args : Array Operand} {argTypes : Array TypeId} (ho : o.op = .call { callee := .builtin b, args := args, argTypes := argTypes })
    (h : symBuiltin P b argTypes (args.toList.map S.ev) S.nb S K = some ir) (hw : IRwp P As ρ ir Q) (hl : ρ.length = S.nv) (hid : S.bl S.nb = none) : OpOut P o S.nb S ks K As ρ Q := by
  rcases hb with rfl | rfl
  · unfold symBuiltin at h
    split at h
    all_goals first | contradiction | skip
    · rename_i p q _ he
      obtain ⟨x1, x2, hargs, hx1, hx2⟩ := args2 he
      subst hargs
      have hm1 : x1 ∈ o.op.operands := by simp [ho, Op.operands, Call.operands]
      have hm2 : x2 ∈ o.op.operands := by simp [ho, Op.operands, Call.operands]
      refine op_prim2 hm1 hm2 hx1 hx2 h hw hl hid fun a w ok d e d' hr1 hr2 hd => ?_
      cases d <;> cases e <;> simp only [Prim.den] at hd <;> try (cases hd; done)
      rename_i k n k' n'
      split at hd
      · cases hd
        refine ⟨.int k (if n' < n then n' else n), run_builtin ho ?_, .int _ _⟩
        simp [builtin, Builtin.min_, reads_int hr1, reads_int hr2, Builtin.min2]
      · cases hd
  · unfold symBuiltin at h
    split at h
    all_goals first | contradiction | skip
    · rename_i p q _ he
      obtain ⟨x1, x2, hargs, hx1, hx2⟩ := args2 he
      subst hargs
      have hm1 : x1 ∈ o.op.operands := by simp [ho, Op.operands, Call.operands]
      have hm2 : x2 ∈ o.op.operands := by simp [ho, Op.operands, Call.operands]
      refine op_prim2 hm1 hm2 hx1 hx2 h hw hl hid fun a w ok d e d' hr1 hr2 hd => ?_
      cases d <;> cases e <;> simp only [Prim.den] at hd <;> try (cases hd; done)
      rename_i k n k' n'
      split at hd
      · cases hd
        refine ⟨.int k (if n' > n then n' else n), run_builtin ho ?_, .int _ _⟩
        simp [builtin, Builtin.max_, reads_int hr1, reads_int hr2, Builtin.max2]
      · cases hd

theorem solid_one {ρ : List DV} {β : Bm} {ok : Nat → Prop} {w : World} {c : C} {v : Value} (h : CRep ρ β ok w c v) (hs : c.solid = true) (hβ : ∀ k v, β k = some v → v.oneCell' = true) : v.oneCell' = true := by
  cases c <;> simp only [CRep] at h <;> simp only [C.solid] at hs
  case «at» a => obtain ⟨d, _, hr⟩ := h; exact oneCell'_of_reads hr
  case nils => subst h; rfl
  case ful a => obtain ⟨d, _, hr, _⟩ := h; exact oneCell'_of_reads hr
  case lp k off => obtain ⟨b, _, rfl⟩ := h; rfl
  case fp x i s off => obtain ⟨_, _, _, _, _, _, _, _, _, _, _, _, rfl⟩ := h; rfl
  case own k => exact hβ _ _ h
  case op k i s off => obtain ⟨_, _, _, _, _, _, _, _, _, rfl⟩ := h; rfl
  case sub k lo n s => obtain ⟨_, _, _, _, _, _, _, _, _, _, _, _, _, _, _, rfl, _⟩ := h; rfl
  case fn f ks => obtain ⟨_, rfl, _⟩ := h; rfl
  case np => subst h; rfl
  all_goals cases hs

/-- A block of the call's own is written. -/
theorem RM.write {w0 : W0} {ok0 : Nat → Prop} {fs : List (Array Value)} {stk : List Frm} {ρ : List DV} {β : Bm} {nt : Nat} {tm : Nat → Option SV} {bl : Nat → Option Blk} {a : Act} {w w' : World}
    (H : RM w0 ok0 fs stk ρ β nt tm bl a w) {k : Nat} {b b' : Blk} {v : Value} {m : Nat} (hk : bl k = some b) (hm : b.mut = true) (hm' : b'.mut = true) (hv : β k = some v) (hbo : blockOf v = some m)
    (hoth : ∀ j, j ≠ m → w'.heap[j]? = w.heap[j]?) (hsz : w'.heap.size = w.heap.size) (hos : w'.os = w.os) (htape : w'.tape = w.tape) (hout : w'.output = w.output) (hdr : w'.drawn = w.drawn)
    (hrep : (∀ b o, okS w0 ok0 bl β b → w.heap[b]? = some o → okS w0 ok0 (upd bl k (some b')) β b ∧ w'.heap[b]? = some o) → BlkRep w0 ρ β (okS w0 ok0 (upd bl k (some b')) β) w' k b') :
    RM w0 ok0 fs stk ρ β nt tm (upd bl k (some b')) a w' := by
  have hlt := H.lt_of_mut hk hm hv hbo
  have hokeq : ∀ j, okS w0 ok0 bl β j → okS w0 ok0 (upd bl k (some b')) β j := fun j hj => ⟨hj.1, fun k' blk u hb2 hm2 hu he => by
    unfold upd at hb2
    split at hb2
    · rename_i hkk; subst hkk
      exact hj.2 k' b u hk hm hu he
    · exact hj.2 k' blk u hb2 hm2 hu he⟩
  have hmono : ∀ b o, okS w0 ok0 bl β b → w.heap[b]? = some o → okS w0 ok0 (upd bl k (some b')) β b ∧ w'.heap[b]? = some o := fun j o hj ho => by
    refine ⟨hokeq j hj, ?_⟩
    rw [hoth j fun he => hj.2 k b v hk hm hv (by rw [hbo, he])]
    exact ho
  refine H.step (Ext.refl _) (fun _ _ h => h) hmono (fun k' b2 hb2 => ?_) (fun k1 k2 b1 b2 v1 v2 m' e1 m1 e2 m2 f1 f2 g1 g2 => ?_) ?_ H.na
  · unfold upd at hb2
    split at hb2
    · rename_i hkk; subst hkk; cases hb2
      exact .inr (hrep hmono)
    · rename_i hne
      refine .inl ⟨hb2, fun u m' hu hbo' hor => hoth m' fun he => ?_⟩
      subst he
      rcases hor with hmut | hlt'
      · exact hne (H.inj k' k b2 b u v m' hb2 hmut hk hm hu hv hbo' hbo)
      · exact W0.old_not hlt' hlt.1
  · unfold upd at e1 e2
    split at e1
    · split at e2
      · rename_i h1 h2; rw [h1, h2]
      · rename_i h1 h2; subst h1
        exact H.inj k1 k2 b b2 v1 v2 m' hk hm e2 m2 f1 f2 g1 g2
    · split at e2
      · rename_i h1 h2; subst h2
        exact H.inj k1 k2 b1 b v1 v2 m' e1 m1 hk hm f1 f2 g1 g2
      · exact H.inj k1 k2 b1 b2 v1 v2 m' e1 m1 e2 m2 f1 f2 g1 g2
  · exact H.bel.then hos htape hout (Nat.le_of_eq hdr.symm) (by rw [hsz]; exact Nat.le_refl _) fun i hi => hoth i fun he => W0.old_not hi (he ▸ hlt.1)

theorem setRow_facts (w : World) (g : Nat) (cs : Array Value) : (w.setRow g cs).heap.size = w.heap.size ∧ (w.setRow g cs).os = w.os ∧ (w.setRow g cs).tape = w.tape ∧ (w.setRow g cs).output = w.output ∧ (w.setRow g cs).drawn = w.drawn := by
  simp [World.setRow]

theorem run_storeVar {T : TypeId} {m : Nat} {g off : Nat} {E : TypeId} {cur : Array Value} {v : Value} {w : World} (hs : sizeT P T = some m) (hm : v.cells.size = m) (hg : w.heap[g]? = some (.cells cur E (0, 0))) (hle : off + m ≤ cur.size) (h1 : ∀ u ∈ v.cells, u.oneCell' = true) :
    (storeVar T ⟨g, off, none⟩ v).run P w = .ok () (w.setRow g (cur.toList.take off ++ v.cells.toList ++ cur.toList.drop (off + m)).toArray) := by
  obtain ⟨_, ti, hti, htm⟩ := sizeT_some hs
  have hst := run_storeCells_at P g off E v.cells.toList 0 cur w hg (by simp [hm]; omega) (fun u hu => h1 u (by simpa using hu))
  simp only [Nat.add_zero, Array.length_toList, hm] at hst
  unfold storeVar
  simp [sizeOf, typeInfo, program, Sem.run, hti, htm, hm, hst]

theorem splice_at {α : Type} {l m : List α} {off j : Nat} (hle : off + m.length ≤ l.length) : (l.take off ++ m ++ l.drop (off + m.length))[j]? = if off ≤ j ∧ j < off + m.length then m[j - off]? else l[j]? := by
  by_cases h1 : j < off
  · rw [if_neg (by omega), List.append_assoc, List.getElem?_append_left (by simp; omega), List.getElem?_take, if_pos h1]
  · by_cases h2 : j < off + m.length
    · rw [if_pos (by omega), List.append_assoc, List.getElem?_append_right (by simp; omega), List.getElem?_append_left (by simp; omega)]
      congr 1; simp; omega
    · rw [if_neg (by omega), List.getElem?_append_right (by simp; omega), List.getElem?_drop]
      congr 1; simp; omega

theorem setAt_get : ∀ (vs : List DV) (cells : List DV) (j0 j : Nat), (setAt cells j0 vs)[j]? = if j0 ≤ j ∧ j < j0 + vs.length ∧ j < cells.length then vs[j - j0]? else cells[j]?
  | [], cells, j0, j => by simp only [setAt, List.length_nil]; rw [if_neg (by omega)]
  | v :: r, cells, j0, j => by
    simp only [setAt]
    rw [setAt_get r (cells.set j0 v) (j0 + 1) j]
    simp only [List.length_set, List.length_cons]
    by_cases h : j0 = j
    · subst h
      rw [if_neg (by omega)]
      by_cases hs : j0 < cells.length
      · rw [if_pos (by omega)]; simp [hs]
      · rw [if_neg (by omega)]; simp [hs]
    · rw [List.getElem?_set_ne h]
      by_cases h2 : j0 + 1 ≤ j ∧ j < j0 + 1 + r.length ∧ j < cells.length
      · rw [if_pos h2, if_pos (by omega)]
        have : j - j0 = (j - (j0 + 1)) + 1 := by omega
        rw [this, List.getElem?_cons_succ]
      · rw [if_neg h2, if_neg (by omega)]
theorem setAt_len : ∀ (vs : List DV) (cells : List DV) (j0 : Nat), (setAt cells j0 vs).length = cells.length
  | [], _, _ => rfl
  | v :: r, cells, j0 => by simp only [setAt]; rw [setAt_len r]; simp

theorem patch_upd3 {bl b0 b1 : Nat → Option Blk} {id k : Nat} {b : Option Blk} {ks fb : List Nat} (hk : k ∈ ks) (hsub : ∀ k ∈ fb, k ∈ ks) (h0 : ∀ k ∈ id :: ks, bl k = b0 k) (h1 : ∀ k, k ∉ fb → b1 k = b0 k) :
    patch bl (upd b1 k b) (id :: ks) = upd (patch bl b1 fb) k b := by
  funext j
  simp only [patch, upd]
  by_cases hj : j = k
  · subst hj; simp [hk]
  · by_cases hf : j ∈ fb
    · simp [hj, hf, hsub j hf]
    · by_cases h2 : j ∈ id :: ks
      · simp only [h2, if_true, hj, if_false, hf]
        rw [h1 j hf, h0 j h2]
      · simp only [h2, if_false, hj, hf]

theorem op_store {T : TypeId} {x y : Operand} (ho : o.op = .store T x y) (hks : ∀ k ∈ namedOf S o.op, k ∈ ks) (h : symOp P o 0 S.nb S K = some ir) (hw : IRwp P As ρ ir Q) (hl : ρ.length = S.nv) (hid : S.bl S.nb = none) : OpOut P o S.nb S ks K As ρ Q := by
  have hmx : x ∈ o.op.operands := by simp [ho, Op.operands]
  have hmy : y ∈ o.op.operands := by simp [ho, Op.operands]
  have run : ∀ (a : Act) (w w' : World) (ad : Addr), a.eval x = .pointer (some ad) → (storeVar T ad (a.eval y)).run P w = .ok () w' → (execOp a.eval o).run P w = .ok .skip w' := by
    intro a w w' ad he hr
    simp only [execOp, ho, he, Instr.storeAt, Instr.sureAddr]
    simp [hr]
  unfold symOp at h
  simp only [ho] at h
  split at h
  · rename_i k off v m hx hy hs
    have hkk : k ∈ ks := hks k (named_mem hmx (by simp [hx, SV.blocks, Px.S1.cells, C.blocks]))
    split at h
    · rename_i cs U hb
      split at h
      · rename_i hcond
        refine ⟨ρ, none, S.setB k (.box (cs.take off ++ v.cells ++ cs.drop (off + m)) U false), ir, Ext.refl _, hl, h, hw, ⟨rfl, rfl, rfl, rfl, rfl⟩, fun j hj => ?_, ⟨fun ht => by simp [turnsOp, ho] at ht, fun j _ hn => by simp only [St.setB, upd]; split <;> simp_all⟩, ?_⟩
        · have : j ≠ k := fun he => hj (by simp [he, hkk])
          simp [St.setB, upd, this]
        intro ρf hE w0 ok0 fs stk β nt tm bl a w H hag hbl hβ hbid K' Q' hk'
        obtain ⟨b, hβk, he⟩ := H.one (x := x) (by rw [hag x hmx]; exact hx)
        have hbk : bl k = some (.box cs U false) := (hbl k hkk).trans hb
        obtain ⟨b', arr, T', fz, h1, h2, h3, h4, h5⟩ := H.hbl k _ hbk
        rw [hβk] at h1; cases h1
        obtain ⟨hb0, rfl⟩ := h4 rfl
        have hv : S1Rep ρf β (okS w0 ok0 bl β) w v (a.eval y) := H.eval (x := y) (sv := .s v) (by rw [hag y hmy]; exact hy)
        have hvc := hv.cells (fun k v h => notAgg_of_one (H.na k v h))
        have hone : ∀ u ∈ (a.eval y).cells, u.oneCell' = true := fun u hu => by
          obtain ⟨j, hj, rfl⟩ := Array.mem_iff_getElem.1 hu
          have hjl : j < v.cells.length := by rw [← hvc.1]; exact hj
          obtain ⟨u', hu', hr⟩ := hvc.2 j (v.cells[j]) (by simp)
          simp [hj] at hu'
          rw [hu']
          exact solid_one hr (List.all_eq_true.1 hcond.2.2 _ (by simp)) H.na
        have hst := run_storeVar (P := P) (T := T) (m := m) (g := b) (off := off) (E := T') (cur := arr) (v := a.eval y) (w := w) hs (by rw [hvc.1]; exact hcond.1) h2 (by rw [h3.1]; exact hcond.2.1) hone
        have hp : patch bl (S.setB k (.box (cs.take off ++ v.cells ++ cs.drop (off + m)) U false)).bl (S.nb :: ks) = upd bl k (some (.box (cs.take off ++ v.cells ++ cs.drop (off + m)) U false)) := by
          have := patch_upd3 (bl := bl) (b0 := S.bl) (b1 := S.bl) (id := S.nb) (k := k) (b := some (.box (cs.take off ++ v.cells ++ cs.drop (off + m)) U false)) (ks := ks) (fb := []) hkk (by simp) (fun j hj => by
            rcases List.mem_cons.1 hj with rfl | hj
            · rw [hbid, hid]
            · exact hbl j hj) (fun _ _ => rfl)
          rw [patch_nil] at this
          exact this
        obtain ⟨f1, f2, f3, f4, f4d⟩ := setRow_facts w b (arr.toList.take off ++ (a.eval y).cells.toList ++ arr.toList.drop (off + m)).toArray
        refine wp_skipped (run a w _ _ he hst) (hk' undef β _ (by
          rw [hp]
          refine H.write hbk rfl rfl hβk rfl (fun j hj => setRow_other w b j _ hj) f1 f2 f3 f4 f4d fun hmono => ?_
          refine ⟨b, _, T', (0, 0), hβk, setRow_heap w b arr _ T' _ h2, ?_, fun _ => ⟨hb0, rfl⟩, fun hh => (by cases hh), h5.2⟩
          have hlen : v.cells.length = m := hcond.1
          refine ⟨?_, fun j c hj => ?_⟩
          · simp [hvc.1, h3.1, hlen]
          · subst hlen
            rw [splice_at (by omega)] at hj
            have hsz : (a.eval y).cells.toList.length = v.cells.length := by simp [hvc.1]
            simp only [List.getElem?_toArray]
            rw [← hsz, splice_at (by simp only [Array.length_toList, hvc.1, h3.1]; omega)]
            rw [hsz]
            split at hj
            · rename_i hr
              rw [if_pos hr]
              obtain ⟨u, hu, hq⟩ := hvc.2 _ c hj
              exact ⟨u, by simpa using hu, hq.imp (Ext.refl _) (fun _ _ h => h) hmono⟩
            · rename_i hr
              rw [if_neg hr]
              obtain ⟨u, hu, hq⟩ := h3.2 _ c hj
              exact ⟨u, by simpa using hu, hq.imp (Ext.refl _) (fun _ _ h => h) hmono⟩) (fun _ _ h => h) (fun _ _ => rfl) (fun s hs => by cases hs))
      · cases h
    · cases h
  · rename_i k i s off v m hx hy hs
    have hkk : k ∈ ks := hks k (named_mem hmx (by simp [hx, SV.blocks, Px.S1.cells, C.blocks]))
    split at h
    · rename_i l S1 hl1
      obtain ⟨eS, uS, nS, lS⟩ := toAs_facts hl1
      have hnv : S1.nv = S.nv := by rw [eS]
      have hfb : ∀ j ∈ v.cells.flatMap C.blocks, j ∈ ks := fun j hj => hks j (named_mem hmy (by rw [hy]; exact hj))
      split at h
      · rename_i z s' e hb
        split at h
        · rename_i hcond
          obtain ⟨hlen, hss⟩ := hcond
          subst hss
          obtain ⟨d, ir', hlt, hd, hK, hw', hE', hl', hz'⟩ := emit_sound h hw (by rw [hnv]; exact hl)
          refine ⟨_, none, ({ S1 with nv := S1.nv + 1 } : St).setB k (.own (.var S1.nv) s e), ir', hE', hl', hK, hw', by rw [eS]; exact ⟨rfl, rfl, rfl, rfl, rfl⟩, fun j hj => ?_, ⟨fun ht => by simp [turnsOp, ho] at ht, fun j _ hn => by
            have := nS j hn
            simp only [St.setB, upd]; split
            · rename_i he; rw [he] at this; rw [hb] at this; cases this
            · exact this⟩, ?_⟩
          · have : j ≠ k := fun he => hj (by simp [he, hkk])
            simp only [St.setB, upd, this, if_false]
            exact uS j fun hk2 => hj (by simp [hfb j hk2])
          intro ρf hE w0 ok0 fs stk β nt tm bl a w H hag hbl hβ hbid K' Q' hk'
          have hag2 : ∀ j ∈ S.nb :: ks, bl j = S.bl j := fun j hj => by
            rcases List.mem_cons.1 hj with rfl | hj
            · rw [hbid, hid]
            · exact hbl j hj
          have hp : patch bl (({ S1 with nv := S1.nv + 1 } : St).setB k (.own (.var S1.nv) s e)).bl (S.nb :: ks) = upd (patch bl S1.bl (v.cells.flatMap C.blocks)) k (some (.own (.var S1.nv) s e)) :=
            patch_upd3 (b0 := S.bl) hkk hfb hag2 uS
          have hv : S1Rep ρf β (okS w0 ok0 bl β) w v (a.eval y) := H.eval (x := y) (sv := .s v) (by rw [hag y hmy]; exact hy)
          have hvc := hv.cells (fun k v h => notAgg_of_one (H.na k v h))
          obtain ⟨_, _, _, f4⟩ := toAs_sound (w0 := w0) (ok0 := ok0) (fs := fs) (stk := stk) (ρ := ρf) (β := β) (nt := nt) (tm := tm) (a := a) (w := w) hl1
          obtain ⟨HM, hmono1, har⟩ := f4 (bl := bl) H (fun j hj => hbl j (hfb j hj)) (fun j => (a.eval y).cells.getD j undef) (fun j c hj => by
            obtain ⟨u, hu, hq⟩ := hvc.2 j c hj
            simpa [Array.getD_eq_getD_getElem?, hu] using hq)
          have hbk : patch bl S1.bl (v.cells.flatMap C.blocks) k = some (.own z s e) := by
            unfold patch; split
            · exact hb
            · rename_i hn; rw [hbl k hkk, ← uS k hn]; exact hb
          obtain ⟨b, n', cap, kI, iv, hβk, hi, hi0, hin, he⟩ := H.one (x := x) (by rw [hag x hmx]; exact hx)
          obtain ⟨v', n, cells, g1, g2, xs, hown, hxl, hxc⟩ := HM.hbl k _ hbk
          rw [hβk] at g1; cases g1
          simp only [List.all_cons, Bool.and_eq_true, hnv] at hlt
          have e1 := ev_of_ext hlt.1 hl (hE'.trans hE) g2
          have e2 := ev_of_ext hlt.2.1 hl (hE'.trans hE) hi
          simp only [List.map_cons, e1, e2, Prim.den] at hd
          split at hd
          · rename_i hbd
            cases hd
            rcases hown.2 with ⟨h0, _⟩ | ⟨g, cap', cur, hvg, hbg, hh, hnc, hcm, hcs, htake⟩
            · cases h0
            · obtain ⟨rfl, rfl, rfl⟩ : g = b ∧ n = n' ∧ cap' = cap := by cases hvg; exact ⟨rfl, rfl, rfl⟩
              have hml : m = l.length := by rw [lS, hlen]
              have hcl : cells.length = n * s := by rw [← hxl, hown.1]
              have hns : n * s ≤ cap' * s := Nat.mul_le_mul_right _ hnc
              have hone : ∀ u ∈ (a.eval y).cells, u.oneCell' = true := fun u hu => by
                obtain ⟨j, hj, rfl⟩ := Array.mem_iff_getElem.1 hu
                have hjl : j < l.length := by rw [lS, ← hvc.1]; exact hj
                obtain ⟨d', _, hrd⟩ := har j (l[j]) (by simp)
                have := oneCell'_of_reads hrd
                simpa [Array.getD_eq_getD_getElem?, hj] using this
              have hbd3 : iv.toNat * s + off + l.length ≤ cells.length := by simpa using hbd.2.2
              have hst := run_storeVar (P := P) (T := T) (m := m) (g := g) (off := iv.toNat * s + off) (E := e) (cur := cur) (v := a.eval y) (w := w) hs (by rw [hvc.1]; exact hlen) hh (by omega) hone
              obtain ⟨f1, f2, f3, f5, f5d⟩ := setRow_facts w g (cur.toList.take (iv.toNat * s + off) ++ (a.eval y).cells.toList ++ cur.toList.drop (iv.toNat * s + off + m)).toArray
              refine wp_skipped (run a w _ _ he hst) (hk' undef β _ (by
                rw [hp]
                refine HM.write hbk rfl rfl hβk rfl (fun j hj => setRow_other w g j _ hj) f1 f2 f3 f5 f5d fun hmono => ?_
                have hsz : (a.eval y).cells.toList.length = m := by simp [hvc.1, hlen]
                have hcur' : ∀ j : Nat, (cur.toList.take (iv.toNat * s + off) ++ (a.eval y).cells.toList ++ cur.toList.drop (iv.toNat * s + off + m))[j]? =
                    if iv.toNat * s + off ≤ j ∧ j < iv.toNat * s + off + m then (a.eval y).cells.toList[j - (iv.toNat * s + off)]? else cur.toList[j]? := fun j => by
                  rw [← hsz]; exact splice_at (by simp only [Array.length_toList, hsz] at *; omega)
                have hlen' : (cur.toList.take (iv.toNat * s + off) ++ (a.eval y).cells.toList ++ cur.toList.drop (iv.toNat * s + off + m)).length = cur.size := by
                  simp [hvc.1, hlen]; omega
                refine ⟨_, n, _, hβk, A.rd_ext hE hz', (cur.toList.take (iv.toNat * s + off) ++ (a.eval y).cells.toList ++ cur.toList.drop (iv.toNat * s + off + m)).take (n * s), ⟨?_, .inr ⟨g, cap', _, rfl, hbg, setRow_heap w g cur _ e _ hh, hnc, hcm, ?_, ?_⟩⟩, ?_, fun j d hj => ?_⟩
                · rw [List.length_take, hlen']; omega
                · simp only [List.size_toArray, hlen']; exact hcs
                · rfl
                · rw [List.length_take, hlen', setAt_len]; omega
                · rw [setAt_get] at hj
                  rw [List.getElem?_take]
                  have hjl : j < n * s := by
                    split at hj
                    · omega
                    · have := (List.getElem?_eq_some_iff.1 hj).1; omega
                  rw [if_pos hjl, hcur' j]
                  simp only [List.length_map] at hj
                  rw [← hml] at hj
                  split at hj
                  · rename_i hr
                    rw [if_pos ⟨hr.1, hr.2.1⟩]
                    rw [List.getElem?_map] at hj
                    cases hx2 : l[j - (iv.toNat * s + off)]? with
                    | none => rw [hx2] at hj; cases hj
                    | some z2 =>
                      rw [hx2] at hj
                      simp only [Option.map_some, Option.some.injEq] at hj
                      obtain ⟨d', hd', hrd⟩ := har _ z2 hx2
                      have hzl : z2.lt S.nv = true := by rw [← hnv]; exact List.all_eq_true.1 (by rw [hnv]; exact hlt.2.2) z2 (List.mem_of_getElem? hx2)
                      have := ev_of_ext hzl hl (hE'.trans hE) hd'
                      have hjj : j - (iv.toNat * s + off) < (a.eval y).cells.size := by rw [hvc.1, hlen]; omega
                      refine ⟨(a.eval y).cells[j - (iv.toNat * s + off)], by simp [hjj], ?_⟩
                      rw [← hj, this]
                      have h9 : (a.eval y).cells.getD (j - (iv.toNat * s + off)) undef = (a.eval y).cells[j - (iv.toNat * s + off)] := by simp [Array.getD_eq_getD_getElem?, hjj]
                      rw [← h9]
                      exact hrd.imp hmono
                  · rename_i hr
                    rw [if_neg (by
                      intro hc
                      have := (List.getElem?_eq_some_iff.1 hj).1
                      exact hr ⟨hc.1, hc.2, this⟩)]
                    obtain ⟨u, hu, hq⟩ := hxc j d hj
                    rw [← htake, List.getElem?_take, if_pos hjl] at hu
                    exact ⟨u, hu, hq.imp hmono⟩) (fun _ _ h => h) (fun _ _ => rfl) (fun s hs => by cases hs))
          · cases hd
        · cases h
      · cases h
    · cases h
  · cases h

end
end Go.Px
/- Px14: one operation, part ten: making a slice, slicing; then every operation. -/
set_option linter.unusedSimpArgs false
set_option linter.unusedVariables false
namespace Go.Px
open Go.RowKit

section
variable {P : Program} {o : Oper} {ks : List Nat} {S : St} {K : Option SV → St → Option IR} {As : List (List DV → Prop)} {ρ : List DV} {Q : List AV → Prop} {ir : IR}

theorem op_makeSlice {t : TypeId} {l c : Operand} (ho : o.op = .makeSlice t l c) (h : symOp P o 0 S.nb S K = some ir) (hw : IRwp P As ρ ir Q) (hl : ρ.length = S.nv) (hid : S.bl S.nb = none) : OpOut P o S.nb S ks K As ρ Q := by
  have hml : l ∈ o.op.operands := by simp [ho, Op.operands]
  have hmc : c ∈ o.op.operands := by simp [ho, Op.operands]
  unfold symOp at h
  simp only [ho] at h
  split at h
  · rename_i e la ca hu hla hca
    split at h
    · rename_i ti zs hti hz
      split at h
      · cases h
      · rename_i hcond
        simp only [not_or, Decidable.not_not] at hcond
        obtain ⟨hs, hs0, hb0⟩ := hcond
        obtain ⟨ti', z, h1, h2, h3⟩ := zerosOf_some hz
        rw [hti] at h1; cases h1
        split at h
        · rename_i za S1 hza
          obtain ⟨eS, uS, nS, lS⟩ := toAs_facts hza
          have hfl : zs.flatMap C.blocks = [] := List.flatMap_eq_nil_iff.2 fun c hc => zeros_blocks hz c hc
          have hbl1 : S1.bl = S.bl := by funext k; exact uS k (by simp [hfl])
          have hS1 : S1 = S := by rw [eS, hbl1]
          subst hS1
          obtain ⟨d, ir', hlt, hd, hK, hw', hE', hl', hz'⟩ := emit_sound h hw hl
          simp only [List.all_cons, Bool.and_eq_true] at hlt
          obtain ⟨dl, hdl⟩ := rd_of_lt hlt.1 hl
          obtain ⟨dc, hdc⟩ := rd_of_lt hlt.2.1 hl
          simp only [List.map_cons, A.ev_of_rd hdl, A.ev_of_rd hdc] at hd
          cases dl <;> try (simp [Prim.den] at hd; done)
          rename_i kl iv
          cases dc <;> try (cases kl <;> simp [Prim.den] at hd; done)
          rename_i kc cv
          cases kl <;> try (simp [Prim.den] at hd; done)
          cases kc <;> try (simp [Prim.den] at hd; done)
          simp only [Prim.den] at hd
          split at hd
          · rename_i hb
            obtain ⟨b0, b1, b2⟩ := hb
            simp only [Option.some.injEq, List.length_map] at hd
            refine ⟨_, _, ({ S1 with nv := S1.nv + 1 } : St).setB S1.nb (.own (.var S1.nv) ti.size e), ir', hE', hl', hK, hw', ⟨rfl, rfl, rfl, rfl, rfl⟩, fun k hk => ?_, ⟨fun ht => by simp [turnsOp, ho] at ht, fun k hk h => by simp [St.setB, upd, hk, h]⟩, ?_⟩
            · have hne : k ≠ S1.nb := fun he => hk (by simp [he])
              simp [St.setB, upd, hne]
            intro ρf hE w0 ok0 fs stk β nt tm bl a w H hag hbl hβ hbid K' Q' hk
            have evl : a.eval l = .int .i64 iv := by
              obtain ⟨d', hd', hr⟩ := H.one (x := l) (by rw [hag l hml]; exact hla)
              rw [A.rd_ext (hE'.trans hE) hdl] at hd'; cases hd'
              exact reads_int hr
            have evc : a.eval c = .int .i64 cv := by
              obtain ⟨d', hd', hr⟩ := H.one (x := c) (by rw [hag c hmc]; exact hca)
              rw [A.rd_ext (hE'.trans hE) hdc] at hd'; cases hd'
              exact reads_int hr
            have hc0 : 0 ≤ cv := by omega
            have hcb : cv ≤ cv * (ti.bytes : Int) := by
              have : cv * 1 ≤ cv * (ti.bytes : Int) := Int.mul_le_mul_of_nonneg_left (by omega) hc0
              omega
            have hby : (ti.bytes : Int) * cv ≤ 281474976710656 := by
              rw [Int.mul_comm]; omega
            have hrun := run_make (P := P) w t e ti z hu hti h2 .i64 .i64 iv cv b0 b1 hby (by omega)
            have hrun' : (execOp a.eval o).run P w = .ok (.value (.slice (some ⟨w.heap.size, 0, none⟩) iv.toNat cv.toNat)) (w.alloc (.cells (madeCells z.cells (cv.toNat * ti.size)) e)) := by
              simp [execOp, ho, evl, evc, hrun]
            have hzc := cellsOfVal_rep (ρ := ρf) (β := β) (ok := okS w0 ok0 bl β) (w := w) h3
            obtain ⟨_, _, _, f4⟩ := toAs_sound (w0 := w0) (ok0 := ok0) (fs := fs) (stk := stk) (ρ := ρf) (β := β) (nt := nt) (tm := tm) (a := a) (w := w) hza
            obtain ⟨_, g2, g3⟩ := f4 (bl := bl) H (fun k hk => by rw [hfl] at hk; cases hk) (fun j => z.cells.getD j undef) (fun j c hj => by
              obtain ⟨u, hu, hq⟩ := hzc.2 j c hj
              simpa [Array.getD_eq_getD_getElem?, hu] using hq)
            rw [hfl, patch_nil] at g3
            have hzl : z.cells.size = za.length := by rw [hzc.1, lS]
            have hsz : ti.size = za.length := by rw [lS]; exact hs
            have hle : iv.toNat ≤ cv.toNat := by omega
            have hcells : ∀ (j : Nat) (d : DV), ((List.range (iv.toNat * za.length)).map fun j => (za.map (A.ev ρ)).getD (j % za.length) (.bool false))[j]? = some d → ∃ u, (madeCells z.cells (cv.toNat * ti.size))[j]? = some u ∧ Reads (okS w0 ok0 bl β) w d u := by
              intro j d' hj
              rw [List.getElem?_map] at hj
              by_cases hjl : j < iv.toNat * za.length
              · rw [List.getElem?_range hjl] at hj
                simp only [Option.map_some, Option.some.injEq] at hj
                have hmod : j % za.length < za.length := Nat.mod_lt _ (by omega)
                have hjc : j < cv.toNat * ti.size := by
                  have : iv.toNat * za.length ≤ cv.toNat * za.length := Nat.mul_le_mul_right _ hle
                  rw [hsz]; omega
                obtain ⟨dd, hdd, hrd⟩ := g3 (j % za.length) (za[j % za.length]'hmod) (List.getElem?_eq_getElem hmod)
                refine ⟨z.cells.getD (j % za.length) undef, ?_, ?_⟩
                · simp only [madeCells, Array.getElem?_map]
                  rw [Array.getElem?_range]
                  simp only [hjc, if_true, Option.map_some, Option.some.injEq, hzl]
                  rw [getElem!_def, Array.getD_eq_getD_getElem?]
                  have : j % za.length < z.cells.size := by omega
                  simp [this]
                · have hx : (za[j % za.length]'hmod).lt S1.nv = true := List.all_eq_true.1 hlt.2.2 _ (List.getElem_mem hmod)
                  have := ev_of_ext hx hl (hE'.trans hE) hdd
                  rw [← hj, List.getD_eq_getElem?_getD, List.getElem?_map, List.getElem?_eq_getElem hmod]
                  simp only [Option.map_some, Option.getD_some]
                  rw [this]; exact hrd
              · rw [List.getElem?_eq_none (by simpa using hjl)] at hj; cases hj
            have hp2 : patch bl (({ S1 with nv := S1.nv + 1 } : St).setB S1.nb (.own (.var S1.nv) ti.size e)).bl (S1.nb :: ks) = upd bl S1.nb (some (.own (.var S1.nv) ti.size e)) :=
              patch_upd (b0 := S1.bl) hbl
            refine wp_value hrun' (hk _ _ _ (by
              rw [hp2]
              refine H.new_own hβ hbid (A.rd_ext hE (by rw [hz', ← hd])) hle (by unfold maxLen; omega) (by simp [hsz]) (by rw [size_madeCells]) hcells) (upd_none β hβ).1 (upd_none β hβ).2 fun s hs => ?_)
            cases hs
            simp [SVRep, S1Rep, CRep, upd]
          · cases hd
        · cases h
    · cases h
  · cases h

/-- A part of what a slice reads as. -/
theorem sl_reads {ok : Nat → Prop} {w : World} {n cap s l h m : Nat} {cells : List DV} {ad : Option Addr} (hr : Reads ok w (.list n cells) (.slice ad n cap)) (hlen : cells.length = n * s) (h1 : l ≤ h) (h2 : h ≤ n) (h3 : h ≤ m) :
    Reads ok w (.list (h - l) ((cells.drop (l * s)).take ((h - l) * s))) (sliced ad l h m s) := by
  cases hr with
  | list _ _ _ _ f hcap hmem hrr =>
    have hsum : l * s + (h - l) * s ≤ n * s := by rw [← Nat.add_mul]; exact Nat.mul_le_mul_right _ (by omega)
    have hlen2 : ((cells.drop (l * s)).take ((h - l) * s)).length = (h - l) * s := by simp; omega
    unfold sliced
    refine .list _ _ _ _ (fun j => f (l * s + j)) (by omega) (fun hne => ?_) (fun j d hj => ?_)
    · have h0 : 0 < (h - l) * s := by rw [← hlen2]; exact List.length_pos_iff.2 hne
      have hml : ¬ m = l := fun he => by
        have : h - l = 0 := by omega
        rw [this, Nat.zero_mul] at h0; omega
      obtain ⟨a0, ha, hok, hc⟩ := hmem (fun e => by rw [e] at hlen; simp at hlen; omega)
      subst ha
      refine ⟨a0.add (l * s), by simp [hml], by rw [Addr_add_block]; exact hok, fun j hj => ?_⟩
      rw [Addr_add_add]
      rw [hlen2] at hj
      exact hc _ (by omega)
    · rw [List.getElem?_take] at hj
      split at hj
      · rw [List.getElem?_drop] at hj
        exact hrr _ _ hj
      · cases hj

/-- What slicing does. -/
theorem run_sl {t e : TypeId} {s : Nat} (hu : P.underlying t = some (.slice e)) (hs : sizeT P e = some s) {w : World} {ad : Option Addr} {n cap : Nat} {lo hi mx : Option Value} {l h : Nat} {m : Nat}
    (hlo : lo = none ∧ l = 0 ∨ ∃ k, lo = some (.int k (l : Int))) (hhi : hi = none ∧ h = n ∧ mx = none ∨ ∃ k, hi = some (.int k (h : Int))) (hmx : mx = none ∧ m = cap ∨ mx ≠ none ∧ m = h ∧ ∃ k, mx = some (.int k (m : Int)))
    (h1 : l ≤ h) (h2 : h ≤ n) (h3 : n ≤ cap) : (Instr.sliceAt t (.slice ad n cap) lo hi mx).run P w = .ok (sliced ad l h m s) w := by
  obtain ⟨_, ti, hti, hts⟩ := sizeT_some hs
  have hse : (sizeOf e).run P w = .ok s w := by simp [sizeOf, typeInfo, program, Sem.run, hti, hts]
  have g1 : (h : Int) ≤ (cap : Int) := by omega
  have g2 : (l : Int) ≤ (h : Int) := by omega
  have g3 : (h : Int) ≤ (n : Int) := by omega
  have g4 : h ≤ cap := by omega
  rcases hmx with ⟨rfl, rfl⟩ | ⟨hm0, rfl, km, rfl⟩
  · rcases hhi with ⟨rfl, rfl, _⟩ | ⟨kh, rfl⟩
    · rcases hlo with ⟨rfl, rfl⟩ | ⟨kl, rfl⟩ <;> simp [Instr.sliceAt, Instr.slice, run_underlying hu, Instr.sliceBounds, run_sliceBound, sliced, hse, h1, h2, h3, g1, g2, g3, g4]
    · rcases hlo with ⟨rfl, rfl⟩ | ⟨kl, rfl⟩ <;> simp [Instr.sliceAt, Instr.slice, run_underlying hu, Instr.sliceBounds, run_sliceBound, sliced, hse, h1, h2, h3, g1, g2, g3, g4]
  · rcases hhi with ⟨_, _, hx⟩ | ⟨kh, rfl⟩
    · cases hx
    · rcases hlo with ⟨rfl, rfl⟩ | ⟨kl, rfl⟩ <;> simp [Instr.sliceAt, Instr.slice, run_underlying hu, Instr.sliceBounds, run_sliceBound, sliced, hse, h1, h2, h3, g1, g2, g3, g4]

theorem bound_some {x : Operand} {S : St} {d : Option A} {z : A} (h : boundA (some x) S d = some z) : S.ev x = some (.s (.one (.at z))) := by
  simp only [boundA] at h
  split at h
  · rename_i a he; cases h; exact he
  · cases h

theorem ownCut_some {S : St} {asArg s : Nat} {e : TypeId} {c : C} {lo hi mx : Option Operand} {b : Bool} {k : Nat} {x ha : A} (h : S.ownCut asArg s e c lo hi mx = some (b, k, x, ha)) :
    c = .own k ∧ S.bl k = some (.own x s e) ∧ (∃ y, hi = some y ∧ S.ev y = some (.s (.one (.at ha)))) ∧ (b = true → lo = none ∧ ∃ m, mx = some m ∧ S.ev m = some (.s (.one (.at ha)))) ∧ (b = false → mx = none) := by
  cases c <;> simp only [St.ownCut] at h
  case own k' =>
    split at h
    · rename_i x' s' e' y hb
      split at h
      · rename_i z hz
        split at h
        · cases h
        · rename_i hse
          simp only [not_or, Decidable.not_not] at hse
          split at h
          · rename_i hc
            simp only [Option.some.injEq, Prod.mk.injEq] at h
            obtain ⟨rfl, rfl, rfl, rfl⟩ := h
            simp only [Bool.and_eq_true, beq_iff_eq] at hc
            refine ⟨rfl, by rw [hb, hse.1, hse.2], ⟨y, rfl, bound_some hz⟩, fun _ => ⟨by cases lo <;> simp_all, ?_⟩, fun hh => by cases hh⟩
            cases mx with
            | none => simp at hc
            | some m => exact ⟨m, rfl, bound_some hc.2⟩
          · split at h
            · rename_i hc
              simp only [Option.some.injEq, Prod.mk.injEq] at h
              obtain ⟨rfl, rfl, rfl, rfl⟩ := h
              simp only [Bool.and_eq_true] at hc
              exact ⟨rfl, by rw [hb, hse.1, hse.2], ⟨y, rfl, bound_some hz⟩, (fun hh => by cases hh), fun _ => by cases mx <;> simp_all⟩
            · cases h
      · cases h
    · cases h
  all_goals cases h

theorem patch_cut {bl b0 : Nat → Option Blk} {id k : Nat} {b : Option Blk} {ks : List Nat} (hk : k ∈ ks) (h0 : ∀ j ∈ ks, bl j = b0 j) : patch bl (upd (upd b0 k none) id b) (id :: ks) = upd (dropO bl (some k)) id b := by
  funext j
  simp only [patch, upd, List.mem_cons, dropO]
  by_cases h1 : j = id
  · simp [h1]
  · by_cases h2 : j ∈ ks
    · simp [h1, h2, h0 j h2]
    · have : j ≠ k := fun he => h2 (by rw [he]; exact hk)
      simp [h1, h2, this]

theorem op_slice {t : TypeId} {x : Operand} {lo hi mx : Option Operand} {asArg : Nat} (ho : o.op = .slice t x lo hi mx) (hks : ∀ k ∈ namedOf S o.op, k ∈ ks) (h : symOp P o asArg S.nb S K = some ir) (hw : IRwp P As ρ ir Q) (hl : ρ.length = S.nv) (hid : S.bl S.nb = none) : OpOut P o S.nb S ks K As ρ Q := by
  have hm : x ∈ o.op.operands := by simp [ho, Op.operands]
  have hml : ∀ y, lo = some y → y ∈ o.op.operands := fun y hy => by simp [ho, Op.operands, hy]
  have hmh : ∀ y, hi = some y → y ∈ o.op.operands := fun y hy => by simp [ho, Op.operands, hy]
  have hmm : ∀ y, mx = some y → y ∈ o.op.operands := fun y hy => by simp [ho, Op.operands, hy]
  unfold symOp at h
  simp only [ho] at h
  split at h
  · rename_i e c hu hx
    split at h
    · cases h
    rename_i s hs
    split at h
    · -- in its own memory
      rename_i k xa ha hcut
      obtain ⟨rfl, hbk, ⟨y, rfl, hy⟩, hcut1, _⟩ := ownCut_some hcut
      obtain ⟨rfl, m, rfl, hmx⟩ := hcut1 rfl
      have hkk : k ∈ ks := hks k (named_mem hm (by rw [hx]; simp [SV.blocks, Px.S1.cells, C.blocks]))
      obtain ⟨d, ir', hlt, hd, hK, hw', hE', hl', hz'⟩ := emit_sound h hw hl
      refine ⟨_, _, (({ S with nv := S.nv + 1 } : St).dropB k).setB S.nb (.own (.var S.nv) s e), ir', hE', hl', hK, hw', ⟨rfl, rfl, rfl, rfl, rfl⟩, fun j hj => ?_, ⟨fun ht => by simp [turnsOp, ho] at ht, fun j hj hn => ?_⟩, ?_⟩
      · have h1 : j ≠ S.nb := fun he => hj (by simp [he])
        have h2 : j ≠ k := fun he => hj (by simp [he, hkk])
        simp [St.setB, St.dropB, upd, h1, h2]
      · simp only [St.setB, St.dropB, upd, hj, if_false]; split <;> simp_all
      intro ρf hE w0 ok0 fs stk β nt tm bl a w H hag hbl hβ hbid K' Q' hk'
      have hEf := hE'.trans hE
      have hβk : β k = some (a.eval x) := H.one (x := x) (c := .own k) (by rw [hag x hm]; exact hx)
      obtain ⟨v, n, cells, g1, g2, xs, hown, hxl, hxc⟩ := H.hbl k _ ((hbl k hkk).trans hbk)
      rw [hβk] at g1; cases g1
      obtain ⟨dh, hdh, hrh⟩ := H.one (x := y) (by rw [hag y (hmh y rfl)]; exact hy)
      obtain ⟨dm, hdm, hrm⟩ := H.one (x := m) (by rw [hag m (hmm m rfl)]; exact hmx)
      rw [hdh] at hdm; cases hdm
      simp only [List.all_cons, List.all_nil, Bool.and_true, Bool.and_eq_true] at hlt
      have e1 := ev_of_ext hlt.1 hl hEf g2
      have e3 := ev_of_ext hlt.2.2 hl hEf hdh
      have e2 : (A.int .i64 0).ev ρ = .int .i64 0 := rfl
      simp only [List.map_cons, List.map_nil, e1, e2, e3] at hd
      cases dh <;> try (simp [Prim.den] at hd; done)
      rename_i kh hv
      simp only [Prim.den] at hd
      split at hd
      · rename_i hb
        obtain ⟨_, b1, b2, b3⟩ := hb
        simp only [Option.some.injEq] at hd
        obtain ⟨ad, cap, hvx, hcap⟩ := ownsR_slice hown
        have hnat : (hv.toNat : Int) = hv := Int.toNat_of_nonneg b1
        have hrun := run_sl (P := P) hu hs (w := w) (ad := ad) (n := n) (cap := cap) (lo := none) (hi := some (a.eval y)) (mx := some (a.eval m)) (l := 0) (h := hv.toNat) (m := hv.toNat) (.inl ⟨rfl, rfl⟩) (.inr ⟨kh, by rw [reads_int hrh, hnat]⟩)
          (.inr ⟨by simp, rfl, kh, by rw [reads_int hrm, hnat]⟩) (by omega) (by omega) hcap
        have hrun' : (execOp a.eval o).run P w = .ok (.value (sliced ad 0 hv.toNat hv.toNat s)) w := by
          simp only [execOp, ho, hvx]
          simp [hrun]
        have hle : hv.toNat ≤ n := by omega
        have hms : hv.toNat * s ≤ n * s := Nat.mul_le_mul_right _ hle
        have hsl : sliced ad 0 hv.toNat hv.toNat s = .slice ad hv.toNat hv.toNat := by
          unfold sliced
          have : (ad.map fun z => z.add (0 * s)) = ad := by cases ad <;> simp [Addr.add]
          simp only [Nat.sub_zero, this, ite_self]
        have hcells : d = .list hv.toNat (cells.take (hv.toNat * s)) := by
          rw [← hd]; simp
        have hown2 : w.ownsR w0.own e s (.slice ad hv.toNat hv.toNat) hv.toNat (xs.take (hv.toNat * s)) := by
          refine ⟨by rw [List.length_take, hown.1]; omega, ?_⟩
          rcases hown.2 with ⟨h0, hn0⟩ | ⟨g, cap', cur, h1, h2, h3, h4, h5, h6, h7⟩
          · rw [hvx] at h0; cases h0
            have : hv.toNat = 0 := by omega
            exact .inl ⟨by rw [this], this⟩
          · rw [hvx] at h1; cases h1
            refine .inr ⟨g, hv.toNat, cur, rfl, h2, h3, Nat.le_refl _, by omega, Nat.le_trans (Nat.le_trans hms (Nat.mul_le_mul_right _ h4)) h6, ?_⟩
            rw [← h7, List.take_take, Nat.min_eq_left hms]
        have hx' : (A.var S.nv).rd ρf = some (.list hv.toNat (cells.take (hv.toNat * s))) := by rw [A.rd_ext hE hz', hcells]
        have hp2 : patch bl ((({ S with nv := S.nv + 1 } : St).dropB k).setB S.nb (.own (.var S.nv) s e)).bl (S.nb :: ks) = upd (dropO bl (some k)) S.nb (some (.own (.var S.nv) s e)) := patch_cut hkk hbl
        have HT := H.own_turn (k0 := some k) (v := a.eval x) (v' := .slice ad hv.toNat hv.toNat) (w' := w) hβ hbid hx' ⟨⟨rfl, rfl, rfl, Nat.le_refl _, fun _ _ _ => rfl⟩, Nat.le_refl _⟩ (fun b hb => .inr (by rw [hvx]; cases ad <;> exact hb))
          (.inr ⟨k, _, rfl, (hbl k hkk).trans hbk, rfl, hβk⟩) hown2 (by simp [hxl]) (fun j dd hj => by
            rw [List.getElem?_take] at hj ⊢
            split at hj
            · rename_i hjl; rw [if_pos hjl]; exact hxc j dd hj
            · cases hj)
        rw [hsl] at hrun'
        refine wp_value hrun' (hk' _ _ w (by rw [hp2]; exact HT) (upd_none β hβ).1 (upd_none β hβ).2 fun s' hs' => ?_)
        cases hs'
        simp [SVRep, S1Rep, CRep, upd]
      · cases hd
    · -- for a call that is walked into
      rename_i k xa ha hcut
      obtain ⟨rfl, hbk, ⟨y, rfl, hy⟩, _, hmx⟩ := ownCut_some hcut
      have hmx := hmx rfl
      subst hmx
      have hkk : k ∈ ks := hks k (named_mem hm (by rw [hx]; simp [SV.blocks, Px.S1.cells, C.blocks]))
      split at h
      · rename_i la hla
        obtain ⟨d, ir', hlt, hd, hK, hw', hE', hl', hz'⟩ := emit_sound h hw hl
        refine OpOut.plain hE' hl' hK hw' hid fun ρf hE w0 ok0 fs stk β nt tm bl a w H hag hbl => ?_
        have hEf := hE'.trans hE
        have hβk : β k = some (a.eval x) := H.one (x := x) (c := .own k) (by rw [hag x hm]; exact hx)
        obtain ⟨v, n, cells, g1, g2, xs, hown, hxl, hxc⟩ := H.hbl k _ ((hbl k hkk).trans hbk)
        rw [hβk] at g1; cases g1
        obtain ⟨dh, hdh, hrh⟩ := H.one (x := y) (by rw [hag y (hmh y rfl)]; exact hy)
        simp only [List.all_cons, List.all_nil, Bool.and_true, Bool.and_eq_true] at hlt
        obtain ⟨dl, hdl⟩ := rd_of_lt hlt.2.1 hl
        have e1 := ev_of_ext hlt.1 hl hEf g2
        have e3 := ev_of_ext hlt.2.2 hl hEf hdh
        simp only [List.map_cons, List.map_nil, e1, e3, A.ev_of_rd hdl] at hd
        cases dl <;> try (simp [Prim.den] at hd; done)
        rename_i kl lv
        cases dh <;> try (simp [Prim.den] at hd; done)
        rename_i kh hv
        simp only [Prim.den] at hd
        split at hd
        · rename_i hb
          obtain ⟨b0, b1, b2, b3⟩ := hb
          simp only [Option.some.injEq] at hd
          obtain ⟨ad, cap, hvx, hcap⟩ := ownsR_slice hown
          have hnat : (hv.toNat : Int) = hv := Int.toNat_of_nonneg (by omega)
          have hnatl : (lv.toNat : Int) = lv := Int.toNat_of_nonneg b0
          have el : lo.map a.eval = none ∧ lv.toNat = 0 ∨ ∃ k, lo.map a.eval = some (.int k (lv.toNat : Int)) := by
            cases lo with
            | none =>
              simp only [boundA, Option.some.injEq] at hla
              subst hla
              simp only [A.rd, Option.some.injEq] at hdl
              cases hdl
              exact .inl ⟨rfl, rfl⟩
            | some z =>
              obtain ⟨d', hd', hr⟩ := H.one (x := z) (by rw [hag z (hml z rfl)]; exact bound_some hla)
              rw [A.rd_ext hEf hdl] at hd'; cases hd'
              exact .inr ⟨kl, by simp [reads_int hr]; omega⟩
          have hrun := run_sl (P := P) hu hs (w := w) (ad := ad) (n := n) (cap := cap) (lo := lo.map a.eval) (hi := some (a.eval y)) (mx := none) (l := lv.toNat) (h := hv.toNat) (m := cap) el (.inr ⟨kh, by rw [reads_int hrh, hnat]⟩)
            (.inl ⟨rfl, rfl⟩) (by omega) (by omega) hcap
          have hrun' : (execOp a.eval o).run P w = .ok (.value (sliced ad lv.toNat hv.toNat cap s)) w := by
            simp only [execOp, ho, hvx]
            simp [hrun]
          refine ⟨_, hrun', fun s' hs' => ?_⟩
          cases hs'
          rcases hown.2 with ⟨h0, hn0⟩ | ⟨g, cap', cur, h1, h2, h3, h4, h5, h6, h7⟩
          · rw [hvx] at h0; cases h0
            have hh0 : hv.toNat = 0 := by omega
            have hl0 : lv.toNat = 0 := by omega
            refine ⟨none, 0, 0, kl, lv, .i64, hv - lv, none, 0, by rw [hβk, hvx, hn0], A.rd_ext hEf hdl, by rw [A.rd_ext hE hz', ← hd], b0, by omega, by omega, ?_, fun hpos => by omega, rfl⟩
            have : (hv - lv).toNat = 0 := by omega
            simp [sliced, hh0, hl0, this]
          · rw [hvx] at h1; cases h1
            refine ⟨some ⟨g, 0, none⟩, n, cap, kl, lv, .i64, hv - lv, (if cap = lv.toNat then some ⟨g, 0, none⟩ else (some ⟨g, 0, none⟩ : Option Addr).map (·.add (lv.toNat * s))), cap - lv.toNat, by rw [hβk, hvx], A.rd_ext hEf hdl, by rw [A.rd_ext hE hz', ← hd], b0, by omega, by omega, ?_, fun hpos => ?_, rfl⟩
            · unfold sliced
              have : (hv - lv).toNat = hv.toNat - lv.toNat := by omega
              rw [this]
            · have hne : ¬ cap = lv.toNat := by omega
              exact ⟨g, rfl, by simp [hne, Addr_plain]⟩
        · cases hd
      · cases h
    split at h
    · rename_i xa S1 hA
      obtain ⟨eS, uS, nS⟩ := toA_facts hA
      have hnv : S1.nv = S.nv := by rw [eS]
      have hev : ∀ (n : Nat) (y : Operand), ({ S1 with nv := n } : St).ev y = S.ev y := fun n y => by rw [St.ev_eq, St.ev_eq, eS]
      have hfb : ∀ k ∈ c.blocks, k ∈ ks := fun k hk => hks k (named_mem hm (by rw [hx]; simpa [SV.blocks, Px.S1.cells] using hk))
      have tail : ∀ (ha : A) (n2 : Nat) (ρ2 : List DV) (ir2 : IR), Ext ρ ρ2 → ρ2.length = n2 → IRwp P As ρ2 ir2 Q →
          (match boundA lo { S1 with nv := n2 } (some (.int .i64 0)), boundA mx { S1 with nv := n2 } (some ha) with
            | some la, some ma => if ma = ha then prim (.slc s) [xa, la, ha] { S1 with nv := n2 } fun z S => K (some (.s (.one (if mx.isSome then .ful z else .at z)))) S else none
            | _, _ => none) = some ir2 →
          (hi = none ∧ mx = none ∧ (∃ n cells, xa.rd ρ2 = some (.list n cells) ∧ ha.rd ρ2 = some (.int .i64 n)) ∨ ∃ y, hi = some y ∧ S.ev y = some (.s (.one (.at ha)))) → OpOut P o S.nb S ks K As ρ Q := by
        intro ha n2 ρ2 ir2 hE2 hl2 hw2 h hhi
        split at h
        · rename_i la ma hla hma
          split at h
          · rename_i hmh2
            subst hmh2
            obtain ⟨z, d, n3, ρ3, ir3, hlt, hd, hK, hw3, hE3, hl3, hz⟩ := prim_sound h hw2 hl2
            simp only [List.all_cons, List.all_nil, Bool.and_true, Bool.and_eq_true] at hlt
            obtain ⟨dx, hdx⟩ := rd_of_lt hlt.1 hl2
            obtain ⟨dl, hdl⟩ := rd_of_lt hlt.2.1 hl2
            obtain ⟨dh, hdh⟩ := rd_of_lt hlt.2.2 hl2
            simp only [List.map_cons, List.map_nil, A.ev_of_rd hdx, A.ev_of_rd hdl, A.ev_of_rd hdh] at hd
            cases dx <;> try (simp [Prim.den] at hd; done)
            rename_i n cells
            cases dl <;> try (simp [Prim.den] at hd; done)
            rename_i kl lv
            cases dh <;> try (simp [Prim.den] at hd; done)
            rename_i kh hv
            simp only [Prim.den] at hd
            split at hd
            · rename_i hb
              obtain ⟨b0, b1, b2, b3⟩ := hb
              simp only [Option.some.injEq] at hd
              refine ⟨ρ3, _, { S1 with nv := n3 }, ir3, hE2.trans hE3, hl3, hK, hw3, by rw [eS]; exact ⟨rfl, rfl, rfl, rfl, rfl⟩, fun k hk => uS k fun hk2 => hk (by simp [hfb k hk2]), ⟨fun ht => by simp [turnsOp, ho] at ht, fun k _ h => nS k h⟩, ?_⟩
              intro ρf hE w0 ok0 fs stk β nt tm bl a w H hag hbl hβ hbid K' Q' hk'
              have hEf := hE3.trans hE
              obtain ⟨_, _, f⟩ := toA_sound (w0 := w0) (ok0 := ok0) (fs := fs) (stk := stk) (ρ := ρf) (β := β) (nt := nt) (tm := tm) (bl := bl) (a := a) (w := w) hA
              obtain ⟨HM, hmono, d0, hd0, hr0⟩ := f H (fun k hk => hbl k (hfb k hk)) (a.eval x) (H.one (x := x) (by rw [hag x hm]; exact hx))
              rw [A.rd_ext hEf hdx] at hd0; cases hd0
              obtain ⟨ad, cap, hvx, hcap, _⟩ := reads_list hr0
              have eval1 : ∀ (y : Operand) (q : A) (dq : DV), y ∈ o.op.operands → S.ev y = some (.s (.one (.at q))) → q.rd ρ2 = some dq → Reads (okS w0 ok0 bl β) w dq (a.eval y) := by
                intro y q dq hy hey hq
                obtain ⟨d', hd', hr⟩ := H.one (x := y) (by rw [hag y hy]; exact hey)
                rw [A.rd_ext hEf hq] at hd'; cases hd'
                exact hr
              have el : lo.map a.eval = none ∧ lv.toNat = 0 ∨ ∃ k, lo.map a.eval = some (.int k (lv.toNat : Int)) := by
                cases lo with
                | none =>
                  simp only [boundA, Option.some.injEq] at hla
                  subst hla
                  simp only [A.rd, Option.some.injEq] at hdl
                  cases hdl
                  exact .inl ⟨rfl, rfl⟩
                | some y =>
                  have := reads_int (eval1 y la _ (hml y rfl) (by rw [← hev n2 y]; exact bound_some hla) hdl)
                  exact .inr ⟨kl, by simp [this]; omega⟩
              have eh : hi.map a.eval = none ∧ hv.toNat = n ∧ mx.map a.eval = none ∨ ∃ k, hi.map a.eval = some (.int k (hv.toNat : Int)) := by
                rcases hhi with ⟨rfl, rfl, n', cells', e1, e2⟩ | ⟨y, rfl, hey⟩
                · rw [hdx] at e1; cases e1
                  rw [hdh] at e2; cases e2
                  exact .inl ⟨rfl, by simp, rfl⟩
                · have := reads_int (eval1 y ma _ (hmh y rfl) hey hdh)
                  exact .inr ⟨kh, by simp [this]; omega⟩
              have em : mx.map a.eval = none ∧ (if mx.isSome then hv.toNat else cap) = cap ∨ mx.map a.eval ≠ none ∧ (if mx.isSome then hv.toNat else cap) = hv.toNat ∧ ∃ k, mx.map a.eval = some (.int k (((if mx.isSome then hv.toNat else cap) : Nat) : Int)) := by
                cases mx with
                | none => exact .inl ⟨rfl, by simp⟩
                | some y =>
                  have := reads_int (eval1 y ma _ (hmm y rfl) (by rw [← hev n2 y]; exact bound_some hma) hdh)
                  exact .inr ⟨by simp, by simp, kh, by simp [this]; omega⟩
              have hrun := run_sl (P := P) hu hs (w := w) (ad := ad) (n := n) (cap := cap) el eh em (by omega) (by omega) hcap
              have hrun' : (execOp a.eval o).run P w = .ok (.value (sliced ad lv.toNat hv.toNat (if mx.isSome then hv.toNat else cap) s)) w := by
                simp only [execOp, ho, hvx]
                simp [hrun]
              have hp2 : patch bl S1.bl (S.nb :: ks) = patch bl S1.bl c.blocks := patch_wide (b0 := S.bl) (fun k hk => by simp [hfb k hk]) (fun k hk => by
                rcases List.mem_cons.1 hk with rfl | hk
                · rw [hbid, hid]
                · exact hbl k hk) uS
              rw [hvx] at hr0
              have hsl := sl_reads hr0 b3 (l := lv.toNat) (h := hv.toNat) (m := if mx.isSome then hv.toNat else cap) (by omega) (by omega) (by split <;> omega)
              have hdz : d = .list (hv.toNat - lv.toNat) ((cells.drop (lv.toNat * s)).take ((hv.toNat - lv.toNat) * s)) := by
                rw [← hd]
                have : (hv - lv).toNat = hv.toNat - lv.toNat := by omega
                rw [this]
              refine wp_value hrun' (hk' _ β _ (by show RM w0 ok0 fs stk ρf β nt tm (patch bl S1.bl (S.nb :: ks)) a _; rw [hp2]; exact HM) (fun _ _ h => h) (fun _ _ => rfl) fun s' hs' => ?_)
              cases hs'
              show CRep ρf β (okS w0 ok0 (patch bl S1.bl (S.nb :: ks)) β) w _ _
              rw [hp2]
              cases mx with
              | none => exact ⟨d, A.rd_ext hE hz, by rw [hdz]; exact hsl⟩
              | some y => exact ⟨d, A.rd_ext hE hz, by rw [hdz]; exact hsl, _, _, rfl⟩
            · cases hd
          · cases h
        · cases h
      cases hi with
      | none =>
        simp only at h
        split at h
        · cases h
        · rename_i hmx
          have hmx0 : mx = none := by cases mx with | none => rfl | some y => exact absurd rfl hmx
          obtain ⟨z, d, n2, ρ2, ir2, hlt, hd, hK, hw2, hE2, hl2, hz⟩ := prim_sound h hw (by rw [hnv]; exact hl)
          refine tail z n2 ρ2 ir2 hE2 hl2 hw2 (by subst hmx0; exact hK) (.inl ⟨rfl, hmx0, ?_⟩)
          simp only [List.all_cons, List.all_nil, Bool.and_true] at hlt
          rw [hnv] at hlt
          obtain ⟨dx, hdx⟩ := rd_of_lt hlt hl
          simp only [List.map_cons, List.map_nil, A.ev_of_rd hdx] at hd
          cases dx <;> try (simp [Prim.den] at hd; done)
          rename_i n cells
          simp only [Prim.den, Option.some.injEq] at hd
          exact ⟨n, cells, A.rd_ext hE2 hdx, by rw [hz, hd]⟩
      | some y =>
        simp only at h
        split at h
        · rename_i z hz
          exact tail z S1.nv ρ ir (Ext.refl _) (by rw [hnv]; exact hl) hw h (.inr ⟨y, rfl, by have := bound_some hz; rw [← hev S1.nv y]; exact this⟩)
        · cases h
    · cases h
  · cases h

/-- EVERY OPERATION. -/
theorem symOp_sound {asArg : Nat} (hks : blind o.op = false → ∀ k ∈ namedOf S o.op, k ∈ ks) (h : symOp P o asArg S.nb S K = some ir) (hk : KnOK S.kn ρ) (hw : IRwp P As ρ ir Q) (hl : ρ.length = S.nv) (hid : S.bl S.nb = none) : OpOut P o S.nb S ks K As ρ Q := by
  have hf : (∀ t len ps, o.op ≠ .buildSlice t len ps) → (∀ t x lo hi mx, o.op ≠ .slice t x lo hi mx) → symOp P o 0 S.nb S K = some ir := fun hne hne2 => by
    unfold symOp at h ⊢
    split at h <;> first | (rename_i he; exact absurd he (hne2 _ _ _ _ _)) | (simp_all; done)
  cases ho : o.op
  case move x => exact op_move (.inl ho) (by have := hf (by simp [ho]) (by simp [ho]); simpa only [symOp, ho] using this) hw hl hid
  case assign x => exact op_move (.inr ho) (by have := hf (by simp [ho]) (by simp [ho]); simpa only [symOp, ho] using this) hw hl hid
  case pick c x y => exact op_pick ho (hf (by simp [ho]) (by simp [ho])) hk hw hl hid
  case alloc T => exact op_alloc ho (hf (by simp [ho]) (by simp [ho])) hw hl
  case box T x => exact op_box ho (hf (by simp [ho]) (by simp [ho])) hw hl
  case build t ps => exact op_build ho (hf (by simp [ho]) (by simp [ho])) hw hl hid
  case buildSlice t len ps => exact op_buildSlice ho (hks (by rw [ho]; rfl)) h hw hl hid
  case panic x =>
    simp only [symOp, ho] at h
    cases h
    exact hw.elim
  case load T x => exact op_load ho (hks (by rw [ho]; rfl)) (hf (by simp [ho]) (by simp [ho])) hw hl hid
  case store T x y => exact op_store ho (hks (by rw [ho]; rfl)) (hf (by simp [ho]) (by simp [ho])) hw hl hid
  case nilCheck x => exact op_nilCheck ho (hf (by simp [ho]) (by simp [ho])) hw hl hid
  case binOp op t x y ty => exact op_binOp ho (hf (by simp [ho]) (by simp [ho])) hw hl hid
  case unOp op t x => exact op_unOp ho (hf (by simp [ho]) (by simp [ho])) hw hl hid
  case convert src dst x => exact op_convert ho (hf (by simp [ho]) (by simp [ho])) hw hl hid
  case makeSlice t l c => exact op_makeSlice ho (hf (by simp [ho]) (by simp [ho])) hw hl hid
  case slice t x lo hi mx => exact op_slice ho (hks (by rw [ho]; rfl)) h hw hl hid
  case fieldAddr t x f => exact op_fieldAddr ho (hf (by simp [ho]) (by simp [ho])) hw hl hid
  case field t x f => exact op_field ho (hf (by simp [ho]) (by simp [ho])) hw hl hid
  case indexAddr t x i => exact op_indexAddr ho (hks (by rw [ho]; rfl)) (hf (by simp [ho]) (by simp [ho])) hw hl hid
  case index t x i => exact op_index ho (hf (by simp [ho]) (by simp [ho])) hw hl hid
  case extract x i => exact op_extract ho (hf (by simp [ho]) (by simp [ho])) hw hl hid
  case makeFunc fn first caps => exact op_makeFunc ho (hf (by simp [ho]) (by simp [ho])) hw hl hid
  case call c =>
    have h' := hf (by simp [ho]) (by simp [ho])
    obtain ⟨callee, args, argTypes⟩ := c
    cases callee with
    | builtin b =>
      simp only [symOp, ho] at h'
      cases b
      case len => exact op_len ho (hks (by rw [ho]; rfl)) h' hw hl hid
      case append => exact op_append ho (hks (by rw [ho]; rfl)) h' hw hl hid
      case min => exact op_minmax (.inl rfl) ho h' hw hl hid
      case max => exact op_minmax (.inr rfl) ho h' hw hl hid
      all_goals (simp [symBuiltin] at h')
    | value x => exact op_call ho rfl (hks (by rw [ho]; rfl)) h' hw hl hid
    | _ => simp [symOp, ho] at h'
  all_goals (simp [symOp, ho] at h)

end
end Go.Px

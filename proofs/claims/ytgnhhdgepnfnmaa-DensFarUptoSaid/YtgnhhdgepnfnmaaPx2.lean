/- Px2: what it is for a machine's state to be as a symbolic state says; how that lives on when memory grows, when a block of the call's own is written, when an own row is frozen. -/
import Derived.Test.YtgnhhdgepnfnmaaPx1
namespace Go.Px
open Go.RowKit

theorem Addr_add_add (a : Addr) (m n : Nat) : (a.add m).add n = a.add (m + n) := by
  unfold Addr.add
  by_cases hm : m = 0
  · subst hm; simp
  · by_cases hn : n = 0
    · subst hn; simp
    · have : ¬ (m + n = 0) := by omega
      simp [hm, hn, Nat.add_assoc]

theorem Addr_add_block (a : Addr) (m : Nat) : (a.add m).block = a.block := by
  unfold Addr.add; split <;> rfl

theorem Addr_plain (b m : Nat) : (⟨b, 0, none⟩ : Addr).add m = ⟨b, m, none⟩ := by
  unfold Addr.add; split
  · rename_i h; subst h; rfl
  · simp

theorem Addr_off (b o m : Nat) : (⟨b, o, none⟩ : Addr).add m = ⟨b, o + m, none⟩ := by
  unfold Addr.add; split
  · rename_i h; subst h; rfl
  · rfl

theorem cell?_block {w : World} {a : Addr} {v : Value} (h : w.cell? a = some v) : ∃ arr T fz, w.heap[a.block]? = some (.cells arr T fz) := by
  unfold World.cell? at h
  split at h
  · exact ⟨_, _, _, by assumption⟩
  · cases h

theorem cell?_same {w w' : World} {a : Addr} (h : w'.heap[a.block]? = w.heap[a.block]?) : w'.cell? a = w.cell? a := by
  unfold World.cell?; rw [h]

theorem Reads.imp {ok ok' : Nat → Prop} {w w' : World} (h : ∀ b o, ok b → w.heap[b]? = some o → ok' b ∧ w'.heap[b]? = some o) {d : DV} {v : Value}
    (hr : Reads ok w d v) : Reads ok' w' d v := by
  induction hr with
  | bool b => exact .bool b
  | int k n => exact .int k n
  | list n cells a cap f hcap hmem hrr ih =>
    refine .list n cells a cap f hcap (fun hne => ?_) ih
    obtain ⟨ad, ha, hok, hc⟩ := hmem hne
    have h0 : 0 < cells.length := List.length_pos_iff.2 hne
    have hb : ∃ o, w.heap[ad.block]? = some o := by
      obtain ⟨arr, T, fz, hh⟩ := cell?_block (hc 0 h0)
      rw [Addr_add_block] at hh
      exact ⟨_, hh⟩
    obtain ⟨o, ho⟩ := hb
    obtain ⟨hok', ho'⟩ := h _ _ hok ho
    refine ⟨ad, ha, hok', fun j hj => ?_⟩
    rw [cell?_same (w := w) (by rw [Addr_add_block, ho, ho'])]
    exact hc j hj

theorem Reads.mono {ok ok' : Nat → Prop} {w : World} (h : ∀ b, ok b → ok' b) {d : DV} {v : Value} (hr : Reads ok w d v) : Reads ok' w d v :=
  hr.imp fun b _ hb ho => ⟨h b hb, ho⟩

/-- What an atom is, if it is one. -/
def A.rd (ρ : List DV) : A → Option DV
  | .var i => ρ[i]?
  | .bol x => some (.bool x)
  | .int k n => some (.int k n)
  | .nil => some (.list 0 [])
theorem A.ev_of_rd {ρ : List DV} {a : A} {d : DV} (h : a.rd ρ = some d) : a.ev ρ = d := by
  cases a <;> simp_all [A.rd, A.ev]

/-- One environment goes on with another. -/
def Ext (ρ ρ' : List DV) : Prop := ∀ (i : Nat) (d : DV), ρ[i]? = some d → ρ'[i]? = some d
theorem Ext.refl (ρ : List DV) : Ext ρ ρ := fun _ _ h => h
theorem Ext.trans {a b c : List DV} (h : Ext a b) (k : Ext b c) : Ext a c := fun i d hd => k i d (h i d hd)
theorem Ext.app (ρ l : List DV) : Ext ρ (ρ ++ l) := fun i d h => by
  rw [List.getElem?_append_left]
  · exact h
  · exact (List.getElem?_eq_some_iff.1 h).1
theorem A.rd_ext {ρ ρ' : List DV} (h : Ext ρ ρ') {a : A} {d : DV} (hd : a.rd ρ = some d) : a.rd ρ' = some d := by
  cases a <;> simp_all [A.rd]
  exact h _ _ hd

def Blk.mut : Blk → Bool
  | .box _ _ ro => !ro
  | .own _ _ _ => true
  | .fro _ => false

abbrev Bm := Nat → Option Value

/-- The blocks by whose cells data may be read: those that were let, and new ones, but none that is still written. -/
def okS (w0 : World) (ok0 : Nat → Prop) (bl : Nat → Option Blk) (β : Bm) (b : Nat) : Prop :=
  (ok0 b ∨ w0.heap.size ≤ b) ∧ ∀ k blk v, bl k = some blk → blk.mut = true → β k = some v → blockOf v ≠ some b

def _root_.Go.Value.notAgg (v : Value) : Prop := ∀ cs, v ≠ .agg cs

def CRep (ρ : List DV) (β : Bm) (ok : Nat → Prop) (w : World) : C → Value → Prop
  | .at a, v => ∃ d, a.rd ρ = some d ∧ Reads ok w d v
  | .nils, v => v = .slice none 0 0
  | .ful a, v => ∃ d, a.rd ρ = some d ∧ Reads ok w d v ∧ ∃ ad n, v = .slice ad n n
  | .lp k off, v => ∃ b, β k = some (.pointer (some ⟨b, 0, none⟩)) ∧ v = .pointer (some ⟨b, off, none⟩)
  | .fp x i s off, v => ∃ n cells kI iv ad cap, x.rd ρ = some (.list n cells) ∧ i.rd ρ = some (.int kI iv) ∧ 0 ≤ iv ∧ iv < (n : Int) ∧ (iv.toNat + 1) * s ≤ cells.length ∧
      Reads ok w (.list n cells) (.slice (some ad) n cap) ∧ v = .pointer (some (ad.add (iv.toNat * s + off)))
  | .own k, v => β k = some v
  | .op k i s off, v => ∃ b n cap kI iv, β k = some (.slice (some ⟨b, 0, none⟩) n cap) ∧ i.rd ρ = some (.int kI iv) ∧ 0 ≤ iv ∧ iv < (n : Int) ∧ v = .pointer (some ⟨b, iv.toNat * s + off, none⟩)
  | .sub k lo n s, v => ∃ adk nk capk kI lv kJ nv ad cap, β k = some (.slice adk nk capk) ∧ lo.rd ρ = some (.int kI lv) ∧ n.rd ρ = some (.int kJ nv) ∧ 0 ≤ lv ∧ 0 ≤ nv ∧ lv + nv ≤ (nk : Int) ∧ v = .slice ad nv.toNat cap ∧ (0 < nv → ∃ b, adk = some ⟨b, 0, none⟩ ∧ ad = some ⟨b, lv.toNat * s, none⟩) ∧ kJ = .i64
  | .fn f ks, v => ∃ caps : Array Value, v = .func (.func f) #[] caps ∧ caps.size = ks.length ∧ ∀ (j k : Nat), ks[j]? = some k → ∃ b, β k = some (.pointer (some ⟨b, 0, none⟩)) ∧ caps[j]? = some (.pointer (some ⟨b, 0, none⟩))
  | .np, v => v = .pointer none
  | .und, v => v = undef
  | .unk, v => v.notAgg

/-- Cells, one by one. -/
def CsRep (ρ : List DV) (β : Bm) (ok : Nat → Prop) (w : World) (cs : List C) (arr : Array Value) : Prop :=
  arr.size = cs.length ∧ ∀ (j : Nat) (c : C), cs[j]? = some c → ∃ u, arr[j]? = some u ∧ CRep ρ β ok w c u

def S1Rep (ρ : List DV) (β : Bm) (ok : Nat → Prop) (w : World) : S1 → Value → Prop
  | .one c, v => CRep ρ β ok w c v
  | .agg cs, v => ∃ vs, v = .agg vs ∧ CsRep ρ β ok w cs vs

def SVRep (ρ : List DV) (β : Bm) (ok : Nat → Prop) (w : World) : SV → Value → Prop
  | .s x, v => S1Rep ρ β ok w x v
  | .tup l, v => ∃ vs : Array Value, v = .tuple vs ∧ vs.size = l.length ∧ ∀ (j : Nat) (x : S1), l[j]? = some x → ∃ u, vs[j]? = some u ∧ S1Rep ρ β ok w x u


theorem notAgg_of_one {v : Value} (h : v.oneCell' = true) : v.notAgg := by
  intro cs e; subst e; cases h

theorem Reads.notAgg {ok : Nat → Prop} {w : World} {d : DV} {v : Value} (h : Reads ok w d v) : v.notAgg := by
  cases h <;> intro cs e <;> cases e

theorem CRep.notAgg {ρ : List DV} {β : Bm} {ok : Nat → Prop} {w : World} {c : C} {v : Value} (h : CRep ρ β ok w c v) (hβ : ∀ k v, β k = some v → v.notAgg) : v.notAgg := by
  cases c <;> simp only [CRep] at h
  case «at» a => obtain ⟨d, _, hr⟩ := h; exact hr.notAgg
  case nils => subst h; intro cs e; cases e
  case ful a => obtain ⟨d, _, hr, _⟩ := h; exact hr.notAgg
  case lp k off => obtain ⟨b, _, rfl⟩ := h; intro cs e; cases e
  case fp x i s off => obtain ⟨_, _, _, _, _, _, _, _, _, _, _, _, rfl⟩ := h; intro cs e; cases e
  case own k => exact hβ _ _ h
  case op k i s off => obtain ⟨_, _, _, _, _, _, _, _, _, rfl⟩ := h; intro cs e; cases e
  case sub k lo n s => obtain ⟨_, _, _, _, _, _, _, _, _, _, _, _, _, _, _, rfl, _⟩ := h; intro cs e; cases e
  case fn f ks => obtain ⟨_, rfl, _⟩ := h; intro cs e; cases e
  case np => subst h; intro cs e; cases e
  case und => subst h; intro cs e; cases e
  case unk => exact h

theorem CRep.imp {ρ ρ' : List DV} {β β' : Bm} {ok ok' : Nat → Prop} {w w' : World} (hρ : Ext ρ ρ') (hβ : ∀ k v, β k = some v → β' k = some v)
    (h : ∀ b o, ok b → w.heap[b]? = some o → ok' b ∧ w'.heap[b]? = some o) {c : C} {v : Value} (hc : CRep ρ β ok w c v) : CRep ρ' β' ok' w' c v := by
  cases c <;> simp only [CRep] at hc ⊢
  case «at» a => obtain ⟨d, hd, hr⟩ := hc; exact ⟨d, A.rd_ext hρ hd, hr.imp h⟩
  case nils => exact hc
  case ful a => obtain ⟨d, hd, hr, hf⟩ := hc; exact ⟨d, A.rd_ext hρ hd, hr.imp h, hf⟩
  case lp k off => obtain ⟨b, hb, hv⟩ := hc; exact ⟨b, hβ _ _ hb, hv⟩
  case fp x i s off =>
    obtain ⟨n, cells, kI, iv, ad, cap, h1, h2, h3, h4, h5, h6, h7⟩ := hc
    exact ⟨n, cells, kI, iv, ad, cap, A.rd_ext hρ h1, A.rd_ext hρ h2, h3, h4, h5, h6.imp h, h7⟩
  case own k => exact hβ _ _ hc
  case op k i s off =>
    obtain ⟨b, n, cap, kI, iv, h1, h2, h3, h4, h5⟩ := hc
    exact ⟨b, n, cap, kI, iv, hβ _ _ h1, A.rd_ext hρ h2, h3, h4, h5⟩
  case sub k lo n s =>
    obtain ⟨b, nk, capk, kI, lv, kJ, nv, ad, cap, h1, h2, h3, h4⟩ := hc
    exact ⟨b, nk, capk, kI, lv, kJ, nv, ad, cap, hβ _ _ h1, A.rd_ext hρ h2, A.rd_ext hρ h3, h4⟩
  case fn f ks =>
    obtain ⟨caps, h1, h2, h3⟩ := hc
    exact ⟨caps, h1, h2, fun j k hk => let ⟨b, hb, hc⟩ := h3 j k hk; ⟨b, hβ _ _ hb, hc⟩⟩
  case np => exact hc
  case und => exact hc
  case unk => exact hc

theorem CsRep.imp {ρ ρ' : List DV} {β β' : Bm} {ok ok' : Nat → Prop} {w w' : World} (hρ : Ext ρ ρ') (hβ : ∀ k v, β k = some v → β' k = some v)
    (h : ∀ b o, ok b → w.heap[b]? = some o → ok' b ∧ w'.heap[b]? = some o) {cs : List C} {arr : Array Value} (hc : CsRep ρ β ok w cs arr) : CsRep ρ' β' ok' w' cs arr :=
  ⟨hc.1, fun j c hj => let ⟨u, hu, hr⟩ := hc.2 j c hj; ⟨u, hu, hr.imp hρ hβ h⟩⟩

theorem S1Rep.imp {ρ ρ' : List DV} {β β' : Bm} {ok ok' : Nat → Prop} {w w' : World} (hρ : Ext ρ ρ') (hβ : ∀ k v, β k = some v → β' k = some v)
    (h : ∀ b o, ok b → w.heap[b]? = some o → ok' b ∧ w'.heap[b]? = some o) {x : S1} {v : Value} (hc : S1Rep ρ β ok w x v) : S1Rep ρ' β' ok' w' x v := by
  cases x with
  | one c => exact CRep.imp hρ hβ h hc
  | agg cs => obtain ⟨vs, hv, hr⟩ := hc; exact ⟨vs, hv, hr.imp hρ hβ h⟩

theorem SVRep.imp {ρ ρ' : List DV} {β β' : Bm} {ok ok' : Nat → Prop} {w w' : World} (hρ : Ext ρ ρ') (hβ : ∀ k v, β k = some v → β' k = some v)
    (h : ∀ b o, ok b → w.heap[b]? = some o → ok' b ∧ w'.heap[b]? = some o) {x : SV} {v : Value} (hc : SVRep ρ β ok w x v) : SVRep ρ' β' ok' w' x v := by
  cases x with
  | s x => exact S1Rep.imp hρ hβ h hc
  | tup l => obtain ⟨vs, hv, hs, hr⟩ := hc; exact ⟨vs, hv, hs, fun j x hj => let ⟨u, hu, hq⟩ := hr j x hj; ⟨u, hu, hq.imp hρ hβ h⟩⟩

theorem _root_.Go.World.ownsR_nil (w : World) (base : Nat) (e : TypeId) (size : Nat) : w.ownsR base e size (.slice none 0 0) 0 [] := ⟨by simp, .inl ⟨rfl, rfl⟩⟩
theorem _root_.Go.World.ownsR.cells {w : World} {base : Nat} {e : TypeId} {size : Nat} {v : Value} {n : Nat} {xs : List Value} (h : w.ownsR base e size v n xs) {g : Nat} (hg : v.ownBlock = some g) (j : Nat) (u : Value) (hu : xs[j]? = some u) :
    w.cell? ((⟨g, 0, none⟩ : Addr).add j) = some u := by
  rcases h.2 with ⟨rfl, _⟩ | ⟨g', cap, cur, rfl, _, hgg, _, _, _, htake⟩
  · simp [Value.ownBlock] at hg
  · simp [Value.ownBlock] at hg
    subst hg
    rw [Addr_plain]
    rw [← htake, List.getElem?_take] at hu
    split at hu
    · simp only [World.cell?, hgg]; simpa using hu
    · cases hu

/-- An own row's value: nil, or the head of a block of the call's own; its cells read as data. -/
def OwnRep (w0 : World) (ok : Nat → Prop) (w : World) (v : Value) (n : Nat) (cells : List DV) (s : Nat) (E : TypeId) : Prop :=
  ∃ xs : List Value, w.ownsR w0.heap.size E s v n xs ∧ xs.length = cells.length ∧ ∀ (j : Nat) (d : DV), cells[j]? = some d → ∃ u, xs[j]? = some u ∧ Reads ok w d u

theorem OwnRep.len {w0 w : World} {ok : Nat → Prop} {v : Value} {n : Nat} {cells : List DV} {s : Nat} {E : TypeId} (h : OwnRep w0 ok w v n cells s E) : cells.length = n * s := by
  obtain ⟨xs, h1, h2, _⟩ := h
  rw [← h2]; exact h1.1

def BlkRep (w0 : World) (ρ : List DV) (β : Bm) (ok : Nat → Prop) (w : World) (k : Nat) : Blk → Prop
  | .box cs _ ro => ∃ b arr T fz, β k = some (.pointer (some ⟨b, 0, none⟩)) ∧ w.heap[b]? = some (.cells arr T fz) ∧ CsRep ρ β ok w cs arr ∧
      (ro = false → w0.heap.size ≤ b ∧ fz = (0, 0)) ∧ (ro = true → b < w0.heap.size)
  | .own x s E => ∃ v n cells, β k = some v ∧ x.rd ρ = some (.list n cells) ∧ OwnRep w0 ok w v n cells s E
  | .fro x => ∃ v n cells, β k = some v ∧ x.rd ρ = some (.list n cells) ∧ Reads ok w (.list n cells) v ∧ (v = .slice none 0 0 ∨ ∃ b cap, v = .slice (some ⟨b, 0, none⟩) n cap)

theorem ownBlock_eq (v : Value) (h : ∀ a, v ≠ .pointer a) : v.ownBlock = blockOf v := by
  cases v <;> first | rfl | exact absurd rfl (h _) | (rename_i a _ _; cases a <;> rfl)

theorem ownsR_slice {w : World} {base : Nat} {e : TypeId} {size : Nat} {v : Value} {n : Nat} {xs : List Value} (h : w.ownsR base e size v n xs) : ∃ a cap, v = .slice a n cap ∧ n ≤ cap := by
  rcases h.2 with ⟨rfl, rfl⟩ | ⟨g, cap, cur, rfl, _, _, hn, _⟩
  · exact ⟨_, _, rfl, Nat.le_refl _⟩
  · exact ⟨_, _, rfl, hn⟩

theorem OwnRep.imp {w0 w w' : World} {ok ok' : Nat → Prop} (h : ∀ b o, ok b → w.heap[b]? = some o → ok' b ∧ w'.heap[b]? = some o) {v : Value} {n : Nat} {cells : List DV} {s : Nat} {E : TypeId}
    (hb : ∀ b, blockOf v = some b → w'.heap[b]? = w.heap[b]?) (hr : OwnRep w0 ok w v n cells s E) : OwnRep w0 ok' w' v n cells s E := by
  obtain ⟨xs, ho, hl, hc⟩ := hr
  refine ⟨xs, ⟨ho.1, ?_⟩, hl, fun j d hj => let ⟨u, hu, hq⟩ := hc j d hj; ⟨u, hu, hq.imp h⟩⟩
  rcases ho.2 with hn | ⟨g, cap, cur, rfl, hbg, hh, rest⟩
  · exact .inl hn
  · exact .inr ⟨g, cap, cur, rfl, hbg, by rw [hb g rfl]; exact hh, rest⟩

theorem OwnRep.lt {w0 w : World} {ok : Nat → Prop} {v : Value} {n : Nat} {cells : List DV} {s : Nat} {E : TypeId} (h : OwnRep w0 ok w v n cells s E) {b : Nat} (hb : blockOf v = some b) : w0.heap.size ≤ b ∧ b < w.heap.size := by
  obtain ⟨xs, ho, _⟩ := h
  rcases ho.2 with ⟨rfl, _⟩ | ⟨g, cap, cur, rfl, hbg, hh, rest⟩
  · cases hb
  · cases hb; exact ⟨hbg, (Array.getElem?_eq_some_iff.1 hh).1⟩

theorem BlkRep.imp {w0 w w' : World} {ρ ρ' : List DV} {β β' : Bm} {ok ok' : Nat → Prop} (hρ : Ext ρ ρ') (hβ : ∀ k v, β k = some v → β' k = some v)
    (h : ∀ b o, ok b → w.heap[b]? = some o → ok' b ∧ w'.heap[b]? = some o) {k : Nat} {x : Blk}
    (hb : ∀ v b, β k = some v → blockOf v = some b → x.mut = true ∨ b < w0.heap.size → w'.heap[b]? = w.heap[b]?) (hr : BlkRep w0 ρ β ok w k x) : BlkRep w0 ρ' β' ok' w' k x := by
  cases x with
  | box cs T ro =>
    obtain ⟨b, arr, T', fz, h1, h2, h3, h4, h5⟩ := hr
    refine ⟨b, arr, T', fz, hβ _ _ h1, ?_, h3.imp hρ hβ h, h4, h5⟩
    rw [hb _ b h1 rfl]
    · exact h2
    · cases ro
      · exact .inl rfl
      · exact .inr (h5 rfl)
  | own y s E =>
    obtain ⟨v, n, cells, h1, h2, h3⟩ := hr
    exact ⟨v, n, cells, hβ _ _ h1, A.rd_ext hρ h2, h3.imp h fun b hb' => hb v b h1 hb' (.inl rfl)⟩
  | fro y =>
    obtain ⟨v, n, cells, h1, h2, h3, h4⟩ := hr
    exact ⟨v, n, cells, hβ _ _ h1, A.rd_ext hρ h2, h3.imp h, h4⟩

def TmRep (ρ : List DV) (β : Bm) (ok : Nat → Prop) (w : World) (tm : Nat → Option SV) (tmps : Array Value) : Prop :=
  ∀ (t : Nat) (sv : SV), tm t = some sv → ∃ v, tmps[t]? = some v ∧ SVRep ρ β ok w sv v

theorem TmRep.imp {ρ ρ' : List DV} {β β' : Bm} {ok ok' : Nat → Prop} {w w' : World} (hρ : Ext ρ ρ') (hβ : ∀ k v, β k = some v → β' k = some v)
    (h : ∀ b o, ok b → w.heap[b]? = some o → ok' b ∧ w'.heap[b]? = some o) {tm : Nat → Option SV} {tmps : Array Value} (hc : TmRep ρ β ok w tm tmps) : TmRep ρ' β' ok' w' tm tmps :=
  fun t sv ht => let ⟨v, hv, hr⟩ := hc t sv ht; ⟨v, hv, hr.imp hρ hβ h⟩

/-- The frames behind. -/
def StkRep (ρ : List DV) (β : Bm) (ok : Nat → Prop) (w : World) : List Frm → List (Array Value) → Prop
  | [], [] => True
  | f :: r, a :: q => TmRep ρ β ok w f.tm a ∧ a.size = f.nt ∧ StkRep ρ β ok w r q
  | _, _ => False

theorem StkRep.imp {ρ ρ' : List DV} {β β' : Bm} {ok ok' : Nat → Prop} {w w' : World} (hρ : Ext ρ ρ') (hβ : ∀ k v, β k = some v → β' k = some v)
    (h : ∀ b o, ok b → w.heap[b]? = some o → ok' b ∧ w'.heap[b]? = some o) : ∀ {l : List Frm} {q : List (Array Value)}, StkRep ρ β ok w l q → StkRep ρ' β' ok' w' l q
  | [], [], _ => trivial
  | _ :: _, _ :: _, ⟨h1, h2, h3⟩ => ⟨h1.imp hρ hβ h, h2, StkRep.imp hρ hβ h h3⟩
  | [], _ :: _, hf => hf.elim
  | _ :: _, [], hf => hf.elim

/-- THE MACHINE's STATE IS AS THE SYMBOLIC ONE SAYS. 'w0': the world as the call began; 'ok0': the blocks that were let then; 'fs': the temporaries of the frames behind. -/
structure RM (w0 : World) (ok0 : Nat → Prop) (fs : List (Array Value)) (stk : List Frm) (ρ : List DV) (β : Bm) (nt : Nat) (tm : Nat → Option SV) (bl : Nat → Option Blk) (a : Act) (w : World) : Prop where
  sz : a.tmps.size = nt
  df : a.defers = []
  htm : TmRep ρ β (okS w0 ok0 bl β) w tm a.tmps
  hst : StkRep ρ β (okS w0 ok0 bl β) w stk fs
  hbl : ∀ k b, bl k = some b → BlkRep w0 ρ β (okS w0 ok0 bl β) w k b
  inj : ∀ k k' b b' v v' m, bl k = some b → b.mut = true → bl k' = some b' → b'.mut = true → β k = some v → β k' = some v' → blockOf v = some m → blockOf v' = some m → k = k'
  bel : Below w0.heap.size w0 w
  na : ∀ k v, β k = some v → v.oneCell' = true

/-- One step: the environment, the places and the world may grow; what data are read by stays. -/
theorem RM.step {w0 : World} {ok0 : Nat → Prop} {fs : List (Array Value)} {stk : List Frm} {ρ ρ' : List DV} {β β' : Bm} {nt : Nat} {tm : Nat → Option SV} {bl bl' : Nat → Option Blk} {a : Act} {w w' : World}
    (H : RM w0 ok0 fs stk ρ β nt tm bl a w) (hρ : Ext ρ ρ') (hβ : ∀ k v, β k = some v → β' k = some v)
    (h : ∀ b o, okS w0 ok0 bl β b → w.heap[b]? = some o → okS w0 ok0 bl' β' b ∧ w'.heap[b]? = some o)
    (hbl : ∀ k b, bl' k = some b → (bl k = some b ∧ ∀ v m, β k = some v → blockOf v = some m → b.mut = true ∨ m < w0.heap.size → w'.heap[m]? = w.heap[m]?) ∨ BlkRep w0 ρ' β' (okS w0 ok0 bl' β') w' k b)
    (hinj : ∀ k k' b b' v v' m, bl' k = some b → b.mut = true → bl' k' = some b' → b'.mut = true → β' k = some v → β' k' = some v' → blockOf v = some m → blockOf v' = some m → k = k')
    (hbel : Below w0.heap.size w0 w') (hna : ∀ k v, β' k = some v → v.oneCell' = true) : RM w0 ok0 fs stk ρ' β' nt tm bl' a w' where
  sz := H.sz
  df := H.df
  htm := H.htm.imp hρ hβ h
  hst := H.hst.imp hρ hβ h
  hbl := fun k b hb => by
    rcases hbl k b hb with ⟨h1, h2⟩ | h1
    · exact (H.hbl k b h1).imp hρ hβ h h2
    · exact h1
  inj := hinj
  bel := hbel
  na := hna

/-- The environment alone grows. -/
theorem RM.env {w0 : World} {ok0 : Nat → Prop} {fs : List (Array Value)} {stk : List Frm} {ρ ρ' : List DV} {β : Bm} {nt : Nat} {tm : Nat → Option SV} {bl : Nat → Option Blk} {a : Act} {w : World}
    (H : RM w0 ok0 fs stk ρ β nt tm bl a w) (hρ : Ext ρ ρ') : RM w0 ok0 fs stk ρ' β nt tm bl a w :=
  H.step hρ (fun _ _ h => h) (fun _ _ hb ho => ⟨hb, ho⟩) (fun _ _ hb => .inl ⟨hb, fun _ _ _ _ _ => rfl⟩) H.inj H.bel H.na

/-- The world grows by blocks alone. -/
theorem RM.grow {w0 : World} {ok0 : Nat → Prop} {fs : List (Array Value)} {stk : List Frm} {ρ : List DV} {β : Bm} {nt : Nat} {tm : Nat → Option SV} {bl : Nat → Option Blk} {a : Act} {w w' : World}
    (H : RM w0 ok0 fs stk ρ β nt tm bl a w) (hw : Below w.heap.size w w') : RM w0 ok0 fs stk ρ β nt tm bl a w' :=
  H.step (Ext.refl _) (fun _ _ h => h) (fun b o hb ho => ⟨hb, by rw [hw.block b (Array.getElem?_eq_some_iff.1 ho).1]; exact ho⟩)
    (fun k b hb => .inl ⟨hb, fun v m hv hm hor => by
      have hlt : m < w.heap.size := by
        rcases hor with hmut | hlt
        · have hk := H.hbl k b hb
          cases b with
          | box cs T ro =>
            obtain ⟨b', arr, T', fz, h1, h2, _⟩ := hk
            rw [hv] at h1; cases h1; cases hm
            exact (Array.getElem?_eq_some_iff.1 h2).1
          | own x s E =>
            obtain ⟨v', n, cells, h1, _, h3⟩ := hk
            rw [hv] at h1; cases h1
            exact (h3.lt hm).2
          | fro x => cases hmut
        · exact Nat.lt_of_lt_of_le hlt H.bel.size
      exact hw.block m hlt⟩) H.inj
    (H.bel.trans (hw.mono H.bel.size)) H.na

end Go.Px

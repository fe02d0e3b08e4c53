/- Px2: what it is for a machine's state to be as a symbolic state says; how that lives on when memory grows, when a block of the call's own is written, when an own row is frozen. -/
import Derived.Test.YtnohcccgfefnkaaGreatPx1
import Derived.Laws.Cells
import Derived.Laws.Slices
import Derived.Laws.MakeOwn
import Derived.Laws.AppendOwn
import Derived.Laws.AppendOwnNone
import Derived.Laws.Unary
import Derived.Laws.StructEq
import Derived.Laws.Strings
namespace Go.Px
open Go.RowKit

theorem Addr_add_add (a : Addr) (m n : Nat) : (a.add m).add n = a.add (m + n) := by
  unfold Addr.add
  by_cases hm : m = 0
  · subst hm; simp
  · by_cases hn : n = 0
    · subst hn; simp
    · have : ¬ (m + n = 0) := by omega
      simp [hm, hn, Nat.add_assoc]

theorem Addr_add_block (a : Addr) (m : Nat) : (a.add m).block = a.block := by
  unfold Addr.add; split <;> rfl

theorem Addr_plain (b m : Nat) : (⟨b, 0, none⟩ : Addr).add m = ⟨b, m, none⟩ := by
  unfold Addr.add; split
  · rename_i h; subst h; rfl
  · simp

theorem Addr_off (b o m : Nat) : (⟨b, o, none⟩ : Addr).add m = ⟨b, o + m, none⟩ := by
  unfold Addr.add; split
  · rename_i h; subst h; rfl
  · rfl

theorem cell?_block {w : World} {a : Addr} {v : Value} (h : w.cell? a = some v) : ∃ arr T fz, w.heap[a.block]? = some (.cells arr T fz) := by
  unfold World.cell? at h
  split at h
  · exact ⟨_, _, _, by assumption⟩
  · cases h

theorem cell?_same {w w' : World} {a : Addr} (h : w'.heap[a.block]? = w.heap[a.block]?) : w'.cell? a = w.cell? a := by
  unfold World.cell?; rw [h]

theorem Reads.imp {ok ok' : Nat → Prop} {w w' : World} (h : ∀ b o, ok b → w.heap[b]? = some o → ok' b ∧ w'.heap[b]? = some o) {d : DV} {v : Value}
    (hr : Reads ok w d v) : Reads ok' w' d v := by
  induction hr with
  | bool b => exact .bool b
  | int k n => exact .int k n
  | list n cells a cap f hcap hmem hrr ih =>
    refine .list n cells a cap f hcap (fun hne => ?_) ih
    obtain ⟨ad, ha, hok, hc⟩ := hmem hne
    have h0 : 0 < cells.length := List.length_pos_iff.2 hne
    have hb : ∃ o, w.heap[ad.block]? = some o := by
      obtain ⟨arr, T, fz, hh⟩ := cell?_block (hc 0 h0)
      rw [Addr_add_block] at hh
      exact ⟨_, hh⟩
    obtain ⟨o, ho⟩ := hb
    obtain ⟨hok', ho'⟩ := h _ _ hok ho
    refine ⟨ad, ha, hok', fun j hj => ?_⟩
    rw [cell?_same (w := w) (by rw [Addr_add_block, ho, ho'])]
    exact hc j hj

theorem Reads.mono {ok ok' : Nat → Prop} {w : World} (h : ∀ b, ok b → ok' b) {d : DV} {v : Value} (hr : Reads ok w d v) : Reads ok' w d v :=
  hr.imp fun b _ hb ho => ⟨h b hb, ho⟩

/-- What an atom is, if it is one. -/
def A.rd (ρ : List DV) : A → Option DV
  | .var i => ρ[i]?
  | .bol x => some (.bool x)
  | .int k n => some (.int k n)
  | .nil => some (.list 0 [])
theorem A.ev_of_rd {ρ : List DV} {a : A} {d : DV} (h : a.rd ρ = some d) : a.ev ρ = d := by
  cases a <;> simp_all [A.rd, A.ev]

/-- One environment goes on with another. -/
def Ext (ρ ρ' : List DV) : Prop := ∀ (i : Nat) (d : DV), ρ[i]? = some d → ρ'[i]? = some d
theorem Ext.refl (ρ : List DV) : Ext ρ ρ := fun _ _ h => h
theorem Ext.trans {a b c : List DV} (h : Ext a b) (k : Ext b c) : Ext a c := fun i d hd => k i d (h i d hd)
theorem Ext.app (ρ l : List DV) : Ext ρ (ρ ++ l) := fun i d h => by
  rw [List.getElem?_append_left]
  · exact h
  · exact (List.getElem?_eq_some_iff.1 h).1
theorem A.rd_ext {ρ ρ' : List DV} (h : Ext ρ ρ') {a : A} {d : DV} (hd : a.rd ρ = some d) : a.rd ρ' = some d := by
  cases a <;> simp_all [A.rd]
  exact h _ _ hd

def Blk.mut : Blk → Bool
  | .box _ _ ro => !ro
  | .own _ _ _ => true
  | .fro _ => false

abbrev Bm := Nat → Option Value

/-- The world as a call began; the blocks that were given in, to be turned; the block of the box that was given in. -/
structure W0 where
  w : World
  G : Nat → Prop
  gb : Nat
def W0.own (w0 : W0) (b : Nat) : Prop := w0.w.heap.size ≤ b ∨ w0.G b
def W0.old (w0 : W0) (b : Nat) : Prop := b < w0.w.heap.size ∧ ¬w0.G b
theorem W0.old_not {w0 : W0} {b : Nat} (h : w0.old b) : ¬w0.own b := fun hh => by
  rcases hh with hh | hh
  · have := h.1; omega
  · exact h.2 hh
/-- What was there and was not given in is as it was. -/
structure W0.Bel (w0 : W0) (w : World) : Prop where
  os : w.os = w0.w.os
  tape : w.tape = w0.w.tape
  output : w.output = w0.w.output
  drawn : w0.w.drawn ≤ w.drawn
  size : w0.w.heap.size ≤ w.heap.size
  block : ∀ k, w0.old k → w.heap[k]? = w0.w.heap[k]?
theorem W0.Bel.then {w0 : W0} {w w' : World} (h : w0.Bel w) (hos : w'.os = w.os) (ht : w'.tape = w.tape) (ho : w'.output = w.output) (hd : w.drawn ≤ w'.drawn) (hs : w.heap.size ≤ w'.heap.size) (hb : ∀ k, w0.old k → w'.heap[k]? = w.heap[k]?) : w0.Bel w' :=
  ⟨hos.trans h.os, ht.trans h.tape, ho.trans h.output, Nat.le_trans h.drawn hd, Nat.le_trans h.size hs, fun k hk => (hb k hk).trans (h.block k hk)⟩
theorem W0.Bel.own {w0 : W0} {w : World} (h : w0.Bel w) {b : Nat} (hb : w.heap.size ≤ b) : w0.own b := .inl (Nat.le_trans h.size hb)

/-- The blocks by whose cells data may be read: those that were let, and new ones, but none that is still written. -/
def okS (w0 : W0) (ok0 : Nat → Prop) (bl : Nat → Option Blk) (β : Bm) (b : Nat) : Prop :=
  (ok0 b ∨ w0.own b) ∧ ∀ k blk v, bl k = some blk → blk.mut = true → β k = some v → blockOf v ≠ some b

def _root_.Go.Value.notAgg (v : Value) : Prop := ∀ cs, v ≠ .agg cs

def CRep (ρ : List DV) (β : Bm) (ok : Nat → Prop) (w : World) : C → Value → Prop
  | .at a, v => ∃ d, a.rd ρ = some d ∧ Reads ok w d v
  | .nils, v => v = .slice none 0 0
  | .ful a, v => ∃ d, a.rd ρ = some d ∧ Reads ok w d v ∧ ∃ ad n, v = .slice ad n n
  | .lp k off, v => ∃ b, β k = some (.pointer (some ⟨b, 0, none⟩)) ∧ v = .pointer (some ⟨b, off, none⟩)
  | .fp x i s off, v => ∃ n cells kI iv ad cap, x.rd ρ = some (.list n cells) ∧ i.rd ρ = some (.int kI iv) ∧ 0 ≤ iv ∧ iv < (n : Int) ∧ (iv.toNat + 1) * s ≤ cells.length ∧
      Reads ok w (.list n cells) (.slice (some ad) n cap) ∧ v = .pointer (some (ad.add (iv.toNat * s + off)))
  | .own k, v => β k = some v
  | .op k i s off, v => ∃ b n cap kI iv, β k = some (.slice (some ⟨b, 0, none⟩) n cap) ∧ i.rd ρ = some (.int kI iv) ∧ 0 ≤ iv ∧ iv < (n : Int) ∧ v = .pointer (some ⟨b, iv.toNat * s + off, none⟩)
  | .sub k lo n s, v => ∃ adk nk capk kI lv kJ nv ad cap, β k = some (.slice adk nk capk) ∧ lo.rd ρ = some (.int kI lv) ∧ n.rd ρ = some (.int kJ nv) ∧ 0 ≤ lv ∧ 0 ≤ nv ∧ lv + nv ≤ (nk : Int) ∧ v = .slice ad nv.toNat cap ∧ (0 < nv → ∃ b, adk = some ⟨b, 0, none⟩ ∧ ad = some ⟨b, lv.toNat * s, none⟩) ∧ kJ = .i64
  | .fn f ks, v => ∃ caps : Array Value, v = .func (.func f) #[] caps ∧ caps.size = ks.length ∧ ∀ (j k : Nat), ks[j]? = some k → ∃ b, β k = some (.pointer (some ⟨b, 0, none⟩)) ∧ caps[j]? = some (.pointer (some ⟨b, 0, none⟩))
  | .np, v => v = .pointer none
  | .und, v => v = undef
  | .unk, v => v.notAgg

/-- Cells, one by one. -/
def CsRep (ρ : List DV) (β : Bm) (ok : Nat → Prop) (w : World) (cs : List C) (arr : Array Value) : Prop :=
  arr.size = cs.length ∧ ∀ (j : Nat) (c : C), cs[j]? = some c → ∃ u, arr[j]? = some u ∧ CRep ρ β ok w c u

def S1Rep (ρ : List DV) (β : Bm) (ok : Nat → Prop) (w : World) : S1 → Value → Prop
  | .one c, v => CRep ρ β ok w c v
  | .agg cs, v => ∃ vs, v = .agg vs ∧ CsRep ρ β ok w cs vs

def SVRep (ρ : List DV) (β : Bm) (ok : Nat → Prop) (w : World) : SV → Value → Prop
  | .s x, v => S1Rep ρ β ok w x v
  | .tup l, v => ∃ vs : Array Value, v = .tuple vs ∧ vs.size = l.length ∧ ∀ (j : Nat) (x : S1), l[j]? = some x → ∃ u, vs[j]? = some u ∧ S1Rep ρ β ok w x u


theorem notAgg_of_one {v : Value} (h : v.oneCell' = true) : v.notAgg := by
  intro cs e; subst e; cases h

theorem Reads.notAgg {ok : Nat → Prop} {w : World} {d : DV} {v : Value} (h : Reads ok w d v) : v.notAgg := by
  cases h <;> intro cs e <;> cases e

theorem CRep.notAgg {ρ : List DV} {β : Bm} {ok : Nat → Prop} {w : World} {c : C} {v : Value} (h : CRep ρ β ok w c v) (hβ : ∀ k v, β k = some v → v.notAgg) : v.notAgg := by
  cases c <;> simp only [CRep] at h
  case «at» a => obtain ⟨d, _, hr⟩ := h; exact hr.notAgg
  case nils => subst h; intro cs e; cases e
  case ful a => obtain ⟨d, _, hr, _⟩ := h; exact hr.notAgg
  case lp k off => obtain ⟨b, _, rfl⟩ := h; intro cs e; cases e
  case fp x i s off => obtain ⟨_, _, _, _, _, _, _, _, _, _, _, _, rfl⟩ := h; intro cs e; cases e
  case own k => exact hβ _ _ h
  case op k i s off => obtain ⟨_, _, _, _, _, _, _, _, _, rfl⟩ := h; intro cs e; cases e
  case sub k lo n s => obtain ⟨_, _, _, _, _, _, _, _, _, _, _, _, _, _, _, rfl, _⟩ := h; intro cs e; cases e
  case fn f ks => obtain ⟨_, rfl, _⟩ := h; intro cs e; cases e
  case np => subst h; intro cs e; cases e
  case und => subst h; intro cs e; cases e
  case unk => exact h

theorem CRep.imp {ρ ρ' : List DV} {β β' : Bm} {ok ok' : Nat → Prop} {w w' : World} (hρ : Ext ρ ρ') (hβ : ∀ k v, β k = some v → β' k = some v)
    (h : ∀ b o, ok b → w.heap[b]? = some o → ok' b ∧ w'.heap[b]? = some o) {c : C} {v : Value} (hc : CRep ρ β ok w c v) : CRep ρ' β' ok' w' c v := by
  cases c <;> simp only [CRep] at hc ⊢
  case «at» a => obtain ⟨d, hd, hr⟩ := hc; exact ⟨d, A.rd_ext hρ hd, hr.imp h⟩
  case nils => exact hc
  case ful a => obtain ⟨d, hd, hr, hf⟩ := hc; exact ⟨d, A.rd_ext hρ hd, hr.imp h, hf⟩
  case lp k off => obtain ⟨b, hb, hv⟩ := hc; exact ⟨b, hβ _ _ hb, hv⟩
  case fp x i s off =>
    obtain ⟨n, cells, kI, iv, ad, cap, h1, h2, h3, h4, h5, h6, h7⟩ := hc
    exact ⟨n, cells, kI, iv, ad, cap, A.rd_ext hρ h1, A.rd_ext hρ h2, h3, h4, h5, h6.imp h, h7⟩
  case own k => exact hβ _ _ hc
  case op k i s off =>
    obtain ⟨b, n, cap, kI, iv, h1, h2, h3, h4, h5⟩ := hc
    exact ⟨b, n, cap, kI, iv, hβ _ _ h1, A.rd_ext hρ h2, h3, h4, h5⟩
  case sub k lo n s =>
    obtain ⟨b, nk, capk, kI, lv, kJ, nv, ad, cap, h1, h2, h3, h4⟩ := hc
    exact ⟨b, nk, capk, kI, lv, kJ, nv, ad, cap, hβ _ _ h1, A.rd_ext hρ h2, A.rd_ext hρ h3, h4⟩
  case fn f ks =>
    obtain ⟨caps, h1, h2, h3⟩ := hc
    exact ⟨caps, h1, h2, fun j k hk => let ⟨b, hb, hc⟩ := h3 j k hk; ⟨b, hβ _ _ hb, hc⟩⟩
  case np => exact hc
  case und => exact hc
  case unk => exact hc

theorem CsRep.imp {ρ ρ' : List DV} {β β' : Bm} {ok ok' : Nat → Prop} {w w' : World} (hρ : Ext ρ ρ') (hβ : ∀ k v, β k = some v → β' k = some v)
    (h : ∀ b o, ok b → w.heap[b]? = some o → ok' b ∧ w'.heap[b]? = some o) {cs : List C} {arr : Array Value} (hc : CsRep ρ β ok w cs arr) : CsRep ρ' β' ok' w' cs arr :=
  ⟨hc.1, fun j c hj => let ⟨u, hu, hr⟩ := hc.2 j c hj; ⟨u, hu, hr.imp hρ hβ h⟩⟩

theorem S1Rep.imp {ρ ρ' : List DV} {β β' : Bm} {ok ok' : Nat → Prop} {w w' : World} (hρ : Ext ρ ρ') (hβ : ∀ k v, β k = some v → β' k = some v)
    (h : ∀ b o, ok b → w.heap[b]? = some o → ok' b ∧ w'.heap[b]? = some o) {x : S1} {v : Value} (hc : S1Rep ρ β ok w x v) : S1Rep ρ' β' ok' w' x v := by
  cases x with
  | one c => exact CRep.imp hρ hβ h hc
  | agg cs => obtain ⟨vs, hv, hr⟩ := hc; exact ⟨vs, hv, hr.imp hρ hβ h⟩

theorem SVRep.imp {ρ ρ' : List DV} {β β' : Bm} {ok ok' : Nat → Prop} {w w' : World} (hρ : Ext ρ ρ') (hβ : ∀ k v, β k = some v → β' k = some v)
    (h : ∀ b o, ok b → w.heap[b]? = some o → ok' b ∧ w'.heap[b]? = some o) {x : SV} {v : Value} (hc : SVRep ρ β ok w x v) : SVRep ρ' β' ok' w' x v := by
  cases x with
  | s x => exact S1Rep.imp hρ hβ h hc
  | tup l => obtain ⟨vs, hv, hs, hr⟩ := hc; exact ⟨vs, hv, hs, fun j x hj => let ⟨u, hu, hq⟩ := hr j x hj; ⟨u, hu, hq.imp hρ hβ h⟩⟩

theorem _root_.Go.World.ownsR_nil (w : World) (base : Nat → Prop) (e : TypeId) (size : Nat) : w.ownsR base e size (.slice none 0 0) 0 [] := ⟨by simp, .inl ⟨rfl, rfl⟩⟩
theorem _root_.Go.World.ownsR.cells {w : World} {base : Nat → Prop} {e : TypeId} {size : Nat} {v : Value} {n : Nat} {xs : List Value} (h : w.ownsR base e size v n xs) {g : Nat} (hg : v.ownBlock = some g) (j : Nat) (u : Value) (hu : xs[j]? = some u) :
    w.cell? ((⟨g, 0, none⟩ : Addr).add j) = some u := by
  rcases h.2 with ⟨rfl, _⟩ | ⟨g', cap, cur, rfl, _, hgg, _, _, _, htake⟩
  · simp [Value.ownBlock] at hg
  · simp [Value.ownBlock] at hg
    subst hg
    rw [Addr_plain]
    rw [← htake, List.getElem?_take] at hu
    split at hu
    · simp only [World.cell?, hgg]; simpa using hu
    · cases hu

/-- An own row's value: nil, or the head of a block of the call's own; its cells read as data. -/
def OwnRep (w0 : W0) (ok : Nat → Prop) (w : World) (v : Value) (n : Nat) (cells : List DV) (s : Nat) (E : TypeId) : Prop :=
  ∃ xs : List Value, w.ownsR w0.own E s v n xs ∧ xs.length = cells.length ∧ ∀ (j : Nat) (d : DV), cells[j]? = some d → ∃ u, xs[j]? = some u ∧ Reads ok w d u

theorem OwnRep.len {w0 : W0} {w : World} {ok : Nat → Prop} {v : Value} {n : Nat} {cells : List DV} {s : Nat} {E : TypeId} (h : OwnRep w0 ok w v n cells s E) : cells.length = n * s := by
  obtain ⟨xs, h1, h2, _⟩ := h
  rw [← h2]; exact h1.1

def BlkRep (w0 : W0) (ρ : List DV) (β : Bm) (ok : Nat → Prop) (w : World) (k : Nat) : Blk → Prop
  | .box cs T ro => ∃ b arr T' fz, β k = some (.pointer (some ⟨b, 0, none⟩)) ∧ w.heap[b]? = some (.cells arr T' fz) ∧ CsRep ρ β ok w cs arr ∧
      (ro = false → w0.own b ∧ fz = (0, 0)) ∧ (ro = true → w0.old b) ∧ (T = GIV → b = w0.gb)
  | .own x s E => ∃ v n cells, β k = some v ∧ x.rd ρ = some (.list n cells) ∧ OwnRep w0 ok w v n cells s E
  | .fro x => ∃ v n cells, β k = some v ∧ x.rd ρ = some (.list n cells) ∧ Reads ok w (.list n cells) v ∧ (v = .slice none 0 0 ∨ ∃ b cap, v = .slice (some ⟨b, 0, none⟩) n cap)

theorem ownsR_slice {w : World} {base : Nat → Prop} {e : TypeId} {size : Nat} {v : Value} {n : Nat} {xs : List Value} (h : w.ownsR base e size v n xs) : ∃ a cap, v = .slice a n cap ∧ n ≤ cap := by
  rcases h.2 with ⟨rfl, rfl⟩ | ⟨g, cap, cur, rfl, _, _, hn, _⟩
  · exact ⟨_, _, rfl, Nat.le_refl _⟩
  · exact ⟨_, _, rfl, hn⟩

theorem OwnRep.imp {w0 : W0} {w w' : World} {ok ok' : Nat → Prop} (h : ∀ b o, ok b → w.heap[b]? = some o → ok' b ∧ w'.heap[b]? = some o) {v : Value} {n : Nat} {cells : List DV} {s : Nat} {E : TypeId}
    (hb : ∀ b, blockOf v = some b → w'.heap[b]? = w.heap[b]?) (hr : OwnRep w0 ok w v n cells s E) : OwnRep w0 ok' w' v n cells s E := by
  obtain ⟨xs, ho, hl, hc⟩ := hr
  refine ⟨xs, ⟨ho.1, ?_⟩, hl, fun j d hj => let ⟨u, hu, hq⟩ := hc j d hj; ⟨u, hu, hq.imp h⟩⟩
  rcases ho.2 with hn | ⟨g, cap, cur, rfl, hbg, hh, rest⟩
  · exact .inl hn
  · exact .inr ⟨g, cap, cur, rfl, hbg, by rw [hb g rfl]; exact hh, rest⟩

theorem OwnRep.lt {w0 : W0} {w : World} {ok : Nat → Prop} {v : Value} {n : Nat} {cells : List DV} {s : Nat} {E : TypeId} (h : OwnRep w0 ok w v n cells s E) {b : Nat} (hb : blockOf v = some b) : w0.own b ∧ b < w.heap.size := by
  obtain ⟨xs, ho, _⟩ := h
  rcases ho.2 with ⟨rfl, _⟩ | ⟨g, cap, cur, rfl, hbg, hh, rest⟩
  · cases hb
  · cases hb; exact ⟨hbg, (Array.getElem?_eq_some_iff.1 hh).1⟩

theorem BlkRep.imp {w0 : W0} {w w' : World} {ρ ρ' : List DV} {β β' : Bm} {ok ok' : Nat → Prop} (hρ : Ext ρ ρ') (hβ : ∀ k v, β k = some v → β' k = some v)
    (h : ∀ b o, ok b → w.heap[b]? = some o → ok' b ∧ w'.heap[b]? = some o) {k : Nat} {x : Blk}
    (hb : ∀ v b, β k = some v → blockOf v = some b → x.mut = true ∨ w0.old b → w'.heap[b]? = w.heap[b]?) (hr : BlkRep w0 ρ β ok w k x) : BlkRep w0 ρ' β' ok' w' k x := by
  cases x with
  | box cs T ro =>
    obtain ⟨b, arr, T', fz, h1, h2, h3, h4, h5⟩ := hr
    refine ⟨b, arr, T', fz, hβ _ _ h1, ?_, h3.imp hρ hβ h, h4, h5⟩
    rw [hb _ b h1 rfl]
    · exact h2
    · cases ro
      · exact .inl rfl
      · exact .inr (h5.1 rfl)
  | own y s E =>
    obtain ⟨v, n, cells, h1, h2, h3⟩ := hr
    exact ⟨v, n, cells, hβ _ _ h1, A.rd_ext hρ h2, h3.imp h fun b hb' => hb v b h1 hb' (.inl rfl)⟩
  | fro y =>
    obtain ⟨v, n, cells, h1, h2, h3, h4⟩ := hr
    exact ⟨v, n, cells, hβ _ _ h1, A.rd_ext hρ h2, h3.imp h, h4⟩

def TmRep (ρ : List DV) (β : Bm) (ok : Nat → Prop) (w : World) (tm : Nat → Option SV) (tmps : Array Value) : Prop :=
  ∀ (t : Nat) (sv : SV), tm t = some sv → ∃ v, tmps[t]? = some v ∧ SVRep ρ β ok w sv v

theorem TmRep.imp {ρ ρ' : List DV} {β β' : Bm} {ok ok' : Nat → Prop} {w w' : World} (hρ : Ext ρ ρ') (hβ : ∀ k v, β k = some v → β' k = some v)
    (h : ∀ b o, ok b → w.heap[b]? = some o → ok' b ∧ w'.heap[b]? = some o) {tm : Nat → Option SV} {tmps : Array Value} (hc : TmRep ρ β ok w tm tmps) : TmRep ρ' β' ok' w' tm tmps :=
  fun t sv ht => let ⟨v, hv, hr⟩ := hc t sv ht; ⟨v, hv, hr.imp hρ hβ h⟩

/-- The frames behind. -/
def StkRep (ρ : List DV) (β : Bm) (ok : Nat → Prop) (w : World) : List Frm → List (Array Value) → Prop
  | [], [] => True
  | f :: r, a :: q => TmRep ρ β ok w f.tm a ∧ a.size = f.nt ∧ StkRep ρ β ok w r q
  | _, _ => False

theorem StkRep.imp {ρ ρ' : List DV} {β β' : Bm} {ok ok' : Nat → Prop} {w w' : World} (hρ : Ext ρ ρ') (hβ : ∀ k v, β k = some v → β' k = some v)
    (h : ∀ b o, ok b → w.heap[b]? = some o → ok' b ∧ w'.heap[b]? = some o) : ∀ {l : List Frm} {q : List (Array Value)}, StkRep ρ β ok w l q → StkRep ρ' β' ok' w' l q
  | [], [], _ => trivial
  | _ :: _, _ :: _, ⟨h1, h2, h3⟩ => ⟨h1.imp hρ hβ h, h2, StkRep.imp hρ hβ h h3⟩
  | [], _ :: _, hf => hf.elim
  | _ :: _, [], hf => hf.elim

/-- THE MACHINE's STATE IS AS THE SYMBOLIC ONE SAYS. 'w0': the world as the call began; 'ok0': the blocks that were let then; 'fs': the temporaries of the frames behind. -/
structure RM (w0 : W0) (ok0 : Nat → Prop) (fs : List (Array Value)) (stk : List Frm) (ρ : List DV) (β : Bm) (nt : Nat) (tm : Nat → Option SV) (bl : Nat → Option Blk) (a : Act) (w : World) : Prop where
  sz : a.tmps.size = nt
  df : a.defers = []
  htm : TmRep ρ β (okS w0 ok0 bl β) w tm a.tmps
  hst : StkRep ρ β (okS w0 ok0 bl β) w stk fs
  hbl : ∀ k b, bl k = some b → BlkRep w0 ρ β (okS w0 ok0 bl β) w k b
  inj : ∀ k k' b b' v v' m, bl k = some b → b.mut = true → bl k' = some b' → b'.mut = true → β k = some v → β k' = some v' → blockOf v = some m → blockOf v' = some m → k = k'
  bel : w0.Bel w
  na : ∀ k v, β k = some v → v.oneCell' = true

/-- One step: the environment, the places and the world may grow; what data are read by stays. -/
theorem RM.step {w0 : W0} {ok0 : Nat → Prop} {fs : List (Array Value)} {stk : List Frm} {ρ ρ' : List DV} {β β' : Bm} {nt : Nat} {tm : Nat → Option SV} {bl bl' : Nat → Option Blk} {a : Act} {w w' : World}
    (H : RM w0 ok0 fs stk ρ β nt tm bl a w) (hρ : Ext ρ ρ') (hβ : ∀ k v, β k = some v → β' k = some v)
    (h : ∀ b o, okS w0 ok0 bl β b → w.heap[b]? = some o → okS w0 ok0 bl' β' b ∧ w'.heap[b]? = some o)
    (hbl : ∀ k b, bl' k = some b → (bl k = some b ∧ ∀ v m, β k = some v → blockOf v = some m → b.mut = true ∨ w0.old m → w'.heap[m]? = w.heap[m]?) ∨ BlkRep w0 ρ' β' (okS w0 ok0 bl' β') w' k b)
    (hinj : ∀ k k' b b' v v' m, bl' k = some b → b.mut = true → bl' k' = some b' → b'.mut = true → β' k = some v → β' k' = some v' → blockOf v = some m → blockOf v' = some m → k = k')
    (hbel : w0.Bel w') (hna : ∀ k v, β' k = some v → v.oneCell' = true) : RM w0 ok0 fs stk ρ' β' nt tm bl' a w' where
  sz := H.sz
  df := H.df
  htm := H.htm.imp hρ hβ h
  hst := H.hst.imp hρ hβ h
  hbl := fun k b hb => by
    rcases hbl k b hb with ⟨h1, h2⟩ | h1
    · exact (H.hbl k b h1).imp hρ hβ h h2
    · exact h1
  inj := hinj
  bel := hbel
  na := hna

/-- The environment alone grows. -/
theorem RM.env {w0 : W0} {ok0 : Nat → Prop} {fs : List (Array Value)} {stk : List Frm} {ρ ρ' : List DV} {β : Bm} {nt : Nat} {tm : Nat → Option SV} {bl : Nat → Option Blk} {a : Act} {w : World}
    (H : RM w0 ok0 fs stk ρ β nt tm bl a w) (hρ : Ext ρ ρ') : RM w0 ok0 fs stk ρ' β nt tm bl a w :=
  H.step hρ (fun _ _ h => h) (fun _ _ hb ho => ⟨hb, ho⟩) (fun _ _ hb => .inl ⟨hb, fun _ _ _ _ _ => rfl⟩) H.inj H.bel H.na

/-- The world grows by blocks alone. -/
theorem RM.grow {w0 : W0} {ok0 : Nat → Prop} {fs : List (Array Value)} {stk : List Frm} {ρ : List DV} {β : Bm} {nt : Nat} {tm : Nat → Option SV} {bl : Nat → Option Blk} {a : Act} {w w' : World}
    (H : RM w0 ok0 fs stk ρ β nt tm bl a w) (hw : Grows w w') : RM w0 ok0 fs stk ρ β nt tm bl a w' :=
  H.step (Ext.refl _) (fun _ _ h => h) (fun b o hb ho => ⟨hb, by rw [hw.block b (Array.getElem?_eq_some_iff.1 ho).1]; exact ho⟩)
    (fun k b hb => .inl ⟨hb, fun v m hv hm hor => by
      have hlt : m < w.heap.size := by
        rcases hor with hmut | hlt
        · have hk := H.hbl k b hb
          cases b with
          | box cs T ro =>
            obtain ⟨b', arr, T', fz, h1, h2, _⟩ := hk
            rw [hv] at h1; cases h1; cases hm
            exact (Array.getElem?_eq_some_iff.1 h2).1
          | own x s E =>
            obtain ⟨v', n, cells, h1, _, h3⟩ := hk
            rw [hv] at h1; cases h1
            exact (h3.lt hm).2
          | fro x => cases hmut
        · exact Nat.lt_of_lt_of_le hlt.1 H.bel.size
      exact hw.block m hlt⟩) H.inj
    (H.bel.then hw.os hw.tape hw.output hw.drawn hw.size fun k hk => hw.block k (Nat.lt_of_lt_of_le hk.1 H.bel.size)) H.na

end Go.Px
/- Px3: one operation: what the symbolic compiler makes of it is what the machine does. Part one: operands, atoms, freezing, primitives. -/
set_option linter.unusedSimpArgs false
set_option linter.unusedVariables false
namespace Go.Px
open Go.RowKit

def evT (tm : Nat → Option SV) : Operand → Option SV
  | .tmp t => tm t
  | .const v => (S1.ofVal v).map .s
  | .func f => some (.s (.one (.fn f [])))
  | .global _ => none
theorem St.ev_eq (S : St) (x : Operand) : S.ev x = evT S.fr.tm x := by cases x <;> rfl

theorem mapM_get {α β : Type} (f : α → Option β) : ∀ (l : List α) (r : List β), l.mapM f = some r → r.length = l.length ∧ ∀ (j : Nat) (x : α), l[j]? = some x → ∃ y, r[j]? = some y ∧ f x = some y
  | [], r, h => by simp at h; subst h; simp
  | a :: l, r, h => by
    simp only [List.mapM_cons, Option.pure_def, Option.bind_eq_bind, Option.bind_eq_some_iff] at h
    obtain ⟨y, hy, r', hr', hr⟩ := h
    cases hr
    have ih := mapM_get f l r' hr'
    refine ⟨by simp [ih.1], fun j x hj => ?_⟩
    cases j with
    | zero => simp at hj; subst hj; exact ⟨y, by simp, hy⟩
    | succ j => simpa using ih.2 j x (by simpa using hj)

theorem mapM_back {α β : Type} (f : α → Option β) {l : List α} {r : List β} (h : l.mapM f = some r) {j : Nat} {y : β} (hj : r[j]? = some y) : ∃ x, l[j]? = some x ∧ f x = some y := by
  have hh := mapM_get f l r h
  have hlt : j < l.length := by rw [← hh.1]; exact (List.getElem?_eq_some_iff.1 hj).1
  obtain ⟨y', hy', hf⟩ := hh.2 j _ (List.getElem?_eq_getElem hlt)
  rw [hy'] at hj; cases hj
  exact ⟨_, List.getElem?_eq_getElem hlt, hf⟩

section
variable {w0 : W0} {ok0 : Nat → Prop} {fs : List (Array Value)} {stk : List Frm} {ρ ρ' : List DV} {β : Bm} {nt : Nat} {tm : Nat → Option SV} {bl : Nat → Option Blk} {a : Act} {w : World} {ok : Nat → Prop}

theorem C.ofVal_rep {v : Value} {c : C} (h : C.ofVal v = some c) : CRep ρ β ok w c v := by
  unfold C.ofVal at h
  split at h <;> first | (cases h) | skip
  · exact ⟨_, rfl, .bool _⟩
  · exact ⟨_, rfl, .int _ _⟩
  · rfl
  · rfl

theorem cellsOfVal_rep {v : Value} {cs : List C} (h : cellsOfVal v = some cs) : CsRep ρ β ok w cs v.cells := by
  unfold cellsOfVal at h
  have hh := mapM_get _ _ _ h
  refine ⟨by simpa using hh.1.symm, fun j c hj => ?_⟩
  obtain ⟨x, hx, hf⟩ := mapM_back _ h hj
  exact ⟨x, by simpa using hx, C.ofVal_rep hf⟩

theorem S1.ofVal_rep {v : Value} {s : S1} (h : S1.ofVal v = some s) : S1Rep ρ β ok w s v := by
  cases v
  case agg cs =>
    simp only [S1.ofVal, Option.map_eq_some_iff] at h
    obtain ⟨l, hl, rfl⟩ := h
    exact ⟨cs, rfl, by simpa [Value.cells] using cellsOfVal_rep (v := .agg cs) (by simpa [cellsOfVal, Value.cells] using hl)⟩
  all_goals
    simp only [S1.ofVal, Option.map_eq_some_iff] at h
    obtain ⟨l, hl, rfl⟩ := h
    exact C.ofVal_rep hl

theorem RM.eval (H : RM w0 ok0 fs stk ρ β nt tm bl a w) {x : Operand} {sv : SV} (h : evT tm x = some sv) : SVRep ρ β (okS w0 ok0 bl β) w sv (a.eval x) := by
  cases x with
  | tmp t =>
    obtain ⟨v, hv, hr⟩ := H.htm t sv h
    have : a.eval (.tmp t) = v := by simp [Act.eval, Array.getD_eq_getD_getElem?, hv]
    rw [this]; exact hr
  | const v =>
    simp only [evT, Option.map_eq_some_iff] at h
    obtain ⟨s, hs, rfl⟩ := h
    exact S1.ofVal_rep hs
  | func f =>
    simp only [evT] at h; cases h
    exact ⟨#[], rfl, rfl, fun j k hj => by simp at hj⟩
  | global g => cases h

theorem rd_of_lt {n : Nat} {a : A} (h : a.lt n = true) (hn : ρ.length = n) : ∃ d, a.rd ρ = some d := by
  cases a with
  | var i => simp only [A.lt, decide_eq_true_eq] at h; exact ⟨ρ[i], by simp [A.rd]⟩
  | bol x => exact ⟨_, rfl⟩
  | int k n => exact ⟨_, rfl⟩
  | nil => exact ⟨_, rfl⟩

theorem ev_of_ext {n : Nat} {a : A} (h : a.lt n = true) (hn : ρ.length = n) (hE : Ext ρ ρ') {d : DV} (hd : a.rd ρ' = some d) : a.ev ρ = d := by
  obtain ⟨d', hd'⟩ := rd_of_lt h hn
  rw [A.rd_ext hE hd'] at hd; cases hd
  exact A.ev_of_rd hd'

theorem A.const_ev {a : A} {d : DV} (h : a.const = some d) : a.ev ρ = d := by cases a <;> simp_all [A.const, A.ev]
theorem DV.atom_rd {d : DV} {a : A} (h : d.atom = some a) : a.rd ρ = some d := by cases d <;> simp [DV.atom] at h <;> subst h <;> rfl

end

/-- What a primitive leaves. -/
theorem emit_sound {P : Program} {As : List (List DV → Prop)} {ρ : List DV} {Q : List AV → Prop} {p : Prim} {args : List A} {S : St} {K : St → Option IR} {ir : IR}
    (h : emit p args S K = some ir) (hw : IRwp P As ρ ir Q) (hl : ρ.length = S.nv) :
    ∃ d ir', args.all (A.lt S.nv) = true ∧ p.den (args.map (A.ev ρ)) = some d ∧ K { S with nv := S.nv + 1 } = some ir' ∧ IRwp P As (ρ ++ [d]) ir' Q ∧ Ext ρ (ρ ++ [d]) ∧ (ρ ++ [d]).length = S.nv + 1 ∧ (A.var S.nv).rd (ρ ++ [d]) = some d := by
  unfold emit at h
  split at h
  · rename_i hlt
    simp only [Option.map_eq_some_iff] at h
    obtain ⟨ir', hk, rfl⟩ := h
    obtain ⟨d, hd, hw'⟩ := hw
    exact ⟨d, ir', hlt, hd, hk, hw', Ext.app _ _, by simp [hl], by simp [A.rd, ← hl]⟩
  · cases h

theorem prim_sound {P : Program} {As : List (List DV → Prop)} {ρ : List DV} {Q : List AV → Prop} {p : Prim} {args : List A} {S : St} {K : A → St → Option IR} {ir : IR}
    (h : prim p args S K = some ir) (hw : IRwp P As ρ ir Q) (hl : ρ.length = S.nv) :
    ∃ z d n ρ' ir', (args.all (A.lt S.nv) = true) ∧ p.den (args.map (A.ev ρ)) = some d ∧ K z { S with nv := n } = some ir' ∧ IRwp P As ρ' ir' Q ∧ Ext ρ ρ' ∧ ρ'.length = n ∧ z.rd ρ' = some d := by
  unfold prim at h
  split at h
  · rename_i z hz
    simp only [Option.bind_eq_some_iff] at hz
    obtain ⟨ds, hds, d, hd, hza⟩ := hz
    have he : args.map (A.ev ρ) = ds := by
      have hh := mapM_get _ _ _ hds
      apply List.ext_getElem?
      intro j
      rw [List.getElem?_map]
      cases hj : args[j]? with
      | none =>
        have : ds[j]? = none := by rw [List.getElem?_eq_none_iff] at hj ⊢; omega
        simp [this]
      | some x =>
        obtain ⟨y, hy, hf⟩ := hh.2 j x hj
        simp [hy, A.const_ev hf]
    have hlt : args.all (A.lt S.nv) = true := by
      rw [List.all_eq_true]
      intro x hx
      obtain ⟨j, hj⟩ := List.mem_iff_getElem?.1 hx
      obtain ⟨y, _, hf⟩ := (mapM_get _ _ _ hds).2 j x hj
      cases x <;> simp_all [A.const, A.lt]
    exact ⟨z, d, S.nv, ρ, ir, hlt, by rw [he]; exact hd, h, hw, Ext.refl _, hl, DV.atom_rd hza⟩
  · obtain ⟨d, ir', hlt, hd, hk, hw', hE, hl', hz⟩ := emit_sound h hw hl
    exact ⟨.var S.nv, d, S.nv + 1, ρ ++ [d], ir', hlt, hd, hk, hw', hE, hl', hz⟩

/-! ### Freezing -/
def patch {α : Type} (bl bl' : Nat → Option α) (ks : List Nat) : Nat → Option α := fun k => if k ∈ ks then bl' k else bl k

theorem patch_nil {α : Type} (bl bl' : Nat → Option α) : patch bl bl' [] = bl := by funext k; simp [patch]
theorem patch_same {α : Type} {bl bl' : Nat → Option α} {ks : List Nat} (h : ∀ k ∈ ks, bl k = bl' k) : patch bl bl' ks = bl := by
  funext k; unfold patch; split
  · rename_i hk; exact (h k hk).symm
  · rfl
theorem patch_patch {α : Type} {bl b1 b2 : Nat → Option α} {k1 k2 : List Nat} (h : ∀ k, k ∉ k2 → b2 k = b1 k) : patch (patch bl b1 k1) b2 k2 = patch bl b2 (k1 ++ k2) := by
  funext k
  simp only [patch, List.mem_append]
  by_cases h2 : k ∈ k2
  · simp [h2]
  · by_cases h1 : k ∈ k1
    · simp [h1, h2, h k h2]
    · simp [h1, h2]
/-- A wider patch is the same one where nothing more is turned. -/
theorem patch_wide {α : Type} {bl b0 b1 : Nat → Option α} {k1 k2 : List Nat} (hsub : ∀ k ∈ k1, k ∈ k2) (h0 : ∀ k ∈ k2, bl k = b0 k) (h1 : ∀ k, k ∉ k1 → b1 k = b0 k) : patch bl b1 k2 = patch bl b1 k1 := by
  funext k
  simp only [patch]
  by_cases hk1 : k ∈ k1
  · simp [hk1, hsub k hk1]
  · by_cases hk2 : k ∈ k2
    · simp [hk1, hk2, h1 k hk1, h0 k hk2]
    · simp [hk1, hk2]

section
variable {w0 : W0} {ok0 : Nat → Prop} {fs : List (Array Value)} {stk : List Frm} {ρ ρ' : List DV} {β : Bm} {nt : Nat} {tm : Nat → Option SV} {bl : Nat → Option Blk} {a : Act} {w : World} {ok : Nat → Prop}

theorem oneCell'_of_reads {d : DV} {v : Value} (h : Reads ok w d v) : v.oneCell' = true := by cases h <;> rfl

/-- An own row reads as the list that it holds. -/
theorem OwnRep.reads {v : Value} {n : Nat} {cells : List DV} {s : Nat} {E : TypeId} (h : OwnRep w0 ok w v n cells s E) (hok : ∀ b, blockOf v = some b → ok b) : Reads ok w (.list n cells) v := by
  obtain ⟨xs, ho, hl, hc⟩ := h
  rcases ho.2 with ⟨rfl, rfl⟩ | ⟨g, cap, cur, rfl, hbg, hh, hn, hm, hs, htake⟩
  · have : cells = [] := List.eq_nil_of_length_eq_zero (by rw [← hl, ho.1]; simp)
    subst this
    exact .list 0 [] none 0 (fun _ => undef) (Nat.le_refl _) (fun h => absurd rfl h) (fun j d hj => by simp at hj)
  · refine .list n cells _ cap (fun j => xs.getD j undef) hn (fun _ => ⟨_, rfl, hok g rfl, fun j hj => ?_⟩) (fun j d hj => ?_)
    · have hx : xs[j]? = some (xs.getD j undef) := by
        have : j < xs.length := by rw [hl]; exact hj
        simp [List.getD, List.getElem?_eq_getElem this]
      have := World.ownsR.cells (w := w) (v := .slice (some ⟨g, 0, none⟩) n cap) ho (g := g) rfl j _ hx
      exact this
    · obtain ⟨u, hu, hq⟩ := hc j d hj
      have : xs.getD j undef = u := by simp [List.getD, hu]
      show Reads ok w d (xs.getD j undef)
      rw [this]; exact hq

theorem okS_upd_fro {k : Nat} {x : A} {b : Nat} (h : okS w0 ok0 bl β b) : okS w0 ok0 (upd bl k (some (.fro x))) β b := by
  refine ⟨h.1, fun k' blk v hb hm hv => ?_⟩
  unfold upd at hb
  split at hb
  · cases hb; cases hm
  · exact h.2 k' blk v hb hm hv

theorem RM.freeze (H : RM w0 ok0 fs stk ρ β nt tm bl a w) {k : Nat} {x : A} {s : Nat} {E : TypeId} (hk : bl k = some (.own x s E)) :
    RM w0 ok0 fs stk ρ β nt tm (upd bl k (some (.fro x))) a w := by
  obtain ⟨v, n, cells, h1, h2, h3⟩ := H.hbl k _ hk
  have hokv : ∀ b, blockOf v = some b → okS w0 ok0 (upd bl k (some (.fro x))) β b := fun b hb => by
    refine ⟨.inr (h3.lt hb).1, fun k' blk v' hb' hm hv' he => ?_⟩
    unfold upd at hb'
    split at hb'
    · cases hb'; cases hm
    · rename_i hne
      exact hne (H.inj k' k blk _ v' v b hb' hm hk rfl hv' h1 he hb)
  have hmono : ∀ b o, okS w0 ok0 bl β b → w.heap[b]? = some o → okS w0 ok0 (upd bl k (some (.fro x))) β b ∧ w.heap[b]? = some o := fun b o hb ho => ⟨okS_upd_fro hb, ho⟩
  refine H.step (Ext.refl _) (fun _ _ h => h) hmono (fun k' b hb => ?_) (fun k1 k2 b1 b2 v1 v2 m e1 m1 e2 m2 => ?_) H.bel H.na
  · unfold upd at hb
    split at hb
    · rename_i hke; subst hke; cases hb
      refine .inr ⟨v, n, cells, h1, h2, (h3.imp hmono fun _ _ => rfl).reads hokv, ?_⟩
      obtain ⟨xs, ho, _⟩ := h3
      rcases ho.2 with ⟨rfl, rfl⟩ | ⟨g, cap, cur, rfl, _⟩
      · exact .inl rfl
      · exact .inr ⟨g, cap, rfl⟩
    · exact .inl ⟨hb, fun _ _ _ _ _ => rfl⟩
  · unfold upd at e1 e2
    split at e1
    · cases e1; cases m1
    · split at e2
      · cases e2; cases m2
      · exact H.inj k1 k2 b1 b2 v1 v2 m e1 m1 e2 m2

theorem upd_eq_patch {S1 : St} {S : St} {k : Nat} {b : Blk} (h : S1.bl = upd S.bl k (some b)) : upd bl k (some b) = patch bl S1.bl [k] := by
  funext j
  simp only [upd, patch, h, List.mem_singleton]
  split <;> simp_all

/-- A cell told as an atom, in whatever state that agrees on the block that it names. -/
theorem toA_sound {S S1 : St} {c : C} {x : A} (h : S.toA c = some (x, S1)) : S1 = { S with bl := S1.bl } ∧ (∀ k, k ∉ c.blocks → S1.bl k = S.bl k) ∧
    (RM w0 ok0 fs stk ρ β nt tm bl a w → (∀ k ∈ c.blocks, bl k = S.bl k) → ∀ v, CRep ρ β (okS w0 ok0 bl β) w c v →
      RM w0 ok0 fs stk ρ β nt tm (patch bl S1.bl c.blocks) a w ∧ (∀ b, okS w0 ok0 bl β b → okS w0 ok0 (patch bl S1.bl c.blocks) β b) ∧
      ∃ d, x.rd ρ = some d ∧ Reads (okS w0 ok0 (patch bl S1.bl c.blocks) β) w d v) := by
  cases c <;> simp only [St.toA] at h
  case «at» y =>
    cases h
    exact ⟨rfl, fun _ _ => rfl, fun H _ v hv => by simp only [C.blocks, patch_nil]; exact ⟨H, fun _ h => h, hv⟩⟩
  case nils =>
    cases h
    refine ⟨rfl, fun _ _ => rfl, fun H _ v hv => by
      simp only [C.blocks, patch_nil]
      refine ⟨H, fun _ h => h, .list 0 [], rfl, ?_⟩
      simp only [CRep] at hv; subst hv
      exact .list 0 [] none 0 (fun _ => undef) (Nat.le_refl _) (fun h => absurd rfl h) (fun j d hj => by simp at hj)⟩
  case ful y =>
    cases h
    exact ⟨rfl, fun _ _ => rfl, fun H _ v hv => by
      obtain ⟨d, hd, hr, _⟩ := hv
      simp only [C.blocks, patch_nil]; exact ⟨H, fun _ h => h, d, hd, hr⟩⟩
  case own k =>
    split at h
    · rename_i y s E hk
      cases h
      refine ⟨rfl, fun j hj => by simp only [C.blocks, List.mem_singleton] at hj; simp [St.setB, upd, hj], fun H hag v hv => ?_⟩
      have hk' : bl k = some (.own x s E) := by rw [hag k (by simp [C.blocks])]; exact hk
      have hp : patch bl (S.setB k (.fro x)).bl (C.blocks (.own k)) = upd bl k (some (.fro x)) := by
        rw [upd_eq_patch (S1 := S.setB k (.fro x)) (S := S) (k := k) (b := .fro x) rfl]; rfl
      rw [hp]
      have H' := H.freeze hk'
      refine ⟨H', fun b hb => okS_upd_fro hb, ?_⟩
      obtain ⟨v', n, cells, h1, h2, h3, _⟩ := H'.hbl k (.fro x) (by simp [upd])
      simp only [CRep] at hv
      rw [hv] at h1; cases h1
      exact ⟨_, h2, h3⟩
    · rename_i y hk
      cases h
      refine ⟨rfl, fun _ _ => rfl, fun H hag v hv => ?_⟩
      have hk' : bl k = some (.fro x) := by rw [hag k (by simp [C.blocks])]; exact hk
      rw [patch_same hag]
      refine ⟨H, fun _ h => h, ?_⟩
      obtain ⟨v', n, cells, h1, h2, h3, _⟩ := H.hbl k (.fro x) hk'
      simp only [CRep] at hv
      rw [hv] at h1; cases h1
      exact ⟨_, h2, h3⟩
    · cases h
  all_goals cases h


/-- Reads of what an atom is. -/
def ARd (ρ : List DV) (ok : Nat → Prop) (w : World) (x : A) (v : Value) : Prop := ∃ d, x.rd ρ = some d ∧ Reads ok w d v

theorem toAs_sound : ∀ {cs : List C} {S S1 : St} {l : List A}, S.toAs cs = some (l, S1) → S1 = { S with bl := S1.bl } ∧ (∀ k, k ∉ cs.flatMap C.blocks → S1.bl k = S.bl k) ∧ l.length = cs.length ∧
    ∀ {bl : Nat → Option Blk}, RM w0 ok0 fs stk ρ β nt tm bl a w → (∀ k ∈ cs.flatMap C.blocks, bl k = S.bl k) → ∀ vs : Nat → Value, (∀ (j : Nat) (c : C), cs[j]? = some c → CRep ρ β (okS w0 ok0 bl β) w c (vs j)) →
      RM w0 ok0 fs stk ρ β nt tm (patch bl S1.bl (cs.flatMap C.blocks)) a w ∧ (∀ b, okS w0 ok0 bl β b → okS w0 ok0 (patch bl S1.bl (cs.flatMap C.blocks)) β b) ∧
      ∀ (j : Nat) (x : A), l[j]? = some x → ARd ρ (okS w0 ok0 (patch bl S1.bl (cs.flatMap C.blocks)) β) w x (vs j)
  | [], S, S1, l, h => by
    simp only [St.toAs] at h; cases h
    exact ⟨rfl, fun _ _ => rfl, rfl, fun H _ vs _ => by simp only [List.flatMap_nil, patch_nil]; exact ⟨H, fun _ h => h, fun j x hj => by simp at hj⟩⟩
  | c :: r, S, S1, l, h => by
    simp only [St.toAs, Option.bind_eq_bind, Option.bind_eq_some_iff, Option.pure_def] at h
    obtain ⟨⟨x, S'⟩, hx, ⟨l', S''⟩, hl', hh⟩ := h
    cases hh
    obtain ⟨e1, u1, _⟩ := toA_sound (w0 := w0) (ok0 := ok0) (fs := fs) (stk := stk) (ρ := ρ) (β := β) (nt := nt) (tm := tm) (bl := S.bl) (a := a) (w := w) hx
    obtain ⟨e2, u2, n2, f2⟩ := toAs_sound hl'
    refine ⟨by rw [e2, e1], fun k hk => ?_, by simp [n2], fun {bl} H hag vs hvs => ?_⟩
    · simp only [List.flatMap_cons, List.mem_append, not_or] at hk
      rw [u2 k hk.2, u1 k hk.1]
    · simp only [List.flatMap_cons] at hag ⊢
      obtain ⟨H1, m1, d, hd, hr⟩ := (toA_sound (bl := bl) hx).2.2 H (fun k hk => hag k (by simp [hk])) (vs 0) (hvs 0 c rfl)
      have hag2 : ∀ k ∈ r.flatMap C.blocks, patch bl S'.bl c.blocks k = S'.bl k := fun k hk => by
        unfold patch; split
        · rfl
        · rename_i hn; rw [u1 k hn]; exact hag k (by simp [hk])
      obtain ⟨H2, m2, f3⟩ := f2 H1 hag2 (fun j => vs (j + 1)) (fun j c' hj => (hvs (j + 1) c' (by simpa using hj)).imp (Ext.refl _) (fun _ _ h => h) (fun b o hb ho => ⟨m1 b hb, ho⟩))
      rw [patch_patch u2] at H2 m2 f3
      refine ⟨H2, fun b hb => m2 b (m1 b hb), fun j y hj => ?_⟩
      cases j with
      | zero => simp at hj; subst hj; exact ⟨d, hd, hr.mono m2⟩
      | succ j => exact f3 j y (by simpa using hj)

/-! ### What an operation must show -/
/-- So long as a state agrees with S on what the operation names, it goes on as S' says. -/
def OpOK (P : Program) (o : Oper) (id : Nat) (S S' : St) (ks : List Nat) (sv : Option SV) (ρ' : List DV) : Prop :=
  ∀ (ρf : List DV), Ext ρ' ρf → ∀ (w0 : W0) (ok0 : Nat → Prop) (fs : List (Array Value)) (stk : List Frm) (β : Bm) (nt : Nat) (tm : Nat → Option SV) (bl : Nat → Option Blk) (a : Act) (w : World),
    RM w0 ok0 fs stk ρf β nt tm bl a w → (∀ x ∈ o.op.operands, evT tm x = S.ev x) → (∀ k ∈ ks, bl k = S.bl k) → β id = none → bl id = none →
    ∀ (K : Act → World → Prop) (Q : Exit → Act → World → Prop),
      (∀ v β' w', RM w0 ok0 fs stk ρf β' nt tm (patch bl S'.bl (id :: ks)) a w' → (∀ k u, β k = some u → β' k = some u) → (∀ k, k ≠ id → β' k = β k) →
        (∀ s, sv = some s → SVRep ρf β' (okS w0 ok0 (patch bl S'.bl (id :: ks)) β') w' s v) → K (a.put o.dst v) w') → o.wp P a w K Q

def Same (S S' : St) : Prop := S'.fr = S.fr ∧ S'.stk = S.stk ∧ S'.nb = S.nb ∧ S'.dp = S.dp ∧ S'.kn = S.kn

def OpOut (P : Program) (o : Oper) (id : Nat) (S : St) (ks : List Nat) (K : Option SV → St → Option IR) (As : List (List DV → Prop)) (ρ : List DV) (Q : List AV → Prop) : Prop :=
  ∃ ρ' sv S' ir', Ext ρ ρ' ∧ ρ'.length = S'.nv ∧ K sv S' = some ir' ∧ IRwp P As ρ' ir' Q ∧ Same S S' ∧ (∀ k, k ∉ id :: ks → S'.bl k = S.bl k) ∧
    ((turnsOp o.op = false → ∀ k, k ≠ id → S'.bl k = S.bl k) ∧ ∀ k, k ≠ id → S.bl k = none → S'.bl k = none) ∧ OpOK P o id S S' ks sv ρ'

theorem wp_value {P : Program} {o : Oper} {a : Act} {w w' : World} {v : Value} {K : Act → World → Prop} {Q : Exit → Act → World → Prop} (h : (execOp a.eval o).run P w = .ok (.value v) w') (hk : K (a.put o.dst v) w') : o.wp P a w K Q := by
  unfold Oper.wp; rw [h]; exact hk
theorem wp_skipped {P : Program} {o : Oper} {a : Act} {w w' : World} {K : Act → World → Prop} {Q : Exit → Act → World → Prop} (h : (execOp a.eval o).run P w = .ok .skip w') (hk : K (a.put o.dst undef) w') : o.wp P a w K Q := by
  unfold Oper.wp; rw [h]; exact hk

/-- An operation that leaves memory alone. -/
theorem OpOut.plain {P : Program} {o : Oper} {id : Nat} {S : St} {ks : List Nat} {K : Option SV → St → Option IR} {As : List (List DV → Prop)} {ρ ρ' : List DV} {Q : List AV → Prop} {sv : Option SV} {n : Nat} {ir' : IR}
    (hE : Ext ρ ρ') (hl : ρ'.length = n) (hK : K sv { S with nv := n } = some ir') (hw : IRwp P As ρ' ir' Q) (hid : S.bl id = none)
    (h : ∀ (ρf : List DV), Ext ρ' ρf → ∀ (w0 : W0) (ok0 : Nat → Prop) (fs : List (Array Value)) (stk : List Frm) (β : Bm) (nt : Nat) (tm : Nat → Option SV) (bl : Nat → Option Blk) (a : Act) (w : World),
      RM w0 ok0 fs stk ρf β nt tm bl a w → (∀ x ∈ o.op.operands, evT tm x = S.ev x) → (∀ k ∈ ks, bl k = S.bl k) →
      ∃ v, (execOp a.eval o).run P w = .ok (.value v) w ∧ ∀ s, sv = some s → SVRep ρf β (okS w0 ok0 bl β) w s v) : OpOut P o id S ks K As ρ Q := by
  refine ⟨ρ', sv, { S with nv := n }, ir', hE, hl, hK, hw, ⟨rfl, rfl, rfl, rfl, rfl⟩, fun _ _ => rfl, ⟨fun _ _ _ => rfl, fun _ _ h => h⟩, ?_⟩
  intro ρf hEf w0 ok0 fs stk β nt tm bl a w H hag hb hβ hbl K' Q' hk
  obtain ⟨v, hrun, hv⟩ := h ρf hEf w0 ok0 fs stk β nt tm bl a w H hag hb
  have hp : patch bl S.bl (id :: ks) = bl := patch_same fun k hk => by
    rcases List.mem_cons.1 hk with rfl | hk
    · rw [hbl, hid]
    · exact hb k hk
  refine wp_value hrun (hk v β w ?_ (fun _ _ h => h) (fun _ _ => rfl) ?_)
  · rw [hp]; exact H
  · rw [hp]; exact hv

end
end Go.Px
/- Px4: one operation, part two: blocks that come and go; each operation by itself. -/
set_option linter.unusedSimpArgs false
set_option linter.unusedVariables false
namespace Go.Px
open Go.RowKit

theorem named_mem {S : St} {o : Op} {x : Operand} (hx : x ∈ o.operands) {k : Nat} (hk : k ∈ SV.blocks (S.ev x)) : k ∈ namedOf S o := by
  refine List.mem_append.2 (.inl (List.mem_flatMap.2 ⟨S.ev x, List.mem_map.2 ⟨x, by simpa using hx, rfl⟩, hk⟩))

def KnOK (kn : List (Nat × Bool)) (ρ : List DV) : Prop := ∀ i b, (i, b) ∈ kn → ρ[i]? = some (.bool b)
theorem KnOK.ext {kn : List (Nat × Bool)} {ρ ρ' : List DV} (h : KnOK kn ρ) (hE : Ext ρ ρ') : KnOK kn ρ' := fun i b hi => hE _ _ (h i b hi)
theorem tru_rd {S : St} {ρ : List DV} {x : A} {t : Bool} (hk : KnOK S.kn ρ) (h : S.tru x = some t) : x.rd ρ = some (.bool t) := by
  cases x <;> simp only [St.tru] at h
  case var i =>
    simp only [Option.map_eq_some_iff] at h
    obtain ⟨⟨j, b⟩, hf, rfl⟩ := h
    have hm := List.mem_of_find?_eq_some hf
    have he := List.find?_some hf
    simp only [beq_iff_eq] at he
    subst he
    exact hk _ _ hm
  case bol b => cases h; rfl
  all_goals cases h

section
variable {w0 : W0} {ok0 : Nat → Prop} {fs : List (Array Value)} {stk : List Frm} {ρ ρ' : List DV} {β : Bm} {nt : Nat} {tm : Nat → Option SV} {bl : Nat → Option Blk} {a : Act} {w : World} {ok : Nat → Prop}

def dropO (bl : Nat → Option Blk) (k0 : Option Nat) : Nat → Option Blk := match k0 with | some k => upd bl k none | none => bl
theorem dropO_some {bl : Nat → Option Blk} {k0 : Option Nat} {k : Nat} {b : Blk} (h : dropO bl k0 k = some b) : bl k = some b ∧ k0 ≠ some k := by
  cases k0 with
  | none => exact ⟨h, by simp⟩
  | some k' =>
    simp only [dropO, upd] at h
    split at h
    · cases h
    · rename_i hne; exact ⟨h, fun e => hne (Option.some.inj e).symm⟩

theorem RM.lt_of_mut (H : RM w0 ok0 fs stk ρ β nt tm bl a w) {k : Nat} {b : Blk} {v : Value} {m : Nat} (hb : bl k = some b) (hm : b.mut = true) (hv : β k = some v) (hbo : blockOf v = some m) : w0.own m ∧ m < w.heap.size := by
  have hk := H.hbl k b hb
  cases b with
  | box cs T ro =>
    obtain ⟨b', arr, T', fz, h1, h2, h3, h4, h5⟩ := hk
    rw [hv] at h1; cases h1; cases hbo
    exact ⟨(h4 (by simpa [Blk.mut] using hm)).1, (Array.getElem?_eq_some_iff.1 h2).1⟩
  | own x s E =>
    obtain ⟨v', n, cells, h1, _, h3⟩ := hk
    rw [hv] at h1; cases h1
    exact h3.lt hbo
  | fro x => cases hm

/-- A new block, in the place of one that is dropped perhaps, whose row it may have taken over. -/
theorem RM.turn (H : RM w0 ok0 fs stk ρ β nt tm bl a w) {k0 : Option Nat} {id : Nat} {blk : Blk} {v : Value} {w' : World} {row : Option Nat} (hβ : β id = none) (hid : bl id = none)
    (hg : GrowsBy w w' row) (hrow : ∀ r, row = some r → ∃ k b u, k0 = some k ∧ bl k = some b ∧ b.mut = true ∧ β k = some u ∧ blockOf u = some r)
    (hv : ∀ m, blockOf v = some m → w.heap.size ≤ m ∨ row = some m) (hna : v.oneCell' = true)
    (hrep : (∀ b o, okS w0 ok0 bl β b → w.heap[b]? = some o → okS w0 ok0 (upd (dropO bl k0) id (some blk)) (upd β id (some v)) b ∧ w'.heap[b]? = some o) →
      (∀ m, blockOf v = some m → blk.mut = false → okS w0 ok0 (upd (dropO bl k0) id (some blk)) (upd β id (some v)) m) →
      BlkRep w0 ρ (upd β id (some v)) (okS w0 ok0 (upd (dropO bl k0) id (some blk)) (upd β id (some v))) w' id blk) :
    RM w0 ok0 fs stk ρ (upd β id (some v)) nt tm (upd (dropO bl k0) id (some blk)) a w' ∧
      (∀ b o, okS w0 ok0 bl β b → w.heap[b]? = some o → okS w0 ok0 (upd (dropO bl k0) id (some blk)) (upd β id (some v)) b ∧ w'.heap[b]? = some o) := by
  have hβ' : ∀ k u, β k = some u → upd β id (some v) k = some u := fun k u hk => by
    unfold upd; split
    · rename_i he; subst he; rw [hβ] at hk; cases hk
    · exact hk
  have rowlt : ∀ r, row = some r → w0.own r ∧ r < w.heap.size := fun r hr => by
    obtain ⟨k, b, u, _, hb, hm, hu, hbo⟩ := hrow r hr
    exact H.lt_of_mut hb hm hu hbo
  have hmono : ∀ b o, okS w0 ok0 bl β b → w.heap[b]? = some o → okS w0 ok0 (upd (dropO bl k0) id (some blk)) (upd β id (some v)) b ∧ w'.heap[b]? = some o := fun b o hb ho => by
    have hlt : b < w.heap.size := (Array.getElem?_eq_some_iff.1 ho).1
    have hnr : some b ≠ row := fun he => by
      obtain ⟨k, b', u, _, hb', hm, hu, hbo⟩ := hrow b he.symm
      exact hb.2 k b' u hb' hm hu hbo
    refine ⟨⟨hb.1, fun k b' u hb' hm hu hbo => ?_⟩, by rw [hg.block b hlt hnr]; exact ho⟩
    by_cases hk : k = id
    · subst hk
      simp only [upd, if_true] at hb' hu
      cases hb'; cases hu
      rcases hv b hbo with h1 | h1
      · omega
      · exact hnr h1.symm
    · simp only [upd, if_neg hk] at hb' hu
      exact hb.2 k b' u (dropO_some hb').1 hm hu hbo
  refine ⟨H.step (Ext.refl _) hβ' hmono (fun k b hb => ?_) (fun k k' b b' u u' m e1 m1 e2 m2 f1 f2 g1 g2 => ?_) ?_ (fun k u hu => ?_), hmono⟩
  · by_cases hk : k = id
    · rw [hk] at hb ⊢
      simp only [upd, if_true] at hb
      cases hb
      refine .inr (hrep hmono fun m hm hmut => ⟨?_, fun k2 b' u hb' hm' hu hbo => ?_⟩)
      · rcases hv m hm with h1 | h1
        · exact .inr (H.bel.own h1)
        · exact .inr (rowlt m h1).1
      · by_cases hki : k2 = id
        · rw [hki] at hb'
          simp only [upd, if_true] at hb'
          cases hb'; rw [hmut] at hm'; cases hm'
        · simp only [upd, if_neg hki] at hb' hu
          have hb2 := dropO_some hb'
          have hl2 := H.lt_of_mut hb2.1 hm' hu hbo
          rcases hv m hm with h1 | h1
          · omega
          · obtain ⟨k3, b2, u2, hk0, hb3, hm3, hu3, hbo3⟩ := hrow m h1
            have := H.inj k2 k3 b' b2 u u2 m hb2.1 hm' hb3 hm3 hu hu3 hbo hbo3
            subst this
            exact hb2.2 hk0
    · simp only [upd, if_neg hk] at hb
      have hb2 := dropO_some hb
      refine .inl ⟨hb2.1, fun u m hu hm hor => ?_⟩
      have hlt : m < w.heap.size := by
        rcases hor with hmut | hlt
        · exact (H.lt_of_mut hb2.1 hmut hu hm).2
        · exact Nat.lt_of_lt_of_le hlt.1 H.bel.size
      refine hg.block m hlt fun he => ?_
      obtain ⟨k2, b2, u2, hk0, hb3, hm3, hu3, hbo3⟩ := hrow m he.symm
      rcases hor with hmut | hlt'
      · have := H.inj k k2 b b2 u u2 m hb2.1 hmut hb3 hm3 hu hu3 hm hbo3
        subst this
        exact hb2.2 hk0
      · exact W0.old_not hlt' (H.lt_of_mut hb3 hm3 hu3 hbo3).1
  · by_cases h1 : k = id
    · by_cases h2 : k' = id
      · rw [h1, h2]
      · subst h1
        simp only [upd, if_true] at e1 f1
        simp only [upd, if_neg h2] at e2 f2
        cases e1; cases f1
        have hb2 := dropO_some e2
        have hl2 := H.lt_of_mut hb2.1 m2 f2 g2
        rcases hv m g1 with h3 | h3
        · omega
        · obtain ⟨k2, b2, u2, hk0, hb3, hm3, hu3, hbo3⟩ := hrow m h3
          have := H.inj k' k2 b' b2 u' u2 m hb2.1 m2 hb3 hm3 f2 hu3 g2 hbo3
          subst this
          exact absurd hk0 hb2.2
    · by_cases h2 : k' = id
      · subst h2
        simp only [upd, if_true] at e2 f2
        simp only [upd, if_neg h1] at e1 f1
        cases e2; cases f2
        have hb2 := dropO_some e1
        have hl2 := H.lt_of_mut hb2.1 m1 f1 g1
        rcases hv m g2 with h3 | h3
        · omega
        · obtain ⟨k2, b2, u2, hk0, hb3, hm3, hu3, hbo3⟩ := hrow m h3
          have := H.inj k k2 b b2 u u2 m hb2.1 m1 hb3 hm3 f1 hu3 g1 hbo3
          subst this
          exact absurd hk0 hb2.2
      · simp only [upd, if_neg h1] at e1 f1
        simp only [upd, if_neg h2] at e2 f2
        exact H.inj k k' b b' u u' m (dropO_some e1).1 m1 (dropO_some e2).1 m2 f1 f2 g1 g2
  · refine H.bel.then hg.os hg.tape hg.output hg.drawn hg.size fun i hi => hg.block i (Nat.lt_of_lt_of_le hi.1 H.bel.size) fun he => ?_
    exact W0.old_not hi (rowlt i he.symm).1
  · by_cases hk : k = id
    · subst hk; simp only [upd, if_true] at hu; cases hu; exact hna
    · simp only [upd, if_neg hk] at hu; exact H.na k u hu

theorem RM.new_box (H : RM w0 ok0 fs stk ρ β nt tm bl a w) {id : Nat} (hβ : β id = none) (hid : bl id = none) {cs : List C} {arr : Array Value} (T T' : TypeId) (hT : T ≠ GIV) (hc : CsRep ρ β (okS w0 ok0 bl β) w cs arr) :
    RM w0 ok0 fs stk ρ (upd β id (some (.pointer (some ⟨w.heap.size, 0, none⟩)))) nt tm (upd bl id (some (.box cs T false))) a (w.alloc (.cells arr T')) := by
  refine (H.turn (k0 := none) (row := none) hβ hid ⟨World.grownBy_alloc w _ none, Nat.le_refl _⟩ (fun r hr => by cases hr) (fun m hm => by cases hm; exact .inl (Nat.le_refl _)) rfl fun hmono _ => ?_).1
  refine ⟨w.heap.size, arr, T', (0, 0), by simp [upd], heap_alloc_new w _, hc.imp (Ext.refl _) (fun k u hk => ?_) hmono, fun _ => ⟨H.bel.own (Nat.le_refl _), rfl⟩, fun h => (by cases h), fun h => absurd h hT⟩
  unfold upd; split
  · rename_i he; subst he; rw [hβ] at hk; cases hk
  · exact hk

end

theorem RM.one {w0 : W0} {ok0 : Nat → Prop} {fs : List (Array Value)} {stk : List Frm} {ρ : List DV} {β : Bm} {nt : Nat} {tm : Nat → Option SV} {bl : Nat → Option Blk} {a : Act} {w : World}
    (H : RM w0 ok0 fs stk ρ β nt tm bl a w) {x : Operand} {c : C} (h : evT tm x = some (.s (.one c))) : CRep ρ β (okS w0 ok0 bl β) w c (a.eval x) := H.eval h
theorem reads_bool {ok : Nat → Prop} {w : World} {b : Bool} {v : Value} (h : Reads ok w (.bool b) v) : v = .bool b := by cases h; rfl
theorem reads_int {ok : Nat → Prop} {w : World} {k : IntKind} {n : Int} {v : Value} (h : Reads ok w (.int k n) v) : v = .int k n := by cases h; rfl
theorem reads_list {ok : Nat → Prop} {w : World} {n : Nat} {cells : List DV} {v : Value} (h : Reads ok w (.list n cells) v) :
    ∃ a cap, v = .slice a n cap ∧ n ≤ cap ∧ ∃ f : Nat → Value, (cells ≠ [] → ∃ ad, a = some ad ∧ ok ad.block ∧ ∀ j, j < cells.length → w.cell? (ad.add j) = some (f j)) ∧ ∀ (j : Nat) (d : DV), cells[j]? = some d → Reads ok w d (f j) := by
  cases h with
  | list n cells a cap f h1 h2 h3 => exact ⟨a, cap, rfl, h1, f, h2, h3⟩

/-! ### Operations that leave memory alone -/
section
variable {P : Program} {o : Oper} {ks : List Nat} {S : St} {K : Option SV → St → Option IR} {As : List (List DV → Prop)} {ρ : List DV} {Q : List AV → Prop} {ir : IR}

theorem op_move {x : Operand} (ho : o.op = .move x ∨ o.op = .assign x) (h : K (S.ev x) S = some ir) (hw : IRwp P As ρ ir Q) (hl : ρ.length = S.nv) (hid : S.bl S.nb = none) : OpOut P o S.nb S ks K As ρ Q := by
  refine OpOut.plain (ρ' := ρ) (n := S.nv) (sv := S.ev x) (Ext.refl _) hl h hw hid fun ρf hE w0 ok0 fs stk β nt tm bl a w H hag hb => ⟨a.eval x, ?_, fun s hs => H.eval ?_⟩
  · rcases ho with ho | ho <;> simp [execOp, ho]
  · rw [hag x (by rcases ho with ho | ho <;> simp [ho, Op.operands])]; exact hs

theorem asBool_run {w : World} (b : Bool) : (asBool (.bool b)).run P w = .ok b w := rfl

theorem op_pick {c x y : Operand} (ho : o.op = .pick c x y) (h : symOp P o 0 S.nb S K = some ir) (hk : KnOK S.kn ρ) (hw : IRwp P As ρ ir Q) (hl : ρ.length = S.nv) (hid : S.bl S.nb = none) : OpOut P o S.nb S ks K As ρ Q := by
  have hmc : c ∈ o.op.operands := by simp [ho, Op.operands]
  have hmx : x ∈ o.op.operands := by simp [ho, Op.operands]
  have hmy : y ∈ o.op.operands := by simp [ho, Op.operands]
  unfold symOp at h
  simp only [ho] at h
  split at h
  · rename_i z hc
    split at h
    · rename_i t ht
      refine OpOut.plain (ρ' := ρ) (n := S.nv) (sv := if t then S.ev x else S.ev y) (Ext.refl _) hl h hw hid fun ρf hE w0 ok0 fs stk β nt tm bl a w H hag hb => ⟨if t then a.eval x else a.eval y, ?_, fun s hs => ?_⟩
      · obtain ⟨d, hd, hr⟩ := H.eval (x := c) (by rw [hag c hmc]; exact hc)
        rw [tru_rd (hk.ext hE) ht] at hd; cases hd
        simp [execOp, ho, reads_bool hr, asBool_run, asBool]
      · cases t
        · exact H.eval (by rw [hag y hmy]; exact hs)
        · exact H.eval (by rw [hag x hmx]; exact hs)
    · split at h
      · rename_i p q hx hy
        obtain ⟨zz, d, n, ρ', ir', hlt, hd, hK, hw', hE', hl', hz⟩ := prim_sound h hw hl
        refine OpOut.plain hE' hl' hK hw' hid fun ρf hE w0 ok0 fs stk β nt tm bl a w H hag hb => ?_
        have e1 := H.eval (x := c) (by rw [hag c hmc]; exact hc)
        have e2 := H.eval (x := x) (by rw [hag x hmx]; exact hx)
        have e3 := H.eval (x := y) (by rw [hag y hmy]; exact hy)
        obtain ⟨d1, hd1, hr1⟩ := e1
        obtain ⟨d2, hd2, hr2⟩ := e2
        obtain ⟨d3, hd3, hr3⟩ := e3
        simp only [List.all_cons, List.all_nil, Bool.and_true, Bool.and_eq_true] at hlt
        have hEE := hE'.trans hE
        simp only [List.map_cons, List.map_nil, ev_of_ext hlt.1 hl hEE hd1, ev_of_ext hlt.2.1 hl hEE hd2, ev_of_ext hlt.2.2 hl hEE hd3] at hd
        cases d1 <;> simp only [Prim.den] at hd <;> cases hd
        rename_i b
        have hv1 : a.eval c = .bool b := reads_bool hr1
        refine ⟨if b then a.eval x else a.eval y, by simp [execOp, ho, hv1, asBool_run, asBool], fun s hs => ?_⟩
        cases hs
        refine ⟨_, A.rd_ext hE hz, ?_⟩
        cases b
        · exact hr3
        · exact hr2
      · cases h
  · cases h

theorem op_nilCheck {x : Operand} (ho : o.op = .nilCheck x) (h : symOp P o 0 S.nb S K = some ir) (hw : IRwp P As ρ ir Q) (hl : ρ.length = S.nv) (hid : S.bl S.nb = none) : OpOut P o S.nb S ks K As ρ Q := by
  have hm : x ∈ o.op.operands := by simp [ho, Op.operands]
  unfold symOp at h
  simp only [ho] at h
  have fin : ∀ c : C, S.ev x = some (.s (.one c)) → (∀ {ρ : List DV} {β : Bm} {ok : Nat → Prop} {w : World} {v : Value}, CRep ρ β ok w c v → ∃ ad, v = .pointer (some ad)) → K (some (.s (.one c))) S = some ir → OpOut P o S.nb S ks K As ρ Q := by
    intro c hc hp hK
    refine OpOut.plain (ρ' := ρ) (n := S.nv) (Ext.refl _) hl hK hw hid fun ρf hE w0 ok0 fs stk β nt tm bl a w H hag hb => ⟨a.eval x, ?_, fun s hs => ?_⟩
    · obtain ⟨ad, hv⟩ := hp (H.one (x := x) (by rw [hag x hm]; exact hc))
      simp [execOp, ho, hv]
    · cases hs; exact H.eval (x := x) (by rw [hag x hm]; exact hc)
  split at h
  · rename_i k off hc; exact fin _ hc (fun hr => by obtain ⟨b, _, rfl⟩ := hr; exact ⟨_, rfl⟩) h
  · rename_i k i s off hc; exact fin _ hc (fun hr => by obtain ⟨_, _, _, _, _, _, _, _, _, rfl⟩ := hr; exact ⟨_, rfl⟩) h
  · rename_i y i s off hc; exact fin _ hc (fun hr => by obtain ⟨_, _, _, _, _, _, _, _, _, _, _, _, rfl⟩ := hr; exact ⟨_, rfl⟩) h
  · cases h

theorem op_fieldAddr {t : TypeId} {x : Operand} {f : Nat} (ho : o.op = .fieldAddr t x f) (h : symOp P o 0 S.nb S K = some ir) (hw : IRwp P As ρ ir Q) (hl : ρ.length = S.nv) (hid : S.bl S.nb = none) : OpOut P o S.nb S ks K As ρ Q := by
  have hm : x ∈ o.op.operands := by simp [ho, Op.operands]
  unfold symOp at h
  simp only [ho] at h
  split at h
  · rename_i fds hu
    split at h
    · rename_i fd hf
      have run : ∀ (a : Act) (w : World) (ad : Addr) (n : Nat), sizeT P fd.type = some (n + 1) → a.eval x = .pointer (some ad) → (execOp a.eval o).run P w = .ok (.value (.pointer (some (ad.add fd.offset)))) w := by
        intro a w ad n hs he
        unfold sizeT at hs
        split at hs
        · simp only [Option.map_eq_some_iff] at hs
          obtain ⟨ti, hti, hsz⟩ := hs
          have hne : ¬ ti.size = 0 := by omega
          simp [execOp, ho, he, Instr.fieldAt, run_underlying hu, hf, Instr.sureAddr, fieldPlace, sizeOf, typeInfo, hti, hne]
        · cases hs
      split at h
      · rename_i n k off hs hc
        refine OpOut.plain (ρ' := ρ) (n := S.nv) (Ext.refl _) hl h hw hid fun ρf hE w0 ok0 fs stk β nt tm bl a w H hag hb => ?_
        obtain ⟨b, hβ, hv⟩ := H.eval (x := x) (by rw [hag x hm]; exact hc)
        exact ⟨_, run a w _ n hs hv, fun s hs => by cases hs; exact ⟨b, hβ, by rw [Addr_off]⟩⟩
      · rename_i n y i s off hs hc
        refine OpOut.plain (ρ' := ρ) (n := S.nv) (Ext.refl _) hl h hw hid fun ρf hE w0 ok0 fs stk β nt tm bl a w H hag hb => ?_
        obtain ⟨n', cells, kI, iv, ad, cap, h1, h2, h3, h4, h5, h6, hv⟩ := H.eval (x := x) (by rw [hag x hm]; exact hc)
        exact ⟨_, run a w _ n hs hv, fun s hs => by cases hs; exact ⟨n', cells, kI, iv, ad, cap, h1, h2, h3, h4, h5, h6, by rw [Addr_add_add, Nat.add_assoc]⟩⟩
      · rename_i n k i s off hs hc
        refine OpOut.plain (ρ' := ρ) (n := S.nv) (Ext.refl _) hl h hw hid fun ρf hE w0 ok0 fs stk β nt tm bl a w H hag hb => ?_
        obtain ⟨b, n', cap, kI, iv, h1, h2, h3, h4, hv⟩ := H.eval (x := x) (by rw [hag x hm]; exact hc)
        exact ⟨_, run a w _ n hs hv, fun s hs => by cases hs; exact ⟨b, n', cap, kI, iv, h1, h2, h3, h4, by rw [Addr_off, Nat.add_assoc]⟩⟩
      · cases h
    · cases h
  · cases h

theorem op_extract {x : Operand} {i : Nat} (ho : o.op = .extract x i) (h : symOp P o 0 S.nb S K = some ir) (hw : IRwp P As ρ ir Q) (hl : ρ.length = S.nv) (hid : S.bl S.nb = none) : OpOut P o S.nb S ks K As ρ Q := by
  have hm : x ∈ o.op.operands := by simp [ho, Op.operands]
  unfold symOp at h
  simp only [ho] at h
  split at h
  · rename_i l hc
    split at h
    · rename_i v hv
      refine OpOut.plain (ρ' := ρ) (n := S.nv) (Ext.refl _) hl h hw hid fun ρf hE w0 ok0 fs stk β nt tm bl a w H hag hb => ?_
      obtain ⟨vs, he, hs, hr⟩ := H.eval (x := x) (by rw [hag x hm]; exact hc)
      obtain ⟨u, hu, hq⟩ := hr i v hv
      exact ⟨u, by simp [execOp, ho, he, Instr.extract, hu], fun s hs => by cases hs; exact hq⟩
    · cases h
  · cases h


theorem run_binInt {op : BinOp} {t : TypeId} {X Y : Operand} {k k' : IntKind} {x y : Int} {d : DV} {w : World} {ok : Nat → Prop} (h : binInt op k x k' y = some d) :
    ∃ v, (do eqGuard op t X Y (.int k x) (.int k' y); binOp op t (.int k x) (.int k' y) : Sem Value).run P w = .ok v w ∧ Reads ok w d v := by
  cases op <;> simp only [binInt] at h
  case shl =>
    split at h
    · cases h
    · rename_i hn; cases h; exact ⟨_, by simp [eqGuard, binOp, Op.shift, hn], .int _ _⟩
  case shr =>
    split at h
    · cases h
    · rename_i hn; cases h; exact ⟨_, by simp [eqGuard, binOp, Op.shift, hn], .int _ _⟩
  case quo =>
    split at h
    · cases h
    · rename_i hkk
      have hk' : k = k' := by simpa using hkk
      subst hk'
      split at h
      · cases h
      · rename_i hy; cases h; exact ⟨_, by simp [eqGuard, binOp, Op.intDiv, hy], .int _ _⟩
  case rem =>
    split at h
    · cases h
    · rename_i hkk
      have hk' : k = k' := by simpa using hkk
      subst hk'
      split at h
      · cases h
      · rename_i hy; cases h; exact ⟨_, by simp [eqGuard, binOp, Op.intDiv, hy], .int _ _⟩
  case add =>
    split at h
    · cases h
    · rename_i hkk
      have hk' : k = k' := by simpa using hkk
      subst hk'
      cases h
      exact ⟨_, by simp [eqGuard, binOp, Op.intArith], .int _ _⟩
  case sub =>
    split at h
    · cases h
    · rename_i hkk
      have hk' : k = k' := by simpa using hkk
      subst hk'
      cases h
      exact ⟨_, by simp [eqGuard, binOp, Op.intArith], .int _ _⟩
  case mul =>
    split at h
    · cases h
    · rename_i hkk
      have hk' : k = k' := by simpa using hkk
      subst hk'
      cases h
      exact ⟨_, by simp [eqGuard, binOp, Op.intArith], .int _ _⟩
  case and =>
    split at h
    · cases h
    · rename_i hkk
      have hk' : k = k' := by simpa using hkk
      subst hk'
      cases h
      exact ⟨_, by cases k <;> rfl, .int _ _⟩
  case or =>
    split at h
    · cases h
    · rename_i hkk
      have hk' : k = k' := by simpa using hkk
      subst hk'
      cases h
      exact ⟨_, by cases k <;> rfl, .int _ _⟩
  case xor =>
    split at h
    · cases h
    · rename_i hkk
      have hk' : k = k' := by simpa using hkk
      subst hk'
      cases h
      exact ⟨_, by cases k <;> rfl, .int _ _⟩
  case eql =>
    split at h
    · cases h
    · rename_i hkk
      have hk' : k = k' := by simpa using hkk
      subst hk'
      cases h
      exact ⟨_, by simp [eqGuard, binOp, Op.intCmp], .bool _⟩
  case neq =>
    split at h
    · cases h
    · rename_i hkk
      have hk' : k = k' := by simpa using hkk
      subst hk'
      cases h
      exact ⟨_, by simp [eqGuard, binOp, Op.intCmp], .bool _⟩
  case lss =>
    split at h
    · cases h
    · rename_i hkk
      have hk' : k = k' := by simpa using hkk
      subst hk'
      cases h
      exact ⟨_, by simp [eqGuard, binOp, Op.intCmp], .bool _⟩
  case leq =>
    split at h
    · cases h
    · rename_i hkk
      have hk' : k = k' := by simpa using hkk
      subst hk'
      cases h
      exact ⟨_, by simp [eqGuard, binOp, Op.intCmp], .bool _⟩
  case gtr =>
    split at h
    · cases h
    · rename_i hkk
      have hk' : k = k' := by simpa using hkk
      subst hk'
      cases h
      exact ⟨_, by simp [eqGuard, binOp, Op.intCmp], .bool _⟩
  case geq =>
    split at h
    · cases h
    · rename_i hkk
      have hk' : k = k' := by simpa using hkk
      subst hk'
      cases h
      exact ⟨_, by simp [eqGuard, binOp, Op.intCmp], .bool _⟩
  case andNot => split at h <;> cases h

theorem run_equal_bool {t : TypeId} {x y : Bool} {w : World} (hu : P.underlying t = some .bool) : (Op.equal t (.bool x) (.bool y)).run P w = .ok (x == y) w := by
  have e : Op.maxDepth = 9999 + 1 := rfl
  unfold Op.equal
  rw [e, Op.equalIn]
  simp [run_underlying hu]

theorem run_beq {op : BinOp} {t : TypeId} {X Y : Operand} {x y : Bool} {w : World} {ok : Nat → Prop} (hu : P.underlying t = some .bool) (hop : op = .eql ∨ op = .neq) :
    ∃ v, (do eqGuard op t X Y (.bool x) (.bool y); binOp op t (.bool x) (.bool y) : Sem Value).run P w = .ok v w ∧ Reads ok w (.bool (if op = .neq then !(x == y) else x == y)) v := by
  rcases hop with rfl | rfl
  · refine ⟨_, ?_, .bool _⟩
    simp only [eqGuard, Sem.run_bind, binOp, run_equal_bool hu, Result.andThen_ok, Sem.run_pure]
    simp [run_equal_bool hu]
  · refine ⟨_, ?_, .bool _⟩
    simp only [eqGuard, Sem.run_bind, binOp, run_equal_bool hu, Result.andThen_ok, Sem.run_pure]
    simp [run_equal_bool hu]

theorem op_prim1 {x : Operand} {z : A} {p : Prim} (hm : x ∈ o.op.operands) (hx : S.ev x = some (.s (.one (.at z)))) (h : prim p [z] S (fun z S => K (some (.s (.one (.at z)))) S) = some ir)
    (hw : IRwp P As ρ ir Q) (hl : ρ.length = S.nv) (hid : S.bl S.nb = none)
    (run : ∀ (a : Act) (w : World) (ok : Nat → Prop) (d d' : DV), Reads ok w d (a.eval x) → p.den [d] = some d' → ∃ v, (execOp a.eval o).run P w = .ok (.value v) w ∧ Reads ok w d' v) : OpOut P o S.nb S ks K As ρ Q := by
  obtain ⟨zz, d, n, ρ', ir', hlt, hd, hK, hw', hE', hl', hz⟩ := prim_sound h hw hl
  refine OpOut.plain hE' hl' hK hw' hid fun ρf hE w0 ok0 fs stk β nt tm bl a w H hag hb => ?_
  obtain ⟨d1, hd1, hr1⟩ := H.one (x := x) (by rw [hag x hm]; exact hx)
  simp only [List.all_cons, List.all_nil, Bool.and_true] at hlt
  simp only [List.map_cons, List.map_nil, ev_of_ext hlt hl (hE'.trans hE) hd1] at hd
  obtain ⟨v, hv, hr⟩ := run a w _ d1 d hr1 hd
  exact ⟨v, hv, fun s hs => by cases hs; exact ⟨d, A.rd_ext hE hz, hr⟩⟩

theorem op_prim2 {x y : Operand} {z1 z2 : A} {p : Prim} (hmx : x ∈ o.op.operands) (hmy : y ∈ o.op.operands) (hx : S.ev x = some (.s (.one (.at z1)))) (hy : S.ev y = some (.s (.one (.at z2))))
    (h : prim p [z1, z2] S (fun z S => K (some (.s (.one (.at z)))) S) = some ir)
    (hw : IRwp P As ρ ir Q) (hl : ρ.length = S.nv) (hid : S.bl S.nb = none)
    (run : ∀ (a : Act) (w : World) (ok : Nat → Prop) (d e d' : DV), Reads ok w d (a.eval x) → Reads ok w e (a.eval y) → p.den [d, e] = some d' → ∃ v, (execOp a.eval o).run P w = .ok (.value v) w ∧ Reads ok w d' v) : OpOut P o S.nb S ks K As ρ Q := by
  obtain ⟨zz, d, n, ρ', ir', hlt, hd, hK, hw', hE', hl', hz⟩ := prim_sound h hw hl
  refine OpOut.plain hE' hl' hK hw' hid fun ρf hE w0 ok0 fs stk β nt tm bl a w H hag hb => ?_
  obtain ⟨d1, hd1, hr1⟩ := H.one (x := x) (by rw [hag x hmx]; exact hx)
  obtain ⟨d2, hd2, hr2⟩ := H.one (x := y) (by rw [hag y hmy]; exact hy)
  simp only [List.all_cons, List.all_nil, Bool.and_true, Bool.and_eq_true] at hlt
  simp only [List.map_cons, List.map_nil, ev_of_ext hlt.1 hl (hE'.trans hE) hd1, ev_of_ext hlt.2 hl (hE'.trans hE) hd2] at hd
  obtain ⟨v, hv, hr⟩ := run a w _ d1 d2 d hr1 hr2 hd
  exact ⟨v, hv, fun s hs => by cases hs; exact ⟨d, A.rd_ext hE hz, hr⟩⟩

theorem op_unOp {op : UnOp} {t : TypeId} {x : Operand} (ho : o.op = .unOp op t x) (h : symOp P o 0 S.nb S K = some ir) (hw : IRwp P As ρ ir Q) (hl : ρ.length = S.nv) (hid : S.bl S.nb = none) : OpOut P o S.nb S ks K As ρ Q := by
  have hm : x ∈ o.op.operands := by simp [ho, Op.operands]
  unfold symOp at h
  simp only [ho] at h
  split at h
  · rename_i z hx
    refine op_prim1 hm hx h hw hl hid fun a w ok d d' hr hd => ?_
    cases d <;> simp only [Prim.den] at hd <;> cases hd
    exact ⟨_, by simp [execOp, ho, reads_bool hr, Op.unary], .bool _⟩
  · rename_i z hx
    refine op_prim1 hm hx h hw hl hid fun a w ok d d' hr hd => ?_
    cases d <;> simp only [Prim.den] at hd <;> cases hd
    exact ⟨_, by simp [execOp, ho, reads_int hr, Op.unary, Op.intBits], .int _ _⟩
  · rename_i z hx
    refine op_prim1 hm hx h hw hl hid fun a w ok d d' hr hd => ?_
    cases d <;> simp only [Prim.den] at hd <;> cases hd
    exact ⟨_, by simp [execOp, ho, reads_int hr, Op.unary, Op.intArith], .int _ _⟩
  · cases h

theorem op_convert {src dst : TypeId} {x : Operand} (ho : o.op = .convert src dst x) (h : symOp P o 0 S.nb S K = some ir) (hw : IRwp P As ρ ir Q) (hl : ρ.length = S.nv) (hid : S.bl S.nb = none) : OpOut P o S.nb S ks K As ρ Q := by
  have hm : x ∈ o.op.operands := by simp [ho, Op.operands]
  unfold symOp at h
  simp only [ho] at h
  split at h
  · rename_i ds k z h1 h2 hx
    refine op_prim1 hm hx h hw hl hid fun a w ok d d' hr hd => ?_
    cases d <;> simp only [Prim.den] at hd <;> cases hd
    exact ⟨_, by simp [execOp, ho, reads_int hr, convert, run_underlying h1, run_underlying h2, Conv.intToInt], .int _ _⟩
  · cases h

end
end Go.Px
/- Px5: one operation, part three: comparisons, places, loads, building. -/
set_option linter.unusedSimpArgs false
set_option linter.unusedVariables false
namespace Go.Px
open Go.RowKit
section
variable {P : Program} {o : Oper} {ks : List Nat} {S : St} {K : Option SV → St → Option IR} {As : List (List DV → Prop)} {ρ : List DV} {Q : List AV → Prop} {ir : IR}

theorem isAgg_run0 {t : TypeId} {w : World} (hu : (P.underlying t).isSome = true) : (isAgg t).run P w = .ok (isAggB P t) w := by
  obtain ⟨d, hd⟩ := Option.isSome_iff_exists.1 hu
  unfold isAggB
  simp only [isAgg, Sem.run_bind, run_underlying hd, Result.andThen_ok, hd]
  cases d <;> rfl
theorem plainT_cases {t : TypeId} (h : plainT P t = true) : P.underlying t = some .bool ∨ ∃ k, P.underlying t = some (.int k) := by
  unfold plainT at h
  split at h
  · rename_i hu; exact .inl hu
  · rename_i k hu; exact .inr ⟨k, hu⟩
  · cases h
theorem kind_t {t : TypeId} (h : plainT P t = true) (k : kindT P t = true) : P.underlying t = some .bool := by
  unfold kindT at k
  split at k
  · assumption
  · cases k
theorem kind_f {t : TypeId} (h : plainT P t = true) (k : kindT P t = false) : ∃ q, P.underlying t = some (.int q) := by
  rcases plainT_cases h with e | e
  · simp [kindT, e] at k
  · exact e
/-- One field after the other. -/
theorem run_eqFs {w : World} {ok : Nat → Prop} {xs ys : Array Value} {d : Nat} : ∀ (fs : List Field) (i : Nat) (ds es : List DV) (b : Bool), plainFs P fs i = true → eqDVs (fs.map fun f => kindT P f.type) ds es = some b →
    (∀ (j : Nat) (x : DV), ds[j]? = some x → ∃ u, xs[i + j]? = some u ∧ Reads ok w x u) → (∀ (j : Nat) (x : DV), es[j]? = some x → ∃ u, ys[i + j]? = some u ∧ Reads ok w x u) →
    (Op.eqFields (d + 1) xs ys fs).run P w = .ok b w
  | [], i, ds, es, b, _, h, _, _ => by
    cases ds <;> cases es <;> simp [eqDVs] at h
    subst h; simp [Op.eqFields]
  | f :: fs, i, ds, es, b, hp, h, hx, hy => by
    simp only [plainFs, Bool.and_eq_true, decide_eq_true_eq] at hp
    obtain ⟨⟨⟨⟨ho, hpl⟩, hs⟩, hn⟩, hr⟩ := hp
    cases ds with
    | nil => simp only [List.map_cons] at h; cases hk : kindT P f.type <;> rw [hk] at h <;> simp [eqDVs] at h
    | cons x ds =>
    cases es with
    | nil => simp only [List.map_cons] at h; cases hk : kindT P f.type <;> rw [hk] at h <;> cases x <;> simp [eqDVs] at h
    | cons y es =>
    obtain ⟨u, hu, hru⟩ := hx 0 x rfl
    obtain ⟨v, hv, hrv⟩ := hy 0 y rfl
    have hund : (P.underlying f.type).isSome = true := by rcases plainT_cases hpl with e | ⟨k, e⟩ <;> simp [e]
    have hag : isAggB P f.type = false := by unfold isAggB; rcases plainT_cases hpl with e | ⟨k, e⟩ <;> simp [e]
    have pt : ∀ (arr : Array Value) (z : Value), arr[i + 0]? = some z → (part f.type arr f.offset).run P w = .ok z w := by
      intro arr z hz
      unfold part
      rw [Sem.run_bind, isAgg_run0 hund, hag, ho]
      rw [Nat.add_zero] at hz
      obtain ⟨hlt, he⟩ := Array.getElem?_eq_some_iff.1 hz
      simp [hlt, he]
    have ih := fun b' hb' => run_eqFs (d := d) fs (i + 1) ds es b' hr hb'
      (fun j x hj => by rw [show i + 1 + j = i + (j + 1) by omega]; exact hx (j + 1) x (by simpa using hj)) (fun j x hj => by rw [show i + 1 + j = i + (j + 1) by omega]; exact hy (j + 1) x (by simpa using hj))
    unfold Op.eqFields
    rw [if_pos hn]
    simp only [Sem.run_bind, pt _ _ hu, pt _ _ hv, Result.andThen_ok]
    simp only [List.map_cons] at h
    cases hk : kindT P f.type with
    | true =>
      rw [hk] at h
      cases x <;> cases y <;> simp only [eqDVs] at h <;> try (cases h; done)
      simp only [Option.map_eq_some_iff] at h
      obtain ⟨t, ht, rfl⟩ := h
      cases hru; cases hrv
      rw [run_equalIn_bool' w d f.type _ _ (kind_t hpl hk)]
      simp only [Result.andThen_ok]
      rename_i a c
      cases hac : (a == c)
      · simp
      · simp [ih t ht]
    | false =>
      rw [hk] at h
      obtain ⟨q, hq⟩ := kind_f hpl hk
      cases x <;> cases y <;> simp only [eqDVs] at h <;> try (cases h; done)
      split at h
      · rename_i hkk
        subst hkk
        simp only [Option.map_eq_some_iff] at h
        obtain ⟨t, ht, rfl⟩ := h
        cases hru; cases hrv
        rw [run_equalIn_int w d f.type _ q _ _ hq]
        simp only [Result.andThen_ok]
        rename_i a c
        cases hac : (a == c)
        · simp
        · simp [ih t ht]
      · cases h
theorem op_agg2 {x y : Operand} {t ty : TypeId} {op : BinOp} {xs ys : List C} {l r : List A} {fs : Array Field} {p : Prim} (ho : o.op = .binOp op t x y ty) (hu : P.underlying t = some (.struct fs)) (hx : S.ev x = some (.s (.agg xs))) (hy : S.ev y = some (.s (.agg ys)))
    (hlx : xs.mapM atC = some l) (hly : ys.mapM atC = some r) (heq : eqT P t fs.toList xs.length ys.length = true)
    (hop : (op = .eql ∧ p = .eqs (fs.toList.map fun f => kindT P f.type)) ∨ (op = .neq ∧ p = .nes (fs.toList.map fun f => kindT P f.type)))
    (h : prim p (l ++ r) S (fun z S => K (some (.s (.one (.at z)))) S) = some ir)
    (hw : IRwp P As ρ ir Q) (hl : ρ.length = S.nv) (hid : S.bl S.nb = none) : OpOut P o S.nb S ks K As ρ Q := by
  have hmx : x ∈ o.op.operands := by simp [ho, Op.operands]
  have hmy : y ∈ o.op.operands := by simp [ho, Op.operands]
  simp only [eqT, Bool.and_eq_true, decide_eq_true_eq, Bool.not_eq_true'] at heq
  obtain ⟨⟨⟨⟨hpf, hfl⟩, hxy⟩, hst⟩, hgd⟩ := heq
  obtain ⟨zz, d, n, ρ', ir', hlt, hd, hK, hw', hE', hl', hz⟩ := prim_sound h hw hl
  refine OpOut.plain hE' hl' hK hw' hid fun ρf hE w0 ok0 fs' stk β nt tm bl a w H hag hb => ?_
  obtain ⟨vx, evx, csx⟩ := H.eval (x := x) (by rw [hag x hmx]; exact hx)
  obtain ⟨vy, evy, csy⟩ := H.eval (x := y) (by rw [hag y hmy]; exact hy)
  have gen : ∀ (cs : List C) (as : List A) (vs : Array Value), cs.mapM atC = some as → CsRep ρf β (okS w0 ok0 bl β) w cs vs → (∀ aa ∈ as, aa.lt S.nv = true) →
      ∀ (j : Nat) (dd : DV), (as.map (A.ev ρ))[j]? = some dd → ∃ u, vs[0 + j]? = some u ∧ Reads (okS w0 ok0 bl β) w dd u := by
    intro cs as vs hm hc hl2 j dd hj
    rw [List.getElem?_map, Option.map_eq_some_iff] at hj
    obtain ⟨aa, haa, rfl⟩ := hj
    have hg := mapM_get _ _ _ hm
    have hjl : j < cs.length := by have := (List.getElem?_eq_some_iff.1 haa).1; omega
    obtain ⟨b, hb1, hb2⟩ := hg.2 j cs[j] (by simp)
    rw [haa] at hb1; cases hb1
    obtain ⟨u, hu1, hu2⟩ := hc.2 j cs[j] (by simp)
    cases hcj : cs[j] <;> rw [hcj] at hb2 hu2 <;> simp only [atC] at hb2 <;> try (cases hb2; done)
    cases hb2
    obtain ⟨d', hd', hr'⟩ := hu2
    refine ⟨u, by rw [Nat.zero_add]; exact hu1, ?_⟩
    rw [ev_of_ext (hl2 aa (List.mem_of_getElem? haa)) hl (hE'.trans hE) hd']
    exact hr'
  have hlx1 : l.length = (fs.toList.map fun f => kindT P f.type).length := by rw [(mapM_get _ _ _ hlx).1, List.length_map, hfl]
  have gx := gen xs l vx hlx csx (fun aa ha => List.all_eq_true.1 hlt aa (by simp [ha]))
  have gy := gen ys r vy hly csy (fun aa ha => List.all_eq_true.1 hlt aa (by simp [ha]))
  have hfo : P.fieldsOf t = fs := by unfold Program.fieldsOf; rw [hu]
  have hu' : P.underlying t = some (.struct (P.fieldsOf t)) := by rw [hfo]; exact hu
  have core : ∀ b, eqDVs (fs.toList.map fun f => kindT P f.type) (l.map (A.ev ρ)) (r.map (A.ev ρ)) = some b → (Op.equalIn 10000 t (.agg vx) (.agg vy)).run P w = .ok b w := by
    intro b hb
    rw [run_equalIn_agg w 9999 t vx vy hu' hst, hfo]
    exact run_eqFs (ok := okS w0 ok0 bl β) (d := 9998) fs.toList 0 _ _ b hpf hb gx gy
  rw [List.map_append] at hd
  have htk : List.take (fs.toList.map fun f => kindT P f.type).length (l.map (A.ev ρ) ++ r.map (A.ev ρ)) = l.map (A.ev ρ) := by rw [← hlx1, ← List.length_map (A.ev ρ) (as := l)]; exact List.take_left
  have hdr : List.drop (fs.toList.map fun f => kindT P f.type).length (l.map (A.ev ρ) ++ r.map (A.ev ρ)) = r.map (A.ev ρ) := by rw [← hlx1, ← List.length_map (A.ev ρ) (as := l)]; exact List.drop_left
  rcases hop with ⟨rfl, rfl⟩ | ⟨rfl, rfl⟩
  · simp only [Prim.den, htk, hdr, Option.map_eq_some_iff] at hd
    obtain ⟨b, hb1, rfl⟩ := hd
    refine ⟨.bool b, ?_, fun s hs => by cases hs; exact ⟨_, A.rd_ext hE hz, .bool _⟩⟩
    simp only [execOp, ho, evx, evy]
    rw [Sem.run_bind, Sem.run_bind, run_eqGuard_agg w .eql t x y vx vy hgd]
    simp only [Result.andThen_ok, run_eql_struct, core b hb1]
    rfl
  · simp only [Prim.den, htk, hdr, Option.map_eq_some_iff] at hd
    obtain ⟨b, hb1, rfl⟩ := hd
    refine ⟨.bool (!b), ?_, fun s hs => by cases hs; exact ⟨_, A.rd_ext hE hz, .bool _⟩⟩
    simp only [execOp, ho, evx, evy]
    rw [Sem.run_bind, Sem.run_bind, run_eqGuard_agg w .neq t x y vx vy hgd]
    simp only [Result.andThen_ok, run_neq_struct, core b hb1]
    rfl

theorem run_arrL {P : Program} {w : World} {ok : Nat → Prop} {d : Nat} {e : TypeId} {xs ys : Array Value} (hpl : plainT P e = true) : ∀ (len i : Nat) (ds es : List DV) (b : Bool), eqDVs (List.replicate len (kindT P e)) ds es = some b →
    (∀ (j : Nat) (x : DV), ds[j]? = some x → ∃ u, xs[i + j]? = some u ∧ Reads ok w x u) → (∀ (j : Nat) (x : DV), es[j]? = some x → ∃ u, ys[i + j]? = some u ∧ Reads ok w x u) →
    ((forIn (List.range' i len 1) ((none, ()) : Option Bool × Unit) fun i _ => do
        if !(← Op.equalIn (d + 1) e (← part e xs (i * 1)) (← part e ys (i * 1))) then pure (ForInStep.done (some false, ())) else pure (ForInStep.yield (none, ())) : Sem (Option Bool × Unit))).run P w = .ok (if b then none else some false, ()) w
  | 0, i, ds, es, b, h, hx, hy => by
    cases ds <;> cases es <;> simp only [List.replicate_zero, eqDVs] at h <;> cases h
    rfl
  | len + 1, i, ds, es, b, h, hx, hy => by
    have hund : (P.underlying e).isSome = true := by rcases plainT_cases hpl with h | ⟨k, h⟩ <;> simp [h]
    have hag : isAggB P e = false := by unfold isAggB; rcases plainT_cases hpl with h | ⟨k, h⟩ <;> simp [h]
    have pt : ∀ (arr : Array Value) (z : Value), arr[i + 0]? = some z → (part e arr (i * 1)).run P w = .ok z w := by
      intro arr z hz
      unfold part
      rw [Sem.run_bind, isAgg_run0 hund, hag, Nat.mul_one]
      rw [Nat.add_zero] at hz
      obtain ⟨hlt, he⟩ := Array.getElem?_eq_some_iff.1 hz
      simp [hlt, he]
    rw [List.replicate_succ] at h
    cases ds with
    | nil => cases hk : kindT P e <;> rw [hk] at h <;> cases es <;> simp [eqDVs] at h
    | cons x ds =>
    cases es with
    | nil => cases hk : kindT P e <;> rw [hk] at h <;> cases x <;> simp [eqDVs] at h
    | cons y es =>
    obtain ⟨u, hu, hru⟩ := hx 0 x rfl
    obtain ⟨v, hv, hrv⟩ := hy 0 y rfl
    have ih := fun b' hb' => run_arrL (d := d) hpl len (i + 1) ds es b' hb'
      (fun j x hj => by rw [show i + 1 + j = i + (j + 1) by omega]; exact hx (j + 1) x (by simpa using hj)) (fun j x hj => by rw [show i + 1 + j = i + (j + 1) by omega]; exact hy (j + 1) x (by simpa using hj))
    rw [List.range'_succ, List.forIn_cons]
    simp only [Sem.run_bind, pt _ _ hu, pt _ _ hv, Result.andThen_ok]
    cases hk : kindT P e with
    | true =>
      rw [hk] at h ih
      cases x <;> cases y <;> simp only [eqDVs] at h <;> try (cases h; done)
      simp only [Option.map_eq_some_iff] at h
      obtain ⟨t, ht, rfl⟩ := h
      cases hru; cases hrv
      rw [run_equalIn_bool' w d e _ _ (kind_t hpl hk)]
      simp only [Result.andThen_ok]
      rename_i a c
      cases hac : (a == c)
      · simp
      · simp only [Bool.not_true, Bool.false_eq_true, if_false, Sem.run_pure, Result.andThen_ok, Bool.true_and]
        exact ih t ht
    | false =>
      rw [hk] at h ih
      obtain ⟨q, hq⟩ := kind_f hpl hk
      cases x <;> cases y <;> simp only [eqDVs] at h <;> try (cases h; done)
      split at h
      · rename_i hkk
        subst hkk
        simp only [Option.map_eq_some_iff] at h
        obtain ⟨t, ht, rfl⟩ := h
        cases hru; cases hrv
        rw [run_equalIn_int w d e _ q _ _ hq]
        simp only [Result.andThen_ok]
        rename_i a c
        cases hac : (a == c)
        · simp
        · simp only [Bool.not_true, Bool.false_eq_true, if_false, Sem.run_pure, Result.andThen_ok, Bool.true_and]
          exact ih t ht
      · cases h
theorem run_equalIn_arr {P : Program} {w : World} {ok : Nat → Prop} {d : Nat} {t e : TypeId} {len : Nat} {xs ys : Array Value} (hu : P.underlying t = some (.array len e)) (hpl : plainT P e = true) (hs : sizeT P e = some 1) {ds es : List DV} {b : Bool} (h : eqDVs (List.replicate len (kindT P e)) ds es = some b)
    (hx : ∀ (j : Nat) (x : DV), ds[j]? = some x → ∃ u, xs[0 + j]? = some u ∧ Reads ok w x u) (hy : ∀ (j : Nat) (x : DV), es[j]? = some x → ∃ u, ys[0 + j]? = some u ∧ Reads ok w x u) :
    (Op.equalIn (d + 2) t (.agg xs) (.agg ys)).run P w = .ok b w := by
  have hsz : (sizeOf e).run P w = .ok 1 w := by
    unfold sizeT at hs
    split at hs
    · simp only [Option.map_eq_some_iff] at hs
      obtain ⟨ti, hti, h1⟩ := hs
      simp [sizeOf, typeInfo, program, Sem.run, hti, h1]
    · cases hs
  have key := run_arrL (w := w) (ok := ok) (d := d) (e := e) (xs := xs) (ys := ys) hpl len 0 ds es b h hx hy
  unfold Op.equalIn
  simp only [Sem.run_bind, run_underlying hu, Result.andThen_ok, hsz, Std.Legacy.Range.forIn_eq_forIn_range', Std.Legacy.Range.size, Nat.sub_zero, Nat.add_sub_cancel, Nat.div_one]
  simp only [Sem.run_bind, Nat.mul_one] at key ⊢
  rw [key]
  cases b <;> rfl
theorem op_arr2 {x y : Operand} {t ty : TypeId} {op : BinOp} {xs ys : List C} {l r : List A} {len : Nat} {e : TypeId} {p : Prim} (ho : o.op = .binOp op t x y ty) (hu : P.underlying t = some (.array len e)) (hx : S.ev x = some (.s (.agg xs))) (hy : S.ev y = some (.s (.agg ys)))
    (hlx : xs.mapM atC = some l) (hly : ys.mapM atC = some r) (heq : arrT P t e len xs.length ys.length = true)
    (hop : (op = .eql ∧ p = .eqs (List.replicate len (kindT P e))) ∨ (op = .neq ∧ p = .nes (List.replicate len (kindT P e))))
    (h : prim p (l ++ r) S (fun z S => K (some (.s (.one (.at z)))) S) = some ir)
    (hw : IRwp P As ρ ir Q) (hl : ρ.length = S.nv) (hid : S.bl S.nb = none) : OpOut P o S.nb S ks K As ρ Q := by
  have hmx : x ∈ o.op.operands := by simp [ho, Op.operands]
  have hmy : y ∈ o.op.operands := by simp [ho, Op.operands]
  simp only [arrT, Bool.and_eq_true, decide_eq_true_eq, Bool.not_eq_true'] at heq
  obtain ⟨⟨⟨⟨hpl, hsz⟩, hfl⟩, hxy⟩, hgd⟩ := heq
  obtain ⟨zz, d, n, ρ', ir', hlt, hd, hK, hw', hE', hl', hz⟩ := prim_sound h hw hl
  refine OpOut.plain hE' hl' hK hw' hid fun ρf hE w0 ok0 fs' stk β nt tm bl a w H hag hb => ?_
  obtain ⟨vx, evx, csx⟩ := H.eval (x := x) (by rw [hag x hmx]; exact hx)
  obtain ⟨vy, evy, csy⟩ := H.eval (x := y) (by rw [hag y hmy]; exact hy)
  have gen : ∀ (cs : List C) (as : List A) (vs : Array Value), cs.mapM atC = some as → CsRep ρf β (okS w0 ok0 bl β) w cs vs → (∀ aa ∈ as, aa.lt S.nv = true) →
      ∀ (j : Nat) (dd : DV), (as.map (A.ev ρ))[j]? = some dd → ∃ u, vs[0 + j]? = some u ∧ Reads (okS w0 ok0 bl β) w dd u := by
    intro cs as vs hm hc hl2 j dd hj
    rw [List.getElem?_map, Option.map_eq_some_iff] at hj
    obtain ⟨aa, haa, rfl⟩ := hj
    have hg := mapM_get _ _ _ hm
    have hjl : j < cs.length := by have := (List.getElem?_eq_some_iff.1 haa).1; omega
    obtain ⟨b, hb1, hb2⟩ := hg.2 j cs[j] (by simp)
    rw [haa] at hb1; cases hb1
    obtain ⟨u, hu1, hu2⟩ := hc.2 j cs[j] (by simp)
    cases hcj : cs[j] <;> rw [hcj] at hb2 hu2 <;> simp only [atC] at hb2 <;> try (cases hb2; done)
    cases hb2
    obtain ⟨d', hd', hr'⟩ := hu2
    refine ⟨u, by rw [Nat.zero_add]; exact hu1, ?_⟩
    rw [ev_of_ext (hl2 aa (List.mem_of_getElem? haa)) hl (hE'.trans hE) hd']
    exact hr'
  have hlx1 : l.length = (List.replicate len (kindT P e)).length := by rw [(mapM_get _ _ _ hlx).1, List.length_replicate, hfl]
  have gx := gen xs l vx hlx csx (fun aa ha => List.all_eq_true.1 hlt aa (by simp [ha]))
  have gy := gen ys r vy hly csy (fun aa ha => List.all_eq_true.1 hlt aa (by simp [ha]))
  have core : ∀ b, eqDVs (List.replicate len (kindT P e)) (l.map (A.ev ρ)) (r.map (A.ev ρ)) = some b → (Op.equalIn 10000 t (.agg vx) (.agg vy)).run P w = .ok b w := fun b hb =>
    run_equalIn_arr (ok := okS w0 ok0 bl β) (d := 9998) hu hpl hsz hb gx gy
  rw [List.map_append] at hd
  have htk : List.take (List.replicate len (kindT P e)).length (l.map (A.ev ρ) ++ r.map (A.ev ρ)) = l.map (A.ev ρ) := by rw [← hlx1, ← List.length_map (A.ev ρ) (as := l)]; exact List.take_left
  have hdr : List.drop (List.replicate len (kindT P e)).length (l.map (A.ev ρ) ++ r.map (A.ev ρ)) = r.map (A.ev ρ) := by rw [← hlx1, ← List.length_map (A.ev ρ) (as := l)]; exact List.drop_left
  rcases hop with ⟨rfl, rfl⟩ | ⟨rfl, rfl⟩
  · simp only [Prim.den, htk, hdr, Option.map_eq_some_iff] at hd
    obtain ⟨b, hb1, rfl⟩ := hd
    refine ⟨.bool b, ?_, fun s hs => by cases hs; exact ⟨_, A.rd_ext hE hz, .bool _⟩⟩
    simp only [execOp, ho, evx, evy]
    rw [Sem.run_bind, Sem.run_bind, run_eqGuard_agg w .eql t x y vx vy hgd]
    simp only [Result.andThen_ok, run_eql_struct, core b hb1]
    rfl
  · simp only [Prim.den, htk, hdr, Option.map_eq_some_iff] at hd
    obtain ⟨b, hb1, rfl⟩ := hd
    refine ⟨.bool (!b), ?_, fun s hs => by cases hs; exact ⟨_, A.rd_ext hE hz, .bool _⟩⟩
    simp only [execOp, ho, evx, evy]
    rw [Sem.run_bind, Sem.run_bind, run_eqGuard_agg w .neq t x y vx vy hgd]
    simp only [Result.andThen_ok, run_neq_struct, core b hb1]
    rfl

theorem op_binOp {op : BinOp} {t : TypeId} {x y : Operand} {ty : TypeId} (ho : o.op = .binOp op t x y ty) (h : symOp P o 0 S.nb S K = some ir) (hw : IRwp P As ρ ir Q) (hl : ρ.length = S.nv) (hid : S.bl S.nb = none) : OpOut P o S.nb S ks K As ρ Q := by
  have hmx : x ∈ o.op.operands := by simp [ho, Op.operands]
  have hmy : y ∈ o.op.operands := by simp [ho, Op.operands]
  unfold symOp at h
  simp only [ho] at h
  split at h
  · rename_i sx sy hx hy
    unfold symBin at h
    split at h
    · rename_i p q
      split at h
      · rename_i hu
        refine op_prim2 hmx hmy hx hy h hw hl hid fun a w ok d e d' hr1 hr2 hd => ?_
        cases d <;> cases e <;> simp only [Prim.den] at hd <;> cases hd
        obtain ⟨v, hv, hr⟩ := run_beq (P := P) (X := x) (Y := y) (w := w) (ok := ok) hu (.inl rfl)
        exact ⟨v, by simp only [execOp, ho, reads_bool hr1, reads_bool hr2]; rw [Sem.run_bind, hv]; rfl, hr⟩
      · rename_i hu
        refine op_prim2 hmx hmy hx hy h hw hl hid fun a w ok d e d' hr1 hr2 hd => ?_
        cases d <;> cases e <;> simp only [Prim.den] at hd <;> cases hd
        obtain ⟨v, hv, hr⟩ := run_beq (P := P) (X := x) (Y := y) (w := w) (ok := ok) hu (.inr rfl)
        exact ⟨v, by simp only [execOp, ho, reads_bool hr1, reads_bool hr2]; rw [Sem.run_bind, hv]; rfl, hr⟩
      · refine op_prim2 hmx hmy hx hy h hw hl hid fun a w ok d e d' hr1 hr2 hd => ?_
        cases d <;> cases e <;> simp only [Prim.den, Prim.bin1] at hd <;> try (cases hd; done)
        obtain ⟨v, hv, hr⟩ := run_binInt (P := P) (t := t) (X := x) (Y := y) (w := w) (ok := ok) hd
        exact ⟨v, by simp only [execOp, ho, reads_int hr1, reads_int hr2]; rw [Sem.run_bind, hv]; rfl, hr⟩
      · cases h
    · rename_i xs ys
      split at h
      · rename_i fs l r hu hlx hly
        split at h
        · rename_i heq
          exact op_agg2 ho hu hx hy hlx hly heq (.inl ⟨rfl, rfl⟩) h hw hl hid
        · cases h
      · rename_i fs l r hu hlx hly
        split at h
        · rename_i heq
          exact op_agg2 ho hu hx hy hlx hly heq (.inr ⟨rfl, rfl⟩) h hw hl hid
        · cases h
      · rename_i len e l r hu hlx hly
        split at h
        · rename_i heq
          exact op_arr2 ho hu hx hy hlx hly heq (.inl ⟨rfl, rfl⟩) h hw hl hid
        · cases h
      · rename_i len e l r hu hlx hly
        split at h
        · rename_i heq
          exact op_arr2 ho hu hx hy hlx hly heq (.inr ⟨rfl, rfl⟩) h hw hl hid
        · cases h
      · cases h
    · cases h
  · cases h

/-! ### Loads -/
theorem isAgg_run {t : TypeId} {w : World} (hu : (P.underlying t).isSome = true) : (isAgg t).run P w = .ok (isAggB P t) w := by
  obtain ⟨d, hd⟩ := Option.isSome_iff_exists.1 hu
  unfold isAggB
  simp only [isAgg, Sem.run_bind, run_underlying hd, Result.andThen_ok, hd]
  cases d <;> rfl

theorem sizeT_some {t : TypeId} {m : Nat} (h : sizeT P t = some m) : (P.underlying t).isSome = true ∧ ∃ ti, P.info? t = some ti ∧ ti.size = m := by
  unfold sizeT at h
  split at h
  · rename_i hu
    simp only [Option.map_eq_some_iff] at h
    exact ⟨hu, h⟩
  · cases h

theorem run_loadVar_cells {t : TypeId} {m : Nat} {ad : Addr} {w : World} {f : Nat → Value} (hs : sizeT P t = some m) (hc : ∀ j, j < m → w.cell? (ad.add j) = some (f j)) (h1 : isAggB P t = false → m = 1) :
    (loadVar t ad).run P w = .ok (if isAggB P t then .agg ((List.range m).map f).toArray else f 0) w := by
  obtain ⟨hu, ti, hti, hm⟩ := sizeT_some hs
  unfold loadVar
  rw [Sem.run_bind, isAgg_run hu]
  cases hb : isAggB P t
  · have := hc 0 (by rw [h1 hb]; omega)
    simp only [Result.andThen_ok, Bool.false_eq_true, if_false, run_load]
    rw [show ad.add 0 = ad from by unfold Addr.add; simp] at this
    simp [this]
  · simp only [Result.andThen_ok, if_true, Sem.run_bind, sizeOf, typeInfo, program, Sem.run, hti, hm, Sem.run_pure]
    simp only [run_loadCells w ad m f hc, Result.andThen_ok]

/-- Cells in a row as one value. -/
theorem S1_mk_rep {ρ : List DV} {β : Bm} {ok : Nat → Prop} {w : World} {g : Bool} {cs : List C} {v : S1} {f : Nat → Value} {m : Nat} (h : S1.mk g cs = some v) (hl : cs.length = m) (hc : ∀ (j : Nat) (c : C), cs[j]? = some c → CRep ρ β ok w c (f j)) :
    (g = false → m = 1) ∧ S1Rep ρ β ok w v (if g then .agg ((List.range m).map f).toArray else f 0) := by
  unfold S1.mk at h
  split at h
  · rename_i hg
    subst hg
    cases h
    refine ⟨by simp, _, rfl, by simp [hl], fun j c hj => ⟨f j, ?_, hc j c hj⟩⟩
    have : j < m := by rw [← hl]; exact (List.getElem?_eq_some_iff.1 hj).1
    simp [this]
  · rename_i hg
    have hg' : g = false := by simpa using hg
    subst hg'
    split at h
    · rename_i c
      cases h
      exact ⟨fun _ => by simpa using hl.symm, hc 0 c rfl⟩
    · cases h

theorem sub_get {α : Type} {l : List α} {off m j : Nat} {x : α} (h : ((l.drop off).take m)[j]? = some x) : l[off + j]? = some x ∧ j < m := by
  rw [List.getElem?_take] at h
  split at h
  · rename_i hj; rw [List.getElem?_drop] at h; exact ⟨h, hj⟩
  · cases h

theorem gets_sound {x i : A} {s : Nat} : ∀ (m off : Nat) (S : St) (K : List A → St → Option IR) (ρ : List DV) (ir : IR), gets x i s m off S K = some ir → IRwp P As ρ ir Q → ρ.length = S.nv → x.lt S.nv = true → i.lt S.nv = true →
    ∃ l n ρ' ir', K l { S with nv := n } = some ir' ∧ IRwp P As ρ' ir' Q ∧ Ext ρ ρ' ∧ ρ'.length = n ∧ l.length = m ∧
      ∀ (j : Nat) (z : A), l[j]? = some z → ∃ d len cells kI iv, x.rd ρ = some (.list len cells) ∧ i.rd ρ = some (.int kI iv) ∧ 0 ≤ iv ∧ iv < (len : Int) ∧ cells[iv.toNat * s + (off + j)]? = some d ∧ z.rd ρ' = some d
  | 0, off, S, K, ρ, ir, h, hw, hl, hx, hi => ⟨[], S.nv, ρ, ir, h, hw, Ext.refl _, hl, rfl, fun j z hj => by simp at hj⟩
  | m + 1, off, S, K, ρ, ir, h, hw, hl, hx, hi => by
    simp only [gets] at h
    obtain ⟨z, d, n, ρ1, ir1, hlt, hd, hK, hw1, hE1, hl1, hz⟩ := prim_sound h hw hl
    have mono : ∀ (a : A), a.lt S.nv = true → a.lt n = true := fun a ha => by
      cases a with
      | var k =>
        have hk : k < S.nv := by simpa [A.lt] using ha
        have : ρ1[k]? = some (ρ[k]'(by omega)) := hE1 k _ (by simp)
        have := (List.getElem?_eq_some_iff.1 this).1
        simp only [A.lt, decide_eq_true_eq]; omega
      | _ => rfl
    obtain ⟨l, n', ρ', ir', hK', hw', hE', hl', hlen, hget⟩ := gets_sound m (off + 1) { S with nv := n } _ ρ1 ir1 hK hw1 hl1 (mono x hx) (mono i hi)
    refine ⟨z :: l, n', ρ', ir', hK', hw', hE1.trans hE', hl', by simp [hlen], fun j y hj => ?_⟩
    obtain ⟨dx, hdx⟩ := rd_of_lt hx hl
    obtain ⟨di, hdi⟩ := rd_of_lt hi hl
    cases j with
    | zero =>
      simp at hj; subst hj
      simp only [List.map_cons, List.map_nil, A.ev_of_rd hdx, A.ev_of_rd hdi] at hd
      cases dx <;> cases di <;> simp only [Prim.den] at hd <;> try (cases hd; done)
      split at hd
      · rename_i hb
        exact ⟨d, _, _, _, _, hdx, hdi, hb.1, hb.2, by simpa using hd, A.rd_ext hE' hz⟩
      · cases hd
    | succ j =>
      obtain ⟨d', len, cells, kI, iv, h1, h2, h3, h4, h5, h6⟩ := hget j y (by simpa using hj)
      rw [A.rd_ext hE1 hdx] at h1; cases h1
      rw [A.rd_ext hE1 hdi] at h2; cases h2
      exact ⟨d', len, cells, kI, iv, hdx, hdi, h3, h4, by rw [show off + (j + 1) = off + 1 + j by omega]; exact h5, h6⟩

theorem op_load {T : TypeId} {x : Operand} (ho : o.op = .load T x) (hks : ∀ k ∈ namedOf S o.op, k ∈ ks) (h : symOp P o 0 S.nb S K = some ir) (hw : IRwp P As ρ ir Q) (hl : ρ.length = S.nv) (hid : S.bl S.nb = none) : OpOut P o S.nb S ks K As ρ Q := by
  have hm : x ∈ o.op.operands := by simp [ho, Op.operands]
  have hxg : ∀ g, x = .global g → False := fun g hg => by
    subst hg
    unfold symOp at h
    simp only [ho] at h
    cases h
    exact hw
  have hcell : ∀ {w : World} {b : Nat} {arr : Array Value} {T' : TypeId} {fz : Nat × Nat} {off j : Nat}, w.heap[b]? = some (.cells arr T' fz) → w.cell? ((⟨b, off, none⟩ : Addr).add j) = arr[off + j]? := by
    intro w b arr T' fz off j hh
    rw [Addr_off]; simp [World.cell?, hh]
  have run : ∀ (a : Act) (w : World) (ad : Addr) (v : Value), a.eval x = .pointer (some ad) → (loadVar T ad).run P w = .ok v w → (execOp a.eval o).run P w = .ok (.value v) w := by
    intro a w ad v he hr
    simp only [execOp, ho, he, Instr.loadAt, Instr.sureAddr]
    simp [hr]
  have elem : ∀ {y i : A} {s m off : Nat} (hne : m ≠ 0) (hy : y.lt S.nv = true) (hi : i.lt S.nv = true) (hs : sizeT P T = some m)
      (hh : (gets y i s m off S fun l S => match S1.mk (isAggB P T) (l.map .at) with | some v => K (some (.s v)) S | none => none) = some ir)
      (mem : ∀ (ρf : List DV), Ext ρ ρf → ∀ (w0 : W0) (ok0 : Nat → Prop) (fs : List (Array Value)) (stk : List Frm) (β : Bm) (nt : Nat) (tm : Nat → Option SV) (bl : Nat → Option Blk) (a : Act) (w : World),
        RM w0 ok0 fs stk ρf β nt tm bl a w → (∀ x ∈ o.op.operands, evT tm x = S.ev x) → (∀ k ∈ ks, bl k = S.bl k) → ∀ len cells kI iv, y.rd ρf = some (.list len cells) → i.rd ρf = some (.int kI iv) → 0 ≤ iv → iv < (len : Int) →
          ∃ (ad : Addr) (f : Nat → Value), a.eval x = .pointer (some ad) ∧ ∀ (j : Nat) (d : DV), cells[iv.toNat * s + (off + j)]? = some d → w.cell? (ad.add j) = some (f j) ∧ Reads (okS w0 ok0 bl β) w d (f j)), OpOut P o S.nb S ks K As ρ Q := by
    intro y i s m off hne hy hi hs hh mem
    obtain ⟨l, n, ρ', ir', hK, hw', hE', hl', hlen, hget⟩ := gets_sound m off S _ ρ ir hh hw hl hy hi
    split at hK
    · rename_i v hv
      refine OpOut.plain (n := n) hE' hl' hK hw' hid fun ρf hE w0 ok0 fs stk β nt tm bl a w H hag hbl => ?_
      have hm0 : m ≠ 0 → ∃ (ad : Addr) (f : Nat → Value), a.eval x = .pointer (some ad) ∧ ∀ (j : Nat) (z : A), l[j]? = some z → w.cell? (ad.add j) = some (f j) ∧ CRep ρf β (okS w0 ok0 bl β) w (.at z) (f j) := by
        intro hne
        obtain ⟨d, len, cells, kI, iv, h1, h2, h3, h4, h5, h6⟩ := hget 0 (l[0]'(by omega)) (by simp)
        obtain ⟨ad, f, he, hc⟩ := mem ρf (hE'.trans hE) w0 ok0 fs stk β nt tm bl a w H hag hbl len cells kI iv (A.rd_ext (hE'.trans hE) h1) (A.rd_ext (hE'.trans hE) h2) h3 h4
        refine ⟨ad, f, he, fun j z hz => ?_⟩
        obtain ⟨d', len', cells', kI', iv', g1, g2, g3, g4, g5, g6⟩ := hget j z hz
        rw [h1] at g1; cases g1
        rw [h2] at g2; cases g2
        obtain ⟨c1, c2⟩ := hc j d' g5
        exact ⟨c1, d', A.rd_ext hE g6, c2⟩
      obtain ⟨ad, f, he, hc⟩ := hm0 hne
      have hcr : ∀ (j : Nat) (c : C), (l.map C.at)[j]? = some c → CRep ρf β (okS w0 ok0 bl β) w c (f j) := fun j c hj => by
        rw [List.getElem?_map] at hj
        cases hz : l[j]? with
        | none => rw [hz] at hj; cases hj
        | some z => rw [hz] at hj; cases hj; exact (hc j z hz).2
      obtain ⟨g1, g2⟩ := S1_mk_rep hv (by simpa using hlen) hcr
      refine ⟨_, run a w _ _ he (run_loadVar_cells (f := f) hs (fun j hj => ?_) g1), fun s hs => by cases hs; exact g2⟩
      exact (hc j (l[j]'(by omega)) (by simp)).1
    · cases hK
  unfold symOp at h
  simp only [ho] at h
  split at h
  · rename_i k off m hx hs
    split at h
    · rename_i cs U ro hb
      split at h
      · rename_i hle
        split at h
        · rename_i v hv
          refine OpOut.plain (ρ' := ρ) (n := S.nv) (Ext.refl _) hl h hw hid fun ρf hE w0 ok0 fs stk β nt tm bl a w H hag hbl => ?_
          obtain ⟨b, hβ, he⟩ := H.one (x := x) (by rw [hag x hm]; exact hx)
          have hbk : bl k = some (.box cs U ro) := by rw [hbl k (hks k (named_mem hm (by simp [hx, SV.blocks, S1.cells, C.blocks])))]; exact hb
          obtain ⟨b', arr, T', fz, h1, h2, h3, _, _⟩ := H.hbl k _ hbk
          rw [hβ] at h1; cases h1
          have hcr : ∀ (j : Nat) (c : C), ((cs.drop off).take m)[j]? = some c → CRep ρf β (okS w0 ok0 bl β) w c (arr.getD (off + j) undef) := fun j c hj => by
            obtain ⟨hj1, _⟩ := sub_get hj
            obtain ⟨u, hu, hr⟩ := h3.2 _ _ hj1
            simpa [Array.getD_eq_getD_getElem?, hu] using hr
          obtain ⟨g1, g2⟩ := S1_mk_rep (m := m) hv (by simp; omega) hcr
          refine ⟨_, run a w _ _ he (run_loadVar_cells (f := fun j => arr.getD (off + j) undef) hs (fun j hj => ?_) g1), fun s hs => by cases hs; exact g2⟩
          rw [hcell h2]
          have : off + j < arr.size := by rw [h3.1]; omega
          simp [Array.getD_eq_getD_getElem?, this]
        · cases h
      · cases h
    · cases h
  · rename_i y i s off m hx hs
    split at h
    · rename_i hlt
      simp only [Bool.and_eq_true] at hlt
      refine elem (by omega) hlt.1 hlt.2 hs h fun ρf hE w0 ok0 fs stk β nt tm bl a w H hag hbl len cells kI iv e1 e2 e3 e4 => ?_
      obtain ⟨n', cells', kI', iv', ad, cap, h1, h2, h3, h4, h5, h6, he⟩ := H.one (x := x) (by rw [hag x hm]; exact hx)
      rw [h1] at e1; cases e1
      rw [h2] at e2; cases e2
      obtain ⟨a', cap', hv, _, f, hmem, hrd⟩ := reads_list h6
      cases hv
      refine ⟨_, fun j => f (iv.toNat * s + (off + j)), he, fun j d hd => ?_⟩
      have hlen := (List.getElem?_eq_some_iff.1 hd).1
      obtain ⟨ad', had, _, hc⟩ := hmem (by intro h0; rw [h0] at hlen; simp at hlen)
      cases had
      refine ⟨?_, hrd _ _ hd⟩
      rw [Addr_add_add, Nat.add_assoc]
      exact hc _ hlen
    · cases h
  · rename_i k i s off m hx hs
    split at h
    · rename_i y hy
      split at h
      · rename_i hlt
        simp only [Bool.and_eq_true] at hlt
        refine elem (by omega) hlt.1 hlt.2 hs h fun ρf hE w0 ok0 fs stk β nt tm bl a w H hag hbl len cells kI iv e1 e2 e3 e4 => ?_
        obtain ⟨b, n', cap, kI', iv', h1, h2, h3, h4, he⟩ := H.one (x := x) (by rw [hag x hm]; exact hx)
        rw [h2] at e2; cases e2
        have hbk : bl k = S.bl k := hbl k (hks k (named_mem hm (by simp [hx, SV.blocks, S1.cells, C.blocks])))
        simp only [St.listOf] at hy
        split at hy
        · rename_i x' s' E' hk
          cases hy
          obtain ⟨v, n2, cells2, g1, g2, xs, ho', hl', hc'⟩ := H.hbl k _ (hbk.trans hk)
          rw [h1] at g1; cases g1
          rw [e1] at g2; cases g2
          refine ⟨_, fun j => xs.getD (iv.toNat * s + (off + j)) undef, he, fun j d hd => ?_⟩
          obtain ⟨u, hu, hr⟩ := hc' _ d hd
          have hx2 : xs.getD (iv.toNat * s + (off + j)) undef = u := by simp [List.getD, hu]
          simp only [hx2]
          refine ⟨?_, hr⟩
          have := World.ownsR.cells ho' (g := b) rfl _ u hu
          rw [Addr_plain] at this
          rw [Addr_off, Nat.add_assoc]
          exact this
        · rename_i x' hk
          cases hy
          obtain ⟨v, n2, cells2, g1, g2, g3, _⟩ := H.hbl k _ (hbk.trans hk)
          rw [h1] at g1; cases g1
          rw [e1] at g2; cases g2
          obtain ⟨a', cap', hv, _, f, hmem, hrd⟩ := reads_list g3
          cases hv
          refine ⟨_, fun j => f (iv.toNat * s + (off + j)), he, fun j d hd => ?_⟩
          have hlen := (List.getElem?_eq_some_iff.1 hd).1
          obtain ⟨ad', had, _, hc⟩ := hmem (by intro h0; rw [h0] at hlen; simp at hlen)
          cases had
          refine ⟨?_, hrd _ _ hd⟩
          have := hc _ hlen
          rw [Addr_plain] at this
          rw [Addr_off, Nat.add_assoc]
          exact this
        · cases hy
      · cases h
    · cases h
  · cases h

end
end Go.Px
/- Px6: one operation, part four: parts of values, places in lists, lengths, closures, structs. -/
set_option linter.unusedSimpArgs false
set_option linter.unusedVariables false
namespace Go.Px
open Go.RowKit
section
variable {P : Program} {o : Oper} {ks : List Nat} {S : St} {K : Option SV → St → Option IR} {As : List (List DV → Prop)} {ρ : List DV} {Q : List AV → Prop} {ir : IR}

theorem run_part {t : TypeId} {m off : Nat} {cs : Array Value} {w : World} (hs : sizeT P t = some m) (hle : off + m ≤ cs.size) (h1 : isAggB P t = false → m = 1) :
    (part t cs off).run P w = .ok (if isAggB P t then .agg ((List.range m).map fun j => cs.getD (off + j) undef).toArray else cs.getD off undef) w := by
  obtain ⟨hu, ti, hti, hm⟩ := sizeT_some hs
  unfold part
  rw [Sem.run_bind, isAgg_run hu]
  cases hb : isAggB P t
  · have : off < cs.size := by have := h1 hb; omega
    simp [this, Array.getD_eq_getD_getElem?]
  · simp only [Result.andThen_ok, if_true, Sem.run_bind, sizeOf, typeInfo, program, Sem.run, hti, hm, Sem.run_pure]
    congr 2
    apply Array.ext'
    apply List.ext_getElem?
    intro j
    simp only [Array.toList_extract, List.getElem?_map]
    by_cases hj : j < m
    · have h2 : off + j < cs.size := by omega
      simp [List.getElem?_range hj, List.extract_eq_take_drop, List.getElem?_take, hj, Array.getD_eq_getD_getElem?, h2]
    · simp [List.extract_eq_take_drop, List.getElem?_take, hj]

theorem op_field {t : TypeId} {x : Operand} {f : Nat} (ho : o.op = .field t x f) (h : symOp P o 0 S.nb S K = some ir) (hw : IRwp P As ρ ir Q) (hl : ρ.length = S.nv) (hid : S.bl S.nb = none) : OpOut P o S.nb S ks K As ρ Q := by
  have hm : x ∈ o.op.operands := by simp [ho, Op.operands]
  unfold symOp at h
  simp only [ho] at h
  split at h
  · rename_i fds hu
    split at h
    · rename_i fd hf
      split at h
      · rename_i m cs hs hx
        split at h
        · rename_i hle
          split at h
          · rename_i v hv
            refine OpOut.plain (ρ' := ρ) (n := S.nv) (Ext.refl _) hl h hw hid fun ρf hE w0 ok0 fs stk β nt tm bl a w H hag hb => ?_
            obtain ⟨vs, he, hsz, hc⟩ := H.eval (x := x) (by rw [hag x hm]; exact hx)
            have hcr : ∀ (j : Nat) (c : C), ((cs.drop fd.offset).take m)[j]? = some c → CRep ρf β (okS w0 ok0 bl β) w c (vs.getD (fd.offset + j) undef) := fun j c hj => by
              obtain ⟨hj1, _⟩ := sub_get hj
              obtain ⟨u, hu, hr⟩ := hc _ _ hj1
              simpa [Array.getD_eq_getD_getElem?, hu] using hr
            obtain ⟨g1, g2⟩ := S1_mk_rep (m := m) hv (by simp; omega) hcr
            refine ⟨_, ?_, fun s hs => by cases hs; exact g2⟩
            simp only [execOp, ho, he, Instr.field, Sem.run_bind, run_underlying hu, Result.andThen_ok, hf, asAgg, Sem.run_pure, run_part hs (by rw [hsz]; exact hle) g1, Nat.add_zero]
          · cases h
        · cases h
      · cases h
    · cases h
  · cases h

theorem op_index {t : TypeId} {x i : Operand} (ho : o.op = .index t x i) (h : symOp P o 0 S.nb S K = some ir) (hw : IRwp P As ρ ir Q) (hl : ρ.length = S.nv) (hid : S.bl S.nb = none) : OpOut P o S.nb S ks K As ρ Q := by
  have hm : x ∈ o.op.operands := by simp [ho, Op.operands]
  have hmi : i ∈ o.op.operands := by simp [ho, Op.operands]
  have key : ∀ (s : ByteArray), x = .const (.string s) → OpOut P o S.nb S ks K As ρ Q := by
    intro s hx
    subst hx
    unfold symOp at h
    simp only [ho] at h
    split at h
    · rename_i z hu hi
      refine op_prim1 hmi hi h hw hl hid fun a w ok d d' hr hd => ?_
      cases d <;> simp only [Prim.den] at hd <;> try (cases hd; done)
      rename_i k iv
      split at hd
      · rename_i h0
        obtain ⟨n, hn, rfl⟩ := Option.map_eq_some_iff.1 hd
        rw [List.getElem?_map] at hn
        obtain ⟨b, hb, rfl⟩ := Option.map_eq_some_iff.1 hn
        obtain ⟨hlt, hn⟩ := List.getElem?_eq_some_iff.1 hb
        have hlt' : iv.toNat < s.size := by rw [Array.length_toList] at hlt; exact hlt
        refine ⟨_, ?_, .int _ _⟩
        have he : a.eval (.const (.string s)) = .string s := rfl
        simp only [execOp, ho, he, reads_int hr]
        rw [Sem.run_bind, run_index_string (P := P) w t s k iv hu, dif_pos ⟨h0, by omega⟩]
        simp only [Result.andThen_ok, Sem.run_pure]
        congr 3
        rw [← hn]
        simp [ByteArray.getElem_eq_getElem_data]
      · cases hd
    · cases h
  have rest : (∀ (s : ByteArray), x ≠ .const (.string s)) → OpOut P o S.nb S ks K As ρ Q := by
    intro hne
    unfold symOp at h
    simp only [ho] at h
    split at h
    · rename_i n e cs kI jv hu hx hi
      split at h
      · rename_i s hs
        split at h
        · rename_i hj
          split at h
          · rename_i v hv
            refine OpOut.plain (ρ' := ρ) (n := S.nv) (Ext.refl _) hl h hw hid fun ρf hE w0 ok0 fs stk β nt tm bl a w H hag hb => ?_
            obtain ⟨vs, he, hsz, hc⟩ := H.eval (x := x) (by rw [hag x hm]; exact hx)
            obtain ⟨di, hdi, hri⟩ := H.one (x := i) (by rw [hag i hmi]; exact hi)
            cases hdi
            have hcr : ∀ (j : Nat) (c : C), ((cs.drop (jv.toNat * s)).take s)[j]? = some c → CRep ρf β (okS w0 ok0 bl β) w c (vs.getD (jv.toNat * s + j) undef) := fun j c hj => by
              obtain ⟨hj1, _⟩ := sub_get hj
              obtain ⟨u, hu, hr⟩ := hc _ _ hj1
              simpa [Array.getD_eq_getD_getElem?, hu] using hr
            obtain ⟨g1, g2⟩ := S1_mk_rep (m := s) hv (by simp; omega) hcr
            obtain ⟨_, ti, hti, hm2⟩ := sizeT_some hs
            refine ⟨_, ?_, fun s hs => by cases hs; exact g2⟩
            simp only [execOp, ho, he, reads_int hri, Instr.index, Sem.run_bind, run_underlying hu, Result.andThen_ok, asIntOf, Sem.run_pure, Sem.run_ite, hj.1, hj.2.1, and_self, if_true, sizeOf, typeInfo, program, Sem.run, hti, hm2,
              run_part hs (by rw [hsz]; exact hj.2.2) g1, Nat.add_zero]
          · cases h
        · cases h
      · cases h
    · cases h
  by_cases hs : ∃ s : ByteArray, x = .const (.string s)
  · obtain ⟨s, hs⟩ := hs; exact key s hs
  · exact rest fun s hx => hs ⟨s, hx⟩

theorem op_makeFunc {fn : Fn} {first caps : Array Operand} (ho : o.op = .makeFunc fn first caps) (h : symOp P o 0 S.nb S K = some ir) (hw : IRwp P As ρ ir Q) (hl : ρ.length = S.nv) (hid : S.bl S.nb = none) : OpOut P o S.nb S ks K As ρ Q := by
  cases fn with
  | func f =>
    unfold symOp at h
    simp only [ho] at h
    split at h
    · rename_i h0
      split at h
      · rename_i l hk
        refine OpOut.plain (ρ' := ρ) (n := S.nv) (Ext.refl _) hl h hw hid fun ρf hE w0 ok0 fs stk β nt tm bl a w H hag hb => ?_
        have hf0 : first = #[] := by simpa using h0
        subst hf0
        refine ⟨.func (.func f) #[] (caps.map a.eval), by simp [execOp, ho, Instr.makeFunc], fun s hs => ?_⟩
        cases hs
        have hh := mapM_get _ _ _ hk
        refine ⟨_, rfl, by simpa using hh.1.symm, fun j k hj => ?_⟩
        obtain ⟨x, hx, he⟩ := mapM_back _ hk hj
        split at he
        · rename_i k' hev
          cases he
          have hmem : x ∈ o.op.operands := by
            simp only [ho, Op.operands]
            have : x ∈ caps := by
              have := List.mem_of_getElem? hx
              simpa using this
            simp [this]
          obtain ⟨b, hβ, hv⟩ := H.one (x := x) (by rw [hag x hmem]; exact hev)
          refine ⟨b, hβ, ?_⟩
          have hx' : caps[j]? = some x := by simpa using hx
          simp [hx', hv]
        · cases he
      · cases h
    · cases h
  | _ =>
    unfold symOp at h
    simp only [ho] at h
    cases h

theorem op_indexAddr {t : TypeId} {x i : Operand} (ho : o.op = .indexAddr t x i) (hks : ∀ k ∈ namedOf S o.op, k ∈ ks) (h : symOp P o 0 S.nb S K = some ir) (hw : IRwp P As ρ ir Q) (hl : ρ.length = S.nv) (hid : S.bl S.nb = none) : OpOut P o S.nb S ks K As ρ Q := by
  have hm : x ∈ o.op.operands := by simp [ho, Op.operands]
  have hmi : i ∈ o.op.operands := by simp [ho, Op.operands]
  unfold symOp at h
  simp only [ho] at h
  split at h
  · rename_i n e k off kI jv hu hx hi
    split at h
    · rename_i s hs
      split at h
      · rename_i hj
        refine OpOut.plain (ρ' := ρ) (n := S.nv) (Ext.refl _) hl h hw hid fun ρf hE w0 ok0 fs stk β nt tm bl a w H hag hb => ?_
        obtain ⟨b, hβ, he⟩ := H.one (x := x) (by rw [hag x hm]; exact hx)
        obtain ⟨di, hdi, hri⟩ := H.one (x := i) (by rw [hag i hmi]; exact hi)
        cases hdi
        obtain ⟨_, ti, hti, hm2⟩ := sizeT_some hs
        refine ⟨_, ?_, fun s' hs' => by cases hs'; exact ⟨b, hβ, rfl⟩⟩
        simp [execOp, ho, he, reads_int hri, Instr.indexAt, run_underlying hu, asIntOf, Instr.sureAddr, hj.1, hj.2, sizeOf, typeInfo, program, Sem.run, hti, hm2, Addr_off]
      · cases h
    · cases h
  · rename_i e c z hu hx hi
    split at h
    · rename_i s' hs
      obtain ⟨_, ti, hti, hm2⟩ := sizeT_some hs
      have run : ∀ (a : Act) (w : World) (ad : Addr) (n cap : Nat) (kI : IntKind) (iv : Int), a.eval x = .slice (some ad) n cap → a.eval i = .int kI iv → 0 ≤ iv → iv < (n : Int) →
          (execOp a.eval o).run P w = .ok (.value (.pointer (some (ad.add (iv.toNat * (s' + 1)))))) w := by
        intro a w ad n cap kI iv h1 h2 h3 h4
        simp [execOp, ho, h1, h2, Instr.indexAt, run_underlying hu, asIntOf, h3, h4, sizeOf, typeInfo, program, Sem.run, hti, hm2]
      have foreign : ∀ y : A, (∀ {ρ : List DV} {β : Bm} {ok : Nat → Prop} {w : World} {v : Value}, CRep ρ β ok w c v → ∃ d, y.rd ρ = some d ∧ Reads ok w d v) →
          (prim (.inb (s' + 1)) [y, z] S fun _ S => K (some (.s (.one (.fp y z (s' + 1) 0)))) S) = some ir → OpOut P o S.nb S ks K As ρ Q := by
        intro y hy hp
        obtain ⟨zz, d, n, ρ', ir', hlt, hd, hK, hw', hE', hl', hz⟩ := prim_sound hp hw hl
        refine OpOut.plain hE' hl' hK hw' hid fun ρf hE w0 ok0 fs stk β nt tm bl a w H hag hb => ?_
        obtain ⟨dy, hdy, hry⟩ := hy (H.one (x := x) (by rw [hag x hm]; exact hx))
        obtain ⟨di, hdi, hri⟩ := H.one (x := i) (by rw [hag i hmi]; exact hi)
        simp only [List.all_cons, List.all_nil, Bool.and_true, Bool.and_eq_true] at hlt
        simp only [List.map_cons, List.map_nil, ev_of_ext hlt.1 hl (hE'.trans hE) hdy, ev_of_ext hlt.2 hl (hE'.trans hE) hdi] at hd
        cases dy <;> cases di <;> simp only [Prim.den] at hd <;> try (cases hd; done)
        rename_i len cells kI iv
        split at hd
        · rename_i hb3
          obtain ⟨a', cap', hv, hcap, f, hmem, hrd⟩ := reads_list hry
          have hne : cells ≠ [] := by
            intro h0; subst h0
            have := hb3.2.2
            simp only [List.length_nil, Nat.le_zero, Nat.mul_eq_zero] at this
            omega
          obtain ⟨ad, had, _, _⟩ := hmem hne
          subst had
          refine ⟨_, run a w ad len cap' kI iv hv (reads_int hri) hb3.1 hb3.2.1, fun s hs => ?_⟩
          cases hs
          exact ⟨len, cells, kI, iv, ad, cap', hdy, hdi, hb3.1, hb3.2.1, hb3.2.2, by rw [← hv]; exact hry, by simp⟩
        · cases hd
      have ownp : ∀ (k : Nat) (y : A), c = .own k → ((∃ s E, S.bl k = some (.own y s E)) ∨ S.bl k = some (.fro y)) →
          (prim (.inb (s' + 1)) [y, z] S fun _ S => K (some (.s (.one (.op k z (s' + 1) 0)))) S) = some ir → OpOut P o S.nb S ks K As ρ Q := by
        intro k y hck hkb hp
        subst hck
        obtain ⟨zz, d, n, ρ', ir', hlt, hd, hK, hw', hE', hl', hz⟩ := prim_sound hp hw hl
        refine OpOut.plain hE' hl' hK hw' hid fun ρf hE w0 ok0 fs stk β nt tm bl a w H hag hb => ?_
        have hbk : bl k = S.bl k := hb k (hks k (named_mem hm (by simp [hx, SV.blocks, S1.cells, C.blocks])))
        have hβ := H.one (x := x) (by rw [hag x hm]; exact hx)
        simp only [CRep] at hβ
        obtain ⟨di, hdi, hri⟩ := H.one (x := i) (by rw [hag i hmi]; exact hi)
        have hrow : ∃ len cells, y.rd ρf = some (.list len cells) ∧ (a.eval x = .slice none 0 0 ∧ cells.length = 0 ∨ ∃ b cap, a.eval x = .slice (some ⟨b, 0, none⟩) len cap) := by
          rcases hkb with ⟨s2, E2, hk2⟩ | hk2
          · obtain ⟨v, n2, cells2, g1, g2, g3⟩ := H.hbl k _ (hbk.trans hk2)
            rw [hβ] at g1; cases g1
            refine ⟨n2, cells2, g2, ?_⟩
            obtain ⟨xs, ho', hl2, _⟩ := g3
            rcases ho'.2 with ⟨hv, h0⟩ | ⟨g, cap, cur, hv, _⟩
            · exact .inl ⟨hv, by rw [← hl2, ho'.1, h0]; simp⟩
            · exact .inr ⟨g, cap, hv⟩
          · obtain ⟨v, n2, cells2, g1, g2, g3, g4⟩ := H.hbl k _ (hbk.trans hk2)
            rw [hβ] at g1; cases g1
            refine ⟨n2, cells2, g2, ?_⟩
            rcases g4 with hv | ⟨b, cap, hv⟩
            · refine .inl ⟨hv, ?_⟩
              obtain ⟨a', cap', hv', _, f, hmem, _⟩ := reads_list g3
              rw [hv] at hv'; cases hv'
              rcases Nat.eq_zero_or_pos cells2.length with h0 | h0
              · exact h0
              · obtain ⟨ad, had, _⟩ := hmem (List.length_pos_iff.1 h0)
                cases had
            · exact .inr ⟨b, cap, hv⟩
        obtain ⟨len, cells, hy, hcase⟩ := hrow
        simp only [List.all_cons, List.all_nil, Bool.and_true, Bool.and_eq_true] at hlt
        simp only [List.map_cons, List.map_nil, ev_of_ext hlt.1 hl (hE'.trans hE) hy, ev_of_ext hlt.2 hl (hE'.trans hE) hdi] at hd
        cases di <;> simp only [Prim.den] at hd <;> try (cases hd; done)
        rename_i kI iv
        split at hd
        · rename_i hb3
          rcases hcase with ⟨_, h0⟩ | ⟨b, cap, hv⟩
          · have := hb3.2.2
            rw [h0] at this
            simp only [Nat.le_zero, Nat.mul_eq_zero] at this
            omega
          · refine ⟨_, run a w ⟨b, 0, none⟩ len cap kI iv hv (reads_int hri) hb3.1 hb3.2.1, fun s hs => ?_⟩
            cases hs
            exact ⟨b, len, cap, kI, iv, by rw [hβ, hv], hdi, hb3.1, hb3.2.1, by rw [Addr_plain]; simp⟩
        · cases hd
      split at h
      · rename_i k
        split at h
        · rename_i y s2 E2 hk2; exact ownp k y rfl (.inl ⟨s2, E2, hk2⟩) h
        · rename_i y hk2; exact ownp k y rfl (.inr hk2) h
        · cases h
      · rename_i y; exact foreign y (fun hr => hr) h
      · rename_i y; exact foreign y (fun hr => by obtain ⟨d, h1, h2, _⟩ := hr; exact ⟨d, h1, h2⟩) h
      · rename_i k lo n s''
        split at h
        · rename_i hc
          simp only [Bool.and_eq_true, decide_eq_true_eq] at hc
          obtain ⟨rfl, hlo⟩ := hc
          obtain ⟨z1, d1, n1, ρ1, ir1, hlt1, hd1, hK1, hw1, hE1, hl1, hz1⟩ := prim_sound h hw hl
          obtain ⟨z2, d2, n2, ρ2, ir2, hlt2, hd2, hK2, hw2, hE2, hl2, hz2⟩ := prim_sound hK1 hw1 hl1
          refine OpOut.plain (hE1.trans hE2) hl2 hK2 hw2 hid fun ρf hE w0 ok0 fs stk β nt tm bl a w H hag hb => ?_
          obtain ⟨b, nk, capk, kI, lv, kJ, nv, ad, cap, g1, g2, g3, g4, g5, g6, g7, g8, _⟩ := H.one (x := x) (by rw [hag x hm]; exact hx)
          obtain ⟨di, hdi, hri⟩ := H.one (x := i) (by rw [hag i hmi]; exact hi)
          simp only [List.all_cons, List.all_nil, Bool.and_true, Bool.and_eq_true] at hlt1
          obtain ⟨di', hdi'⟩ := rd_of_lt hlt1.1 hl
          obtain ⟨dn', hdn'⟩ := rd_of_lt hlt1.2 hl
          obtain ⟨dl', hdl'⟩ := rd_of_lt hlo hl
          have ef := (hE1.trans hE2).trans hE
          rw [A.rd_ext ef hdi'] at hdi; cases hdi
          rw [A.rd_ext ef hdn'] at g3; cases g3
          rw [A.rd_ext ef hdl'] at g2; cases g2
          simp only [List.map_cons, List.map_nil, A.ev_of_rd hdi', A.ev_of_rd hdn'] at hd1
          simp only [List.map_cons, List.map_nil, A.ev_of_rd (A.rd_ext hE1 hdi'), A.ev_of_rd (A.rd_ext hE1 hdl')] at hd2
          cases di <;> simp only [Prim.den] at hd1 <;> try (cases hd1; done)
          rename_i kK iv
          split at hd1
          · rename_i hb3
            simp only [Prim.den, Option.some.injEq] at hd2
            have hn0 : 0 < nv := by omega
            have hnat : (nv.toNat : Int) = nv := Int.toNat_of_nonneg g5
            obtain ⟨b, rfl, hadd⟩ := g8 hn0
            refine ⟨_, run a w ⟨b, lv.toNat * (s' + 1), none⟩ nv.toNat cap kK iv (by rw [g7, hadd]) (reads_int hri) hb3.1 (by omega), fun s hs => ?_⟩
            cases hs
            refine ⟨b, nk, capk, .i64, lv + iv, g1, by rw [A.rd_ext hE hz2, ← hd2], by omega, by omega, ?_⟩
            rw [Addr_off]
            have : (lv + iv).toNat = lv.toNat + iv.toNat := by omega
            rw [this, Nat.add_mul]; rfl
          · cases hd1
        · cases h
      · cases h
    · cases h
  · cases h

end
end Go.Px
/- Px7: one operation, part five: structs and slices built, variables made, stores. -/
set_option linter.unusedSimpArgs false
set_option linter.unusedVariables false
namespace Go.Px
open Go.RowKit

theorem setAll_get (off : Nat) : ∀ (l : List Value) (n : Nat) (arr : Array Value) (j : Nat),
    ((l.zipIdx n).foldl (fun cs p => cs.setIfInBounds (off + p.2) p.1) arr)[j]? = if off + n ≤ j ∧ j < off + n + l.length ∧ j < arr.size then l[j - (off + n)]? else arr[j]?
  | [], n, arr, j => by
    simp only [List.zipIdx_nil, List.foldl_nil, List.length_nil, Nat.add_zero]
    rw [if_neg (by omega)]
  | v :: l, n, arr, j => by
    simp only [List.zipIdx_cons, List.foldl_cons]
    rw [setAll_get off l (n + 1) (arr.setIfInBounds (off + n) v) j]
    simp only [Array.size_setIfInBounds, List.length_cons]
    by_cases h : off + n = j
    · subst h
      rw [if_neg (by omega)]
      by_cases hs : off + n < arr.size
      · rw [if_pos (by omega)]
        simp [hs]
      · rw [if_neg (by omega)]
        simp [hs]
    · rw [Array.getElem?_setIfInBounds_ne h]
      by_cases h2 : off + (n + 1) ≤ j ∧ j < off + (n + 1) + l.length ∧ j < arr.size
      · rw [if_pos h2, if_pos (by omega)]
        have : j - (off + n) = (j - (off + (n + 1))) + 1 := by omega
        rw [this, List.getElem?_cons_succ]
      · rw [if_neg h2, if_neg (by omega)]

theorem setAll_size (off : Nat) : ∀ (l : List Value) (n : Nat) (arr : Array Value), ((l.zipIdx n).foldl (fun cs p => cs.setIfInBounds (off + p.2) p.1) arr).size = arr.size
  | [], _, _ => rfl
  | v :: l, n, arr => by
    simp only [List.zipIdx_cons, List.foldl_cons]
    rw [setAll_size off l (n + 1)]; simp

theorem setAll_arr (off : Nat) (vs arr : Array Value) : (vs.zipIdx.foldl (fun cs (c, j) => cs.setIfInBounds (off + j) c) arr) = (vs.toList.zipIdx 0).foldl (fun cs p => cs.setIfInBounds (off + p.2) p.1) arr := by
  rw [← Array.foldl_toList]
  simp

section
variable {w0 : W0} {ok0 : Nat → Prop} {fs : List (Array Value)} {stk : List Frm} {ρ ρ' : List DV} {β : Bm} {nt : Nat} {tm : Nat → Option SV} {bl : Nat → Option Blk} {a : Act} {w : World} {ok : Nat → Prop}

theorem cells_one {v : Value} (h : v.notAgg) : v.cells = #[v] := by
  cases v <;> first | rfl | exact absurd rfl (h _)

theorem S1Rep.cells {x : S1} {v : Value} (h : S1Rep ρ β ok w x v) (hβ : ∀ k v, β k = some v → v.notAgg) : CsRep ρ β ok w x.cells v.cells := by
  cases x with
  | one c =>
    rw [cells_one (CRep.notAgg h hβ)]
    refine ⟨rfl, fun j c' hj => ?_⟩
    cases j with
    | zero => simp [S1.cells] at hj; subst hj; exact ⟨v, rfl, h⟩
    | succ j => simp [S1.cells] at hj
  | agg cs =>
    obtain ⟨vs, rfl, hr⟩ := h
    exact hr

theorem splice_get {α : Type} {l m : List α} {off j : Nat} {x : α} (hle : off + m.length ≤ l.length) (h : (l.take off ++ m ++ l.drop (off + m.length))[j]? = some x) :
    (off ≤ j ∧ j < off + m.length ∧ m[j - off]? = some x) ∨ (¬ (off ≤ j ∧ j < off + m.length) ∧ l[j]? = some x) := by
  by_cases h1 : j < off
  · right
    rw [List.append_assoc, List.getElem?_append_left (by simp; omega), List.getElem?_take] at h
    rw [if_pos h1] at h
    exact ⟨by omega, h⟩
  · by_cases h2 : j < off + m.length
    · left
      rw [List.append_assoc, List.getElem?_append_right (by simp; omega), List.getElem?_append_left (by simp; omega)] at h
      refine ⟨by omega, h2, ?_⟩
      rw [← h]; congr 1; simp; omega
    · right
      rw [List.getElem?_append_right (by simp; omega), List.getElem?_drop] at h
      refine ⟨by omega, ?_⟩
      rw [← h]; congr 1; simp; omega

theorem CsRep.splice {cs ms : List C} {arr vs : Array Value} {off : Nat} (h : CsRep ρ β ok w cs arr) (hm : CsRep ρ β ok w ms vs) (hle : off + ms.length ≤ cs.length) :
    CsRep ρ β ok w (cs.take off ++ ms ++ cs.drop (off + ms.length)) (vs.zipIdx.foldl (fun cs (c, j) => cs.setIfInBounds (off + j) c) arr) := by
  rw [setAll_arr]
  refine ⟨?_, fun j c hj => ?_⟩
  · rw [setAll_size, h.1]; simp; omega
  · rw [setAll_get]
    simp only [Nat.add_zero, Array.length_toList]
    rcases splice_get hle hj with ⟨h1, h2, h3⟩ | ⟨h1, h2⟩
    · obtain ⟨u, hu, hr⟩ := hm.2 _ _ h3
      refine ⟨u, ?_, hr⟩
      rw [if_pos ⟨h1, by rw [hm.1]; exact h2, by rw [h.1]; omega⟩]
      simpa using hu
    · obtain ⟨u, hu, hr⟩ := h.2 _ _ h2
      refine ⟨u, ?_, hr⟩
      rw [if_neg (by rw [hm.1]; omega)]
      exact hu

theorem fill_sound (H : RM w0 ok0 fs stk ρ β nt tm bl a w) {S : St} (place : Nat → Option (Nat × Nat)) : ∀ (ps : List (Nat × Operand)) (l : List (Nat × S1)) (cells cs : List C) (arr : Array Value),
    S.parts ps = some l → fillC place cells l = some cs → CsRep ρ β (okS w0 ok0 bl β) w cells arr → (∀ p ∈ ps, evT tm p.2 = S.ev p.2) →
    ∃ arr', Instr.fill place arr (ps.map fun p => (p.1, a.eval p.2)) = some arr' ∧ CsRep ρ β (okS w0 ok0 bl β) w cs arr'
  | [], l, cells, cs, arr, hp, hf, hc, _ => by
    simp only [St.parts] at hp; cases hp
    simp only [fillC] at hf; cases hf
    exact ⟨arr, rfl, hc⟩
  | (i, x) :: r, l, cells, cs, arr, hp, hf, hc, hag => by
    simp only [St.parts] at hp
    split at hp
    · rename_i v l' hx hl'
      cases hp
      simp only [fillC] at hf
      split at hf
      · cases hf
      · rename_i off size hpl
        split at hf
        · cases hf
        · rename_i hcond
          simp only [not_or, Nat.not_lt, Decidable.not_not, gt_iff_lt] at hcond
          have hv : S1Rep ρ β (okS w0 ok0 bl β) w v (a.eval x) := H.eval (x := x) (sv := .s v) (by rw [hag (i, x) (by simp)]; exact hx)
          have hvc := hv.cells (fun k v h => notAgg_of_one (H.na k v h))
          have hsp := hc.splice hvc (off := off) (by omega)
          obtain ⟨arr', ha, hr⟩ := fill_sound H place r l' _ cs _ hl' hf hsp (fun p hp => hag p (by simp [hp]))
          refine ⟨arr', ?_, hr⟩
          simp only [List.map_cons, Instr.fill, hpl]
          have hs1 : (a.eval x).cells.size = size := by rw [hvc.1]; exact hcond.1
          have hs2 : ¬ (off + (a.eval x).cells.size > arr.size) := by rw [hvc.1, hc.1]; omega
          rw [if_neg (by simp [hs1]; rw [hs1] at hs2; omega)]
          exact ha
    · cases hp

end

section
variable {P : Program} {o : Oper} {ks : List Nat} {S : St} {K : Option SV → St → Option IR} {As : List (List DV → Prop)} {ρ : List DV} {Q : List AV → Prop} {ir : IR}

theorem zerosOf_some {t : TypeId} {cs : List C} (h : zerosOf P t = some cs) : ∃ ti z, P.info? t = some ti ∧ ti.zero = some z ∧ cellsOfVal z = some cs := by
  simp only [zerosOf, Option.bind_eq_some_iff] at h
  obtain ⟨z, ⟨ti, h1, h2⟩, h3⟩ := h
  exact ⟨ti, z, h1, h2, h3⟩

theorem run_zeroValue {t : TypeId} {ti : TypeInfo} {z : Value} {w : World} (h1 : P.info? t = some ti) (h2 : ti.zero = some z) : (zeroValue t).run P w = .ok z w := by
  simp [zeroValue, typeInfo, program, Sem.run, h1, h2]

theorem run_places (fs : Array Field) (w : World) (h : ∀ f ∈ fs, ∃ ti, P.info? f.type = some ti) :
    (fs.mapM (fun f => (do pure (f.offset, ← sizeOf f.type) : Sem (Nat × Nat)))).run P w = .ok (fs.map fun f => (f.offset, ((P.info? f.type).map (·.size)).getD 0)) w := by
  have hl : ∀ (l : List Field), (∀ f ∈ l, ∃ ti, P.info? f.type = some ti) → (l.mapM (fun f => (do pure (f.offset, ← sizeOf f.type) : Sem (Nat × Nat)))).run P w = .ok (l.map fun f => (f.offset, ((P.info? f.type).map (·.size)).getD 0)) w := by
    intro l
    induction l with
    | nil => intro _; rfl
    | cons f r ih =>
      intro hh
      obtain ⟨ti, hti⟩ := hh f (by simp)
      have ih' := ih fun g hg => hh g (by simp [hg])
      simp only [List.mapM_cons, Sem.run_bind, sizeOf, typeInfo, program, Sem.run, hti, Sem.run_pure, Result.andThen_ok] at ih' ⊢
      simp only [sizeOf, typeInfo, program, Sem.run_bind, Sem.run, hti, Sem.run_pure, Result.andThen_ok, ih', List.map_cons, Option.map_some, Option.getD_some]
  rw [Array.mapM_eq_mapM_toList]
  rw [Sem.run_map, hl fs.toList (fun f hf => h f (by simpa using hf))]
  simp only [Result.andThen_ok]
  rw [← Array.toList_map, Array.toArray_toList]

theorem op_build {t : TypeId} {ps : Array (Nat × Operand)} (ho : o.op = .build t ps) (h : symOp P o 0 S.nb S K = some ir) (hw : IRwp P As ρ ir Q) (hl : ρ.length = S.nv) (hid : S.bl S.nb = none) : OpOut P o S.nb S ks K As ρ Q := by
  have hmem : ∀ p ∈ ps.toList, p.2 ∈ o.op.operands := fun p hp => by
    simp only [ho, Op.operands]
    simp only [List.mem_toArray, List.mem_map]
    exact ⟨p, hp, rfl⟩
  have hparts : ∀ (a : Act), (ps.map fun (i, x) => (i, a.eval x)).toList = ps.toList.map fun p => (p.1, a.eval p.2) := fun a => by simp
  unfold symOp at h
  simp only [ho] at h
  split at h
  · rename_i zs l fds hz hp hu
    obtain ⟨ti, z, h1, h2, h3⟩ := zerosOf_some hz
    split at h
    · rename_i cs hf
      split at h
      · rename_i hall
        refine OpOut.plain (ρ' := ρ) (n := S.nv) (Ext.refl _) hl h hw hid fun ρf hE w0 ok0 fs stk β nt tm bl a w H hag hb => ?_
        have hpl : (fun i => (fds[i]?).bind fun (f : Field) => (P.info? f.type).map fun ti => (f.offset, ti.size)) = fun (i : Nat) => ((fds.map fun (f : Field) => (f.offset, ((P.info? f.type).map (·.size)).getD 0))[i]?) := by
          funext i
          rw [Array.getElem?_map]
          cases hi : fds[i]? with
          | none => rfl
          | some f =>
            have hfm : f ∈ fds := Array.mem_of_getElem? hi
            have := Array.all_eq_true'.1 hall f hfm
            obtain ⟨tj, htj⟩ := Option.isSome_iff_exists.1 this
            simp [htj]
        rw [hpl] at hf
        obtain ⟨arr', ha, hr⟩ := fill_sound H _ ps.toList l zs cs z.cells hp hf (cellsOfVal_rep h3) (fun p hp => hag _ (hmem p hp))
        refine ⟨.agg arr', ?_, fun s hs => by cases hs; exact ⟨arr', rfl, hr⟩⟩
        have hpm := run_places (P := P) fds w (fun f hf => Option.isSome_iff_exists.1 (Array.all_eq_true'.1 hall f hf))
        simp only [execOp, ho, Instr.build, Sem.run_bind, run_zeroValue h1 h2, Result.andThen_ok, run_underlying hu, hpm, hparts, ha, Sem.run_pure]
      · cases h
    · cases h
  · rename_i zs l n e hz hp hu
    obtain ⟨ti, z, h1, h2, h3⟩ := zerosOf_some hz
    split at h
    · rename_i s hs
      obtain ⟨_, te, hte, hse⟩ := sizeT_some hs
      split at h
      · rename_i cs hf
        refine OpOut.plain (ρ' := ρ) (n := S.nv) (Ext.refl _) hl h hw hid fun ρf hE w0 ok0 fs stk β nt tm bl a w H hag hb => ?_
        obtain ⟨arr', ha, hr⟩ := fill_sound H _ ps.toList l zs cs z.cells hp hf (cellsOfVal_rep h3) (fun p hp => hag _ (hmem p hp))
        refine ⟨.agg arr', ?_, fun s hs => by cases hs; exact ⟨arr', rfl, hr⟩⟩
        simp only [execOp, ho, Instr.build, Sem.run_bind, run_zeroValue h1 h2, Result.andThen_ok, run_underlying hu, sizeOf, typeInfo, program, Sem.run, hte, hse, hparts, ha, Sem.run_pure]
      · cases h
    · cases h
  · cases h

end
end Go.Px
/- Px8: one operation, part six: what makes memory, what writes it. -/
set_option linter.unusedSimpArgs false
set_option linter.unusedVariables false
namespace Go.Px
open Go.RowKit

theorem patch_upd {bl b0 : Nat → Option Blk} {id : Nat} {b : Option Blk} {ks : List Nat} (h : ∀ k ∈ ks, bl k = b0 k) : patch bl (upd b0 id b) (id :: ks) = upd bl id b := by
  funext k
  simp only [patch, upd, List.mem_cons]
  by_cases hk : k = id
  · simp [hk]
  · by_cases h2 : k ∈ ks
    · simp [hk, h2, h k h2]
    · simp [hk, h2]

theorem upd_none (β : Bm) {id : Nat} {v : Value} (hβ : β id = none) : (∀ k u, β k = some u → upd β id (some v) k = some u) ∧ (∀ k, k ≠ id → upd β id (some v) k = β k) := by
  refine ⟨fun k u hk => ?_, fun k hk => by simp [upd, hk]⟩
  unfold upd; split
  · rename_i he; subst he; rw [hβ] at hk; cases hk
  · exact hk

section
variable {w0 : W0} {ok0 : Nat → Prop} {fs : List (Array Value)} {stk : List Frm} {ρ ρ' : List DV} {β : Bm} {nt : Nat} {tm : Nat → Option SV} {bl : Nat → Option Blk} {a : Act} {w : World} {ok : Nat → Prop}

theorem RM.new_own (H : RM w0 ok0 fs stk ρ β nt tm bl a w) {id : Nat} (hβ : β id = none) (hid : bl id = none) {x : A} {n cap s : Nat} {E : TypeId} {cells : List DV} {arr : Array Value} (hx : x.rd ρ = some (.list n cells)) (hn : n ≤ cap) (hm : cap ≤ maxLen)
    (hl : cells.length = n * s) (hs : arr.size = cap * s) (hc : ∀ (j : Nat) (d : DV), cells[j]? = some d → ∃ u, arr[j]? = some u ∧ Reads (okS w0 ok0 bl β) w d u) :
    RM w0 ok0 fs stk ρ (upd β id (some (.slice (some ⟨w.heap.size, 0, none⟩) n cap))) nt tm (upd bl id (some (.own x s E))) a (w.alloc (.cells arr E)) := by
  refine (H.turn (k0 := none) (row := none) hβ hid ⟨World.grownBy_alloc w _ none, Nat.le_refl _⟩ (fun r hr => by cases hr) (fun m hm => by cases hm; exact .inl (Nat.le_refl _)) rfl fun hmono _ => ?_).1
  have hle : n * s ≤ arr.size := by rw [hs]; exact Nat.mul_le_mul_right _ hn
  refine ⟨_, n, cells, by simp [upd], hx, arr.toList.take (n * s), ⟨by simp; omega, .inr ⟨w.heap.size, cap, arr, rfl, H.bel.own (Nat.le_refl _), heap_alloc_new w _, hn, hm, Nat.le_of_eq hs.symm, rfl⟩⟩, by simp; omega, fun j d hj => ?_⟩
  obtain ⟨u, hu, hr⟩ := hc j d hj
  have hjl := (List.getElem?_eq_some_iff.1 hj).1
  exact ⟨u, by rw [List.getElem?_take, if_pos (by omega)]; simpa using hu, hr.imp hmono⟩

theorem okS_new (H : RM w0 ok0 fs stk ρ β nt tm bl a w) : okS w0 ok0 bl β w.heap.size :=
  ⟨.inr (H.bel.own (Nat.le_refl _)), fun k blk v hb hm hv he => by have := (H.lt_of_mut hb hm hv he).2; omega⟩

theorem below_alloc' (w : World) (o : Obj) : Grows w (w.alloc o) := ⟨(Below.refl _ _).alloc (Nat.le_refl _) o, Nat.le_refl _⟩

/-- A new row that is only read. -/
theorem reads_new (H : RM w0 ok0 fs stk ρ β nt tm bl a w) {n cap : Nat} {E : TypeId} {cells : List DV} {arr : Array Value} (hn : n ≤ cap) (hl : cells.length ≤ arr.size)
    (hc : ∀ (j : Nat) (d : DV), cells[j]? = some d → ∃ u, arr[j]? = some u ∧ Reads (okS w0 ok0 bl β) w d u) :
    Reads (okS w0 ok0 bl β) (w.alloc (.cells arr E)) (.list n cells) (.slice (some ⟨w.heap.size, 0, none⟩) n cap) := by
  refine .list n cells _ cap (fun j => arr.getD j undef) hn (fun _ => ⟨_, rfl, okS_new H, fun j hj => ?_⟩) (fun j d hj => ?_)
  · rw [Addr_plain, World.cell?_alloc_new]
    have : j < arr.size := by omega
    simp [Array.getD_eq_getD_getElem?, this]
  · obtain ⟨u, hu, hr⟩ := hc j d hj
    have : arr.getD j undef = u := by simp [Array.getD_eq_getD_getElem?, hu]
    simp only [this]
    exact hr.imp fun b o hb ho => ⟨hb, by rw [(below_alloc' w _).block b (Array.getElem?_eq_some_iff.1 ho).1]; exact ho⟩

end

section
variable {P : Program} {o : Oper} {ks : List Nat} {S : St} {K : Option SV → St → Option IR} {As : List (List DV → Prop)} {ρ : List DV} {Q : List AV → Prop} {ir : IR}

theorem op_newbox {T T' : TypeId} (hT : T ≠ GIV) {cs : List C} (h : K (some (.s (.one (.lp S.nb 0)))) (S.setB S.nb (.box cs T false)) = some ir) (hw : IRwp P As ρ ir Q) (hl : ρ.length = S.nv)
    (run : ∀ (ρf : List DV), Ext ρ ρf → ∀ (w0 : W0) (ok0 : Nat → Prop) (fs : List (Array Value)) (stk : List Frm) (β : Bm) (nt : Nat) (tm : Nat → Option SV) (bl : Nat → Option Blk) (a : Act) (w : World),
      RM w0 ok0 fs stk ρf β nt tm bl a w → (∀ x ∈ o.op.operands, evT tm x = S.ev x) → ∃ arr, (execOp a.eval o).run P w = .ok (.value (.pointer (some ⟨w.heap.size, 0, none⟩))) (w.alloc (.cells arr T')) ∧ CsRep ρf β (okS w0 ok0 bl β) w cs arr) :
    OpOut P o S.nb S ks K As ρ Q := by
  refine ⟨ρ, _, S.setB S.nb (.box cs T false), ir, Ext.refl _, hl, h, hw, ⟨rfl, rfl, rfl, rfl, rfl⟩, fun k hk => ?_, ⟨fun _ k hk => by simp [St.setB, upd, hk], fun k hk h => by simp [St.setB, upd, hk, h]⟩, ?_⟩
  · have : k ≠ S.nb := fun he => hk (by simp [he])
    simp [St.setB, upd, this]
  intro ρf hE w0 ok0 fs stk β nt tm bl a w H hag hb hβ hbl K' Q' hk
  obtain ⟨arr, hr, hc⟩ := run ρf hE w0 ok0 fs stk β nt tm bl a w H hag
  have hp : patch bl (S.setB S.nb (.box cs T false)).bl (S.nb :: ks) = upd bl S.nb (some (.box cs T false)) := patch_upd hb
  refine wp_value hr (hk _ _ _ (by rw [hp]; exact H.new_box hβ hbl T T' hT hc) (upd_none β hβ).1 (upd_none β hβ).2 fun s hs => ?_)
  cases hs
  exact ⟨w.heap.size, by simp [upd], rfl⟩

theorem op_alloc {T : TypeId} (ho : o.op = .alloc T) (h : symOp P o 0 S.nb S K = some ir) (hw : IRwp P As ρ ir Q) (hl : ρ.length = S.nv) : OpOut P o S.nb S ks K As ρ Q := by
  unfold symOp at h
  simp only [ho] at h
  split at h
  · rename_i cs hz
    obtain ⟨ti, z, h1, h2, h3⟩ := zerosOf_some hz
    refine op_newbox (T' := T) (nog_ne T) h hw hl fun ρf hE w0 ok0 fs stk β nt tm bl a w H hag => ⟨z.cells, ?_, cellsOfVal_rep h3⟩
    simp only [execOp, ho, Instr.alloc, Sem.run_bind, run_zeroValue h1 h2, Result.andThen_ok, newVar, newRow, newObj, Sem.run, Sem.run_pure]
    rfl
  · cases h

theorem op_box {T : TypeId} {x : Operand} (ho : o.op = .box T x) (h : symOp P o 0 S.nb S K = some ir) (hw : IRwp P As ρ ir Q) (hl : ρ.length = S.nv) : OpOut P o S.nb S ks K As ρ Q := by
  have hm : x ∈ o.op.operands := by simp [ho, Op.operands]
  unfold symOp at h
  simp only [ho] at h
  split at h
  · rename_i v hx
    refine op_newbox (T' := T) (nog_ne T) h hw hl fun ρf hE w0 ok0 fs stk β nt tm bl a w H hag => ⟨(a.eval x).cells, ?_, ?_⟩
    · simp only [execOp, ho, Instr.box, Sem.run_bind, Result.andThen_ok, newVar, newRow, newObj, Sem.run, Sem.run_pure]
      rfl
    · have hv : S1Rep ρf β (okS w0 ok0 bl β) w v (a.eval x) := H.eval (x := x) (sv := .s v) (by rw [hag x hm]; exact hx)
      exact hv.cells (fun k v h => notAgg_of_one (H.na k v h))
  · cases h

theorem toA_facts {S S1 : St} {c : C} {x : A} (h : S.toA c = some (x, S1)) : S1 = { S with bl := S1.bl } ∧ (∀ k, k ∉ c.blocks → S1.bl k = S.bl k) ∧ (∀ k, S.bl k = none → S1.bl k = none) := by
  cases c <;> simp only [St.toA] at h
  case own k =>
    split at h
    · rename_i y s E hk
      cases h
      refine ⟨rfl, fun j hj => by simp only [C.blocks, List.mem_singleton] at hj; simp [St.setB, upd, hj], fun j hj => ?_⟩
      have : j ≠ k := fun he => by rw [he, hk] at hj; cases hj
      simp [St.setB, upd, this, hj]
    · cases h; exact ⟨rfl, fun _ _ => rfl, fun _ h => h⟩
    · cases h
  all_goals first | (cases h; done) | (cases h; exact ⟨rfl, fun _ _ => rfl, fun _ h => h⟩)

theorem toAs_facts : ∀ {cs : List C} {S S1 : St} {l : List A}, S.toAs cs = some (l, S1) → S1 = { S with bl := S1.bl } ∧ (∀ k, k ∉ cs.flatMap C.blocks → S1.bl k = S.bl k) ∧ (∀ k, S.bl k = none → S1.bl k = none) ∧ l.length = cs.length
  | [], S, S1, l, h => by
    simp only [St.toAs] at h; cases h
    exact ⟨rfl, fun _ _ => rfl, fun _ h => h, rfl⟩
  | c :: r, S, S1, l, h => by
    simp only [St.toAs, Option.bind_eq_bind, Option.bind_eq_some_iff, Option.pure_def] at h
    obtain ⟨⟨x, S'⟩, hx, ⟨l', S''⟩, hl', hh⟩ := h
    cases hh
    obtain ⟨e1, u1, n1⟩ := toA_facts hx
    obtain ⟨e2, u2, n2, m2⟩ := toAs_facts hl'
    refine ⟨by rw [e2, e1], fun k hk => ?_, fun k hk => n2 k (n1 k hk), by simp [m2]⟩
    simp only [List.flatMap_cons, List.mem_append, not_or] at hk
    rw [u2 k hk.2, u1 k hk.1]

theorem ofVal_blocks {v : Value} {c : C} (h : C.ofVal v = some c) : c.blocks = [] := by
  unfold C.ofVal at h
  split at h <;> first | (cases h; done) | (cases h; rfl)

theorem zeros_blocks {t : TypeId} {cs : List C} (h : zerosOf P t = some cs) : ∀ c ∈ cs, c.blocks = [] := by
  obtain ⟨ti, z, _, _, h3⟩ := zerosOf_some h
  intro c hc
  obtain ⟨j, hj⟩ := List.mem_iff_getElem?.1 hc
  obtain ⟨x, _, hx⟩ := mapM_back _ h3 hj
  exact ofVal_blocks hx

theorem fillC_mem {place : Nat → Option (Nat × Nat)} : ∀ {l : List (Nat × S1)} {cells cs : List C}, fillC place cells l = some cs → ∀ c ∈ cs, c ∈ cells ∨ ∃ p ∈ l, c ∈ p.2.cells
  | [], cells, cs, h, c, hc => by simp only [fillC] at h; cases h; exact .inl hc
  | (i, v) :: r, cells, cs, h, c, hc => by
    simp only [fillC] at h
    split at h
    · cases h
    · split at h
      · cases h
      · rcases fillC_mem h c hc with h1 | ⟨p, hp, h1⟩
        · simp only [List.mem_append] at h1
          rcases h1 with (h1 | h1) | h1
          · exact .inl (List.mem_of_mem_take h1)
          · exact .inr ⟨(i, v), by simp, h1⟩
          · exact .inl (List.mem_of_mem_drop h1)
        · exact .inr ⟨p, by simp [hp], h1⟩

theorem fillC_len {place : Nat → Option (Nat × Nat)} : ∀ {l : List (Nat × S1)} {cells cs : List C}, fillC place cells l = some cs → cs.length = cells.length
  | [], cells, cs, h => by simp only [fillC] at h; cases h; rfl
  | (i, v) :: r, cells, cs, h => by
    simp only [fillC] at h
    split at h
    · cases h
    · split at h
      · cases h
      · rename_i hc
        simp only [not_or, Nat.not_lt, Decidable.not_not, gt_iff_lt] at hc
        rw [fillC_len h]; simp; omega

theorem parts_mem {S : St} : ∀ {ps : List (Nat × Operand)} {l : List (Nat × S1)}, S.parts ps = some l → ∀ p ∈ l, ∃ q ∈ ps, S.ev q.2 = some (.s p.2)
  | [], l, h, p, hp => by simp only [St.parts] at h; cases h; cases hp
  | (i, x) :: r, l, h, p, hp => by
    simp only [St.parts] at h
    split at h
    · rename_i v l' hx hl'
      cases h
      rcases List.mem_cons.1 hp with rfl | hp
      · exact ⟨(i, x), by simp, hx⟩
      · obtain ⟨q, hq, he⟩ := parts_mem hl' p hp
        exact ⟨q, by simp [hq], he⟩
    · cases h

theorem patch_upd2 {bl b0 b1 : Nat → Option Blk} {id : Nat} {b : Option Blk} {ks fb : List Nat} (hsub : ∀ k ∈ fb, k ∈ ks) (h0 : ∀ k ∈ ks, bl k = b0 k) (h1 : ∀ k, k ∉ fb → b1 k = b0 k) :
    patch bl (upd b1 id b) (id :: ks) = upd (patch bl b1 fb) id b := by
  funext k
  simp only [patch, upd, List.mem_cons]
  by_cases hk : k = id
  · simp [hk]
  · by_cases hf : k ∈ fb
    · simp [hk, hf, hsub k hf]
    · by_cases h2 : k ∈ ks
      · simp [hk, hf, h2, h1 k hf, h0 k h2]
      · simp [hk, hf, h2]

theorem op_buildSlice {t : TypeId} {len : Nat} {ps : Array (Nat × Operand)} {asArg : Nat} (ho : o.op = .buildSlice t len ps) (hks : ∀ k ∈ namedOf S o.op, k ∈ ks) (h : symOp P o asArg S.nb S K = some ir) (hw : IRwp P As ρ ir Q) (hl : ρ.length = S.nv) (hid : S.bl S.nb = none) :
    OpOut P o S.nb S ks K As ρ Q := by
  have hmem : ∀ p ∈ ps.toList, p.2 ∈ o.op.operands := fun p hp => by
    simp only [ho, Op.operands, List.mem_toArray, List.mem_map]
    exact ⟨p, hp, rfl⟩
  have hparts : ∀ (a : Act), (ps.map fun (i, x) => (i, a.eval x)).toList = ps.toList.map fun p => (p.1, a.eval p.2) := fun a => by simp
  unfold symOp at h
  simp only [ho] at h
  split at h
  · rename_i e hu
    split at h
    · rename_i ti zs l hti hz hp
      split at h
      · cases h
      · rename_i hcond
        simp only [not_or, Decidable.not_not, Nat.not_lt, gt_iff_lt] at hcond
        obtain ⟨ti', z, h1, h2, h3⟩ := zerosOf_some hz
        rw [hti] at h1; cases h1
        split at h
        · rename_i cs hf
          split at h
          · rename_i as S1 has
            obtain ⟨eS, uS, nS, lS⟩ := toAs_facts has
            have hnv : S1.nv = S.nv := by rw [eS]
            obtain ⟨d, ir', hlt, hd, hK, hw', hE', hl', hz'⟩ := emit_sound h hw (by rw [hnv]; exact hl)
            have hfb : ∀ k ∈ cs.flatMap C.blocks, k ∈ ks := fun k hk => by
              obtain ⟨c, hc, hkc⟩ := List.mem_flatMap.1 hk
              rcases fillC_mem hf c hc with h4 | ⟨p, hp', h4⟩
              · rw [List.mem_map] at h4
                obtain ⟨j, _, rfl⟩ := h4
                have : (zs.getD (j % zs.length) C.unk).blocks = [] := by
                  rw [List.getD_eq_getElem?_getD]
                  cases hg : zs[j % zs.length]? with
                  | none => rfl
                  | some c => exact zeros_blocks hz c (List.mem_of_getElem? hg)
                rw [this] at hkc; cases hkc
              · obtain ⟨q, hq, he⟩ := parts_mem hp p hp'
                exact hks k (named_mem (hmem q hq) (by rw [he]; exact List.mem_flatMap.2 ⟨c, h4, hkc⟩))
            have hden : d = .list len (as.map (A.ev ρ)) := by
              simp only [Prim.den] at hd; exact (Option.some.inj hd).symm
            subst hden
            have hlen0 : as.length = len * ti.size := by rw [lS, fillC_len hf]; simp
            have common : ∀ (ρf : List DV), Ext (ρ ++ [.list len (as.map (A.ev ρ))]) ρf → ∀ (w0 : W0) (ok0 : Nat → Prop) (fs : List (Array Value)) (stk : List Frm) (β : Bm) (nt : Nat) (tm : Nat → Option SV) (bl : Nat → Option Blk) (a : Act) (w : World),
                RM w0 ok0 fs stk ρf β nt tm bl a w → (∀ x ∈ o.op.operands, evT tm x = S.ev x) → (∀ k ∈ ks, bl k = S.bl k) →
                ∃ arr : Array Value, (execOp a.eval o).run P w = .ok (.value (.slice (some ⟨w.heap.size, 0, none⟩) len len)) (w.alloc (.cells arr e)) ∧ arr.size = len * ti.size ∧
                  RM w0 ok0 fs stk ρf β nt tm (patch bl S1.bl (cs.flatMap C.blocks)) a w ∧
                  ∀ (j : Nat) (d : DV), (as.map (A.ev ρ))[j]? = some d → ∃ u, arr[j]? = some u ∧ Reads (okS w0 ok0 (patch bl S1.bl (cs.flatMap C.blocks)) β) w d u := by
              intro ρf hE w0 ok0 fs stk β nt tm bl a w H hag hb
              have hzc := cellsOfVal_rep (ρ := ρf) (β := β) (ok := okS w0 ok0 bl β) (w := w) h3
              have hz0 : CsRep ρf β (okS w0 ok0 bl β) w ((List.range (len * ti.size)).map fun j => zs.getD (j % zs.length) .unk)
                  ((Array.range (len * ti.size)).map fun j => (if len * ti.size = 0 then #[] else z.cells)[j % (if len * ti.size = 0 then #[] else z.cells).size]!) := by
                refine ⟨by simp, fun j c hj => ?_⟩
                rw [List.getElem?_map] at hj
                by_cases hjl : j < len * ti.size
                · rw [List.getElem?_range hjl] at hj
                  simp only [Option.map_some, Option.some.injEq] at hj
                  have hne : ¬ (len * ti.size = 0) := by omega
                  have hmod : j % zs.length < zs.length := Nat.mod_lt _ (by omega)
                  obtain ⟨u, hu, hr⟩ := hzc.2 (j % zs.length) (zs[j % zs.length]'hmod) (List.getElem?_eq_getElem hmod)
                  refine ⟨u, ?_, ?_⟩
                  · simp only [hne, if_false, Array.getElem?_map, hzc.1]
                    rw [Array.getElem?_range]
                    simp only [hjl, if_true, Option.map_some, Option.some.injEq]
                    rw [getElem!_def, hu]
                  · rw [← hj]
                    have : zs.getD (j % zs.length) .unk = zs[j % zs.length]'hmod := by simp [List.getD_eq_getElem?_getD, hmod]
                    rw [this]; exact hr
                · rw [List.getElem?_eq_none (by simpa using hjl)] at hj; cases hj
              obtain ⟨arr, ha, hr⟩ := fill_sound H (fun i => some (i * ti.size, ti.size)) ps.toList l _ cs _ hp hf hz0 (fun p hp => hag _ (hmem p hp))
              obtain ⟨_, _, _, f4⟩ := toAs_sound (w0 := w0) (ok0 := ok0) (fs := fs) (stk := stk) (ρ := ρf) (β := β) (nt := nt) (tm := tm) (a := a) (w := w) has
              obtain ⟨g1, g2, g3⟩ := f4 (bl := bl) H (fun k hk => hb k (hfb k hk)) (fun j => arr.getD j undef) (fun j c hj => by
                obtain ⟨u, hu, hq⟩ := hr.2 j c hj
                simpa [Array.getD_eq_getD_getElem?, hu] using hq)
              refine ⟨arr, ?_, by rw [hr.1, fillC_len hf]; simp, g1, fun j d hj => ?_⟩
              · have hn24 : ¬ (len * ti.size > 2 ^ 24) := by omega
                simp only [execOp, ho, Instr.buildSlice, Sem.run_bind, run_underlying hu, Result.andThen_ok, sizeOf, typeInfo, program, Sem.run, hti, Sem.run_pure]
                by_cases h0 : len * ti.size = 0
                · have e0 : ∀ f : Nat → Value, Array.map f (Array.range 0) = #[] := fun f => by simp [Array.range]
                  simp only [h0, e0] at ha hn24 ⊢
                  simp only [if_false, if_true, Sem.run_pure, Sem.run_bind, Result.andThen_ok, hn24, hparts, newRow, newObj, Sem.run, e0] at ha ⊢
                  simp [ha, newRow, newObj, Sem.run]
                · simp only [h0, if_false] at ha ⊢
                  simp [hn24, hparts, run_zeroValue hti h2, ha, newRow, newObj, Sem.run, h0]
              · rw [List.getElem?_map] at hj
                cases hx : as[j]? with
                | none => rw [hx] at hj; cases hj
                | some x =>
                  rw [hx] at hj
                  simp only [Option.map_some, Option.some.injEq] at hj
                  obtain ⟨dd, hdd, hrd⟩ := g3 j x hx
                  have hjl : j < arr.size := by
                    rw [hr.1, ← lS]; exact (List.getElem?_eq_some_iff.1 hx).1
                  have hxl : x.lt S.nv = true := by
                    rw [← hnv]; exact List.all_eq_true.1 hlt x (List.mem_of_getElem? hx)
                  have := ev_of_ext hxl hl (hE'.trans hE) hdd
                  refine ⟨arr[j], by simp [hjl], ?_⟩
                  rw [← hj, this]
                  simpa [Array.getD_eq_getD_getElem?, hjl] using hrd
            have hS1 : Same S S1 := by rw [eS]; exact ⟨rfl, rfl, rfl, rfl, rfl⟩
            split at hK
            · refine ⟨_, _, { S1 with nv := S1.nv + 1 }, ir', hE', hl', hK, hw', by rw [eS]; exact ⟨rfl, rfl, rfl, rfl, rfl⟩, fun k hk => uS k fun hk2 => hk (by simp [hfb k hk2]), ⟨fun ht => by simp [turnsOp, ho] at ht, fun k _ h => nS k h⟩, ?_⟩
              intro ρf hE w0 ok0 fs stk β nt tm bl a w H hag hb hβ hbl K' Q' hk
              obtain ⟨arr, hrun, hsz, HM, hc⟩ := common ρf hE w0 ok0 fs stk β nt tm bl a w H hag hb
              have hp2 : patch bl S1.bl (S.nb :: ks) = patch bl S1.bl (cs.flatMap C.blocks) := patch_wide (b0 := S.bl) (fun k hk => by simp [hfb k hk]) (fun k hk => by
                rcases List.mem_cons.1 hk with rfl | hk
                · rw [hbl, hid]
                · exact hb k hk) uS
              refine wp_value hrun (hk _ β _ (by show RM w0 ok0 fs stk ρf β nt tm (patch bl S1.bl (S.nb :: ks)) a _; rw [hp2]; exact HM.grow (below_alloc' w _)) (fun _ _ h => h) (fun _ _ => rfl) fun s hs => ?_)
              cases hs
              refine ⟨_, A.rd_ext hE hz', ?_, _, _, rfl⟩
              show Reads (okS w0 ok0 (patch bl S1.bl (S.nb :: ks)) β) _ _ _
              rw [hp2]
              exact reads_new HM (Nat.le_refl _) (by rw [hsz]; simp [hlen0]) hc
            · refine ⟨_, _, ({ S1 with nv := S1.nv + 1 } : St).setB S.nb (.own (.var S1.nv) ti.size e), ir', hE', hl', hK, hw', by rw [eS]; exact ⟨rfl, rfl, rfl, rfl, rfl⟩, fun k hk => ?_, ⟨fun ht => by simp [turnsOp, ho] at ht, fun k hk h => by simp only [St.setB, upd, hk, if_false]; exact nS k h⟩, ?_⟩
              · have hne : k ≠ S.nb := fun he => hk (by simp [he])
                simp only [St.setB, upd, hne, if_false]
                exact uS k fun hk2 => hk (by simp [hfb k hk2])
              intro ρf hE w0 ok0 fs stk β nt tm bl a w H hag hb hβ hbl K' Q' hk
              obtain ⟨arr, hrun, hsz, HM, hc⟩ := common ρf hE w0 ok0 fs stk β nt tm bl a w H hag hb
              have hp2 : patch bl (({ S1 with nv := S1.nv + 1 } : St).setB S.nb (.own (.var S1.nv) ti.size e)).bl (S.nb :: ks) = upd (patch bl S1.bl (cs.flatMap C.blocks)) S.nb (some (.own (.var S1.nv) ti.size e)) :=
                patch_upd2 (b0 := S.bl) hfb hb uS
              have hid2 : patch bl S1.bl (cs.flatMap C.blocks) S.nb = none := by
                unfold patch; split
                · exact nS _ hid
                · exact hbl
              have hmax : len ≤ maxLen := by
                have : len ≤ len * ti.size := Nat.le_mul_of_pos_right _ (by omega)
                unfold maxLen; omega
              refine wp_value hrun (hk _ _ _ (by rw [hp2]; exact HM.new_own hβ hid2 (A.rd_ext hE hz') (Nat.le_refl _) hmax (by simp [hlen0]) hsz hc) (upd_none β hβ).1 (upd_none β hβ).2 fun s hs => ?_)
              cases hs
              simp [SVRep, S1Rep, CRep, upd]
          · cases h
        · cases h
    · cases h
  · cases h

end
end Go.Px

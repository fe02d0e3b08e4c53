/- Gc: whether grids fit points: the program's answer and the document's. -/
import Derived.Test.YtgnhhdgepnfnmaaGb
set_option maxRecDepth 20000
set_option maxHeartbeats 4000000
set_option linter.unusedVariables false
set_option linter.unusedSimpArgs false
namespace Go.Px
open Go.RowKit
def ir_grid_Check : IR :=
 .call F.grid_may [.agg [.var 3, .var 4, .var 5], .one (.var 6)] [.one] <|
 .prim .not [.var 7] <|
 .ite (.var 8) (
  .ret [.one (.bol false)]) (
  .prim .len [.var 0] <|
  .prim (.bin .neq) [.var 9, .var 6] <|
  .ite (.var 10) (
   .ret [.one (.bol false)]) (
   .prim .len [.var 1] <|
   .prim .len [.var 2] <|
   .prim (.bin .neq) [.var 11, .var 12] <|
   .ite (.var 13) (
    .ret [.one (.bol false)]) (
    .prim .len [.var 2] <|
    .prim (.make 1) [.var 14, .var 14, .bol false] <|
    .prim .len [.var 0] <|
    .loop [.var 2, .var 6, .int .i64 (0), .var 0, .var 16, .int .i64 (0), .var 1, .var 3, .var 4, .var 5, .var 15] (
     .prim (.bin .lss) [.var 5, .var 4] <|
     .ite (.var 11) (
      .prim (.inb 1) [.var 3, .var 5] <|
      .prim (.get 1 0) [.var 3, .var 5] <|
      .loop [.var 0, .var 1, .var 2, .var 5, .var 13, .var 3, .var 4, .var 6, .var 7, .var 8, .var 9, .var 10] (
       .prim (.bin .neq) [.var 4, .int .i64 (-1)] <|
       .ite (.var 12) (
        .prim (.bin .lss) [.var 4, .int .i64 (0)] <|
        .ite (.var 13) (
         .ret [.one (.bol false)]) (
         .prim .len [.var 0] <|
         .prim (.bin .geq) [.var 4, .var 14] <|
         .ite (.var 15) (
          .ret [.one (.bol false)]) (
          .prim (.inb 1) [.var 11, .var 4] <|
          .prim (.get 1 0) [.var 11, .var 4] <|
          .ite (.var 17) (
           .ret [.one (.bol false)]) (
           .prim (.inb 9) [.var 0, .var 4] <|
           .prim (.get 9 0) [.var 0, .var 4] <|
           .prim (.get 9 1) [.var 0, .var 4] <|
           .prim (.get 9 2) [.var 0, .var 4] <|
           .prim (.get 9 3) [.var 0, .var 4] <|
           .prim (.get 9 4) [.var 0, .var 4] <|
           .prim (.get 9 5) [.var 0, .var 4] <|
           .prim (.get 9 6) [.var 0, .var 4] <|
           .prim (.get 9 7) [.var 0, .var 4] <|
           .prim (.get 9 8) [.var 0, .var 4] <|
           .call F.grid_Slot [.agg [.var 19, .var 20, .var 21, .var 22, .var 23, .var 24, .var 25, .var 26, .var 27], .agg [.var 8, .var 9, .var 10], .one (.var 1)] [.one, .one] <|
           .prim (.bin .neq) [.var 28, .var 3] <|
           .ite (.var 30) (
            .ret [.one (.bol false)]) (
            .prim (.inb 1) [.var 11, .var 4] <|
            .prim (.setl 1 0) [.var 11, .var 4, .bol true] <|
            .prim (.bin .add) [.var 2, .int .i64 (1)] <|
            .prim (.inb 1) [.var 7, .var 4] <|
            .prim (.get 1 0) [.var 7, .var 4] <|
            .jump 1 [.var 0, .var 1, .var 33, .var 3, .var 35, .var 5, .var 6, .var 7, .var 8, .var 9, .var 10, .var 32]))))) (
        .prim (.bin .add) [.var 3, .int .i64 (1)] <|
        .jump 0 [.var 0, .var 1, .var 2, .var 5, .var 6, .var 13, .var 7, .var 8, .var 9, .var 10, .var 11]))) (
      .prim .len [.var 0] <|
      .prim (.bin .eql) [.var 2, .var 12] <|
      .ret [.one (.var 13)])))))

def ir_penumbraref21_Check : IR :=
 .call F.penumbraref21_may [.agg [.var 3, .var 4, .var 5], .one (.var 6)] [.one] <|
 .prim .not [.var 7] <|
 .ite (.var 8) (
  .ret [.one (.bol false)]) (
  .prim .len [.var 0] <|
  .prim (.bin .neq) [.var 9, .var 6] <|
  .ite (.var 10) (
   .ret [.one (.bol false)]) (
   .prim .len [.var 1] <|
   .prim .len [.var 2] <|
   .prim (.bin .neq) [.var 11, .var 12] <|
   .ite (.var 13) (
    .ret [.one (.bol false)]) (
    .prim .len [.var 2] <|
    .prim (.make 8) [.var 14, .var 14, .int .i64 (0)] <|
    .loop [.var 2, .var 6, .int .i64 (0), .var 0, .var 1, .var 3, .var 4, .var 5, .var 15] (
     .prim (.bin .lss) [.var 2, .var 1] <|
     .ite (.var 9) (
      .prim .len [.var 0] <|
      .call F.penumbraref21_chain [.agg [.var 3, .var 4], .one (.var 2), .one (.var 10)] [.one, .one] <|
      .prim .not [.var 12] <|
      .ite (.var 13) (
       .ret [.one (.bol false)]) (
       .loop [.var 0, .var 1, .var 2, .var 11, .int .i64 (0), .var 3, .var 4, .var 5, .var 6, .var 7, .var 8] (
        .prim .len [.var 3] <|
        .prim (.bin .lss) [.var 4, .var 11] <|
        .ite (.var 12) (
         .prim (.inb 1) [.var 3, .var 4] <|
         .prim (.get 1 0) [.var 3, .var 4] <|
         .prim (.inb 9) [.var 0, .var 14] <|
         .prim (.get 9 0) [.var 0, .var 14] <|
         .prim (.get 9 1) [.var 0, .var 14] <|
         .prim (.get 9 2) [.var 0, .var 14] <|
         .prim (.get 9 3) [.var 0, .var 14] <|
         .prim (.get 9 4) [.var 0, .var 14] <|
         .prim (.get 9 5) [.var 0, .var 14] <|
         .prim (.get 9 6) [.var 0, .var 14] <|
         .prim (.get 9 7) [.var 0, .var 14] <|
         .prim (.get 9 8) [.var 0, .var 14] <|
         .call F.penumbraref21_Slot [.agg [.var 16, .var 17, .var 18, .var 19, .var 20, .var 21, .var 22, .var 23, .var 24], .agg [.var 7, .var 8, .var 9], .one (.var 1)] [.one, .one] <|
         .prim (.bin .neq) [.var 25, .var 2] <|
         .ite (.var 27) (
          .ret [.one (.bol false)]) (
          .prim (.inb 1) [.var 3, .var 4] <|
          .prim (.get 1 0) [.var 3, .var 4] <|
          .prim (.inb 1) [.var 10, .var 29] <|
          .prim (.get 1 0) [.var 10, .var 29] <|
          .prim (.bin .add) [.var 31, .int .i64 (1)] <|
          .prim (.inb 1) [.var 10, .var 29] <|
          .prim (.setl 1 0) [.var 10, .var 29, .var 32] <|
          .prim (.bin .add) [.var 4, .int .i64 (1)] <|
          .jump 1 [.var 0, .var 1, .var 2, .var 3, .var 35, .var 5, .var 6, .var 7, .var 8, .var 9, .var 34])) (
         .prim (.bin .add) [.var 2, .int .i64 (1)] <|
         .jump 0 [.var 0, .var 1, .var 13, .var 5, .var 6, .var 7, .var 8, .var 9, .var 10])))) (
      .loop [.int .i64 (0), .var 8] (
       .prim .len [.var 1] <|
       .prim (.bin .lss) [.var 0, .var 2] <|
       .ite (.var 3) (
        .prim (.inb 1) [.var 1, .var 0] <|
        .prim (.get 1 0) [.var 1, .var 0] <|
        .prim (.bin .neq) [.var 5, .int .i64 (1)] <|
        .ite (.var 6) (
         .ret [.one (.bol false)]) (
         .prim (.bin .add) [.var 0, .int .i64 (1)] <|
         .jump 1 [.var 7, .var 1])) (
        .ret [.one (.bol true)])))))))

def ir_penumbraref21_chain : IR :=
 .prim (.mk 0) [] <|
 .prim (.inb 1) [.var 0, .var 2] <|
 .prim (.get 1 0) [.var 0, .var 2] <|
 .loop [.var 3, .var 6, .var 0, .var 1, .var 4] (
  .prim (.bin .neq) [.var 1, .int .i64 (-1)] <|
  .ite (.var 5) (
   .prim (.bin .lss) [.var 1, .int .i64 (0)] <|
   .ite (.var 6) (
    .ret [.one (.nil), .one (.bol false)]) (
    .prim .len [.var 3] <|
    .prim (.bin .geq) [.var 1, .var 7] <|
    .ite (.var 8) (
     .ret [.one (.nil), .one (.bol false)]) (
     .prim .len [.var 4] <|
     .prim (.bin .geq) [.var 9, .var 0] <|
     .ite (.var 10) (
      .ret [.one (.nil), .one (.bol false)]) (
      .prim (.mk 1) [.var 1] <|
      .prim (.app 1 8) [.var 4, .var 11] <|
      .prim (.inb 1) [.var 3, .var 1] <|
      .prim (.get 1 0) [.var 3, .var 1] <|
      .jump 0 [.var 0, .var 14, .var 2, .var 3, .var 12])))) (
   .ret [.one (.var 4), .one (.bol true)]))

theorem tree_grid_Check : symFunc Go.Proofs.Try.prog ⟨fun f => [115].contains f, fun f i => if f = 55 ∧ i = 6 then [⟨[(1, .s (.one (.at (.var 0)))), (3, .s (.one (.at (.var 1)))), (4, .s (.one (.lp 0 0))), (6, .s (.one (.lp 1 0))), (9, .s (.one (.own 2))), (10, .s (.one (.at (.var 2)))), (38, .s (.one (.at (.var 3)))), (39, .s (.one (.at (.var 4)))), (40, .s (.one (.at (.var 5))))], [], [(0, .box [.at (.var 3), .at (.var 6)] 83 false), (1, .box [.at (.var 7), .at (.var 8), .at (.var 9)] 24 false), (2, .own (.var 10) 1 4)], 3, 11⟩] else if f = 55 ∧ i = 8 then [⟨[(1, .s (.one (.at (.var 0)))), (3, .s (.one (.at (.var 1)))), (4, .s (.one (.lp 0 0))), (6, .s (.one (.lp 1 0))), (9, .s (.one (.own 2))), (10, .s (.one (.at (.var 2)))), (11, .s (.one (.at (.var 3)))), (12, .s (.one (.at (.var 4)))), (38, .s (.one (.at (.var 5)))), (39, .s (.one (.at (.var 6)))), (40, .s (.one (.at (.var 3))))], [], [(0, .box [.at (.var 5), .at (.var 7)] 83 false), (1, .box [.at (.var 8), .at (.var 9), .at (.var 10)] 24 false), (2, .own (.var 11) 1 4)], 3, 12⟩] else [], fun f i => [], fun f => [144, 145].contains f⟩ 400 F.grid_Check [.agg 2, .one, .agg 3, .one] = some ir_grid_Check := by kernel_rfl
theorem tree_penumbraref21_Check : symFunc Go.Proofs.Try.prog ⟨fun f => [115].contains f, fun f i => if f = 56 ∧ i = 5 then [⟨[(1, .s (.one (.at (.var 0)))), (3, .s (.one (.at (.var 1)))), (4, .s (.one (.lp 0 0))), (6, .s (.one (.lp 1 0))), (9, .s (.one (.own 2))), (10, .s (.one (.at (.var 2))))], [], [(0, .box [.at (.var 3), .at (.var 4)] 83 false), (1, .box [.at (.var 5), .at (.var 6), .at (.var 7)] 24 false), (2, .own (.var 8) 1 3)], 3, 9⟩] else if f = 56 ∧ i = 11 then [⟨[(1, .s (.one (.at (.var 0)))), (3, .s (.one (.at (.var 1)))), (4, .s (.one (.lp 0 0))), (6, .s (.one (.lp 1 0))), (9, .s (.one (.own 2))), (10, .s (.one (.at (.var 2)))), (11, .s (.one (.at (.var 3)))), (13, .s (.one (.at (.var 4))))], [], [(0, .box [.at (.var 5), .at (.var 6)] 83 false), (1, .box [.at (.var 7), .at (.var 8), .at (.var 9)] 24 false), (2, .own (.var 10) 1 3)], 3, 11⟩] else if f = 56 ∧ i = 18 then [⟨[(9, .s (.one (.own 0))), (16, .s (.one (.at (.var 0))))], [], [(0, .own (.var 1) 1 3)], 1, 2⟩] else [], fun f i => [], fun f => [144, 145].contains f⟩ 400 F.penumbraref21_Check [.agg 2, .one, .agg 3, .one] = some ir_penumbraref21_Check := by kernel_rfl
theorem tree_penumbraref21_chain : symFunc Go.Proofs.Try.prog ⟨fun f => [115].contains f, fun f i => if f = 114 ∧ i = 3 then [⟨[(2, .s (.one (.at (.var 0)))), (3, .s (.one (.lp 0 0))), (8, .s (.one (.own 1))), (9, .s (.one (.at (.var 1))))], [], [(0, .box [.at (.var 2), .at (.var 3)] 83 false), (1, .own (.var 4) 1 3)], 2, 5⟩] else [], fun f i => [], fun f => [144, 145].contains f⟩ 400 F.penumbraref21_chain [.agg 2, .one, .one] = some ir_penumbraref21_chain := by kernel_rfl
end Go.Px
namespace Go.Px.Na
open Go.RowKit
open Go.Proofs.Try (prog)

/-! ### Chains -/
theorem nd_sub : ∀ {l m : List Nat}, l.Nodup → (∀ x ∈ l, x ∈ m) → l.length ≤ m.length
  | [], m, _, _ => Nat.zero_le _
  | a :: l, m, h, hs => by
    have ha := hs a (by simp)
    have h2 := nd_sub (l := l) (m := m.erase a) (List.nodup_cons.1 h).2 fun x hx => (List.mem_erase_of_ne (fun e : x = a => (List.nodup_cons.1 h).1 (e ▸ hx))).2 (hs x (by simp [hx]))
    have := List.length_erase_of_mem ha
    have := List.length_pos_of_mem ha
    simp only [List.length_cons]; omega
theorem nd_len {l : List Nat} {N : Nat} (h : l.Nodup) (hl : ∀ x ∈ l, x < N) : l.length ≤ N := by
  have := nd_sub (m := List.range N) h fun x hx => List.mem_range.2 (hl x hx)
  simpa using this
/-- From 'a' on the points of a chain, to its end. -/
def Ch (next : List Int) : Int → List Nat → Prop
  | a, [] => a = -1
  | a, p :: l => a = (p : Int) ∧ p < next.length ∧ Ch next (next.getD p 0) l
/-- From 'a' on some points of a chain, up to 'b'. -/
def Pre (next : List Int) (b : Int) : Int → List Nat → Prop
  | a, [] => a = b
  | a, p :: l => a = (p : Int) ∧ p < next.length ∧ Pre next b (next.getD p 0) l
section
variable {next heads : List Int}
theorem Pre.end_ : ∀ {l : List Nat} {a : Int}, Pre next (-1) a l → Ch next a l
  | [], a, h => h
  | p :: l, a, h => ⟨h.1, h.2.1, Pre.end_ h.2.2⟩
theorem Pre.snoc {p : Nat} (hp : p < next.length) : ∀ {l : List Nat} {a : Int}, Pre next (p : Int) a l → Pre next (next.getD p 0) a (l ++ [p])
  | [], a, h => ⟨h, hp, rfl⟩
  | q :: l, a, h => ⟨h.1, h.2.1, Pre.snoc hp h.2.2⟩
theorem Pre.split {b : Int} : ∀ {l c : List Nat} {a : Int}, Pre next b a l → Ch next a c → ∃ r, c = l ++ r ∧ Ch next b r
  | [], c, a, h, hc => ⟨c, rfl, (show a = b from h) ▸ hc⟩
  | p :: l, [], a, h, hc => by have h1 := h.1; have h2 : a = -1 := hc; omega
  | p :: l, q :: c, a, h, hc => by
    have e : q = p := by have := h.1; have := hc.1; omega
    subst e
    obtain ⟨r, hr, hb⟩ := Pre.split h.2.2 hc.2.2
    exact ⟨r, by rw [hr]; rfl, hb⟩
theorem Ch.uniq {a : Int} {c d : List Nat} (h : Ch next a c) (k : Ch next a d) : c = d := by
  have toPre : ∀ {c : List Nat} {a : Int}, Ch next a c → Pre next (-1) a c := by
    intro c
    induction c with
    | nil => intro a h; exact h
    | cons p c ih => intro a h; exact ⟨h.1, h.2.1, ih h.2.2⟩
  obtain ⟨r, hr, hb⟩ := (toPre h).split k
  cases r with
  | nil => simpa using hr.symm
  | cons q r => have := hb.1; omega
theorem Ch.lt : ∀ {c : List Nat} {a : Int}, Ch next a c → ∀ p ∈ c, p < next.length
  | q :: c, a, h, p, hp => by
    rcases List.mem_cons.1 hp with rfl | hp
    · exact h.2.1
    · exact Ch.lt h.2.2 p hp
theorem Pre.lt {b : Int} : ∀ {c : List Nat} {a : Int}, Pre next b a c → ∀ p ∈ c, p < next.length
  | q :: c, a, h, p, hp => by
    rcases List.mem_cons.1 hp with rfl | hp
    · exact h.2.1
    · exact Pre.lt h.2.2 p hp
/-- The chains of the first slots. -/
def Chs (heads next ss : List Int) (cs : List (List Nat)) : Prop := ∀ (i : Nat) (c : List Nat), cs[i]? = some c → Ch next (heads.getD i 0) c ∧ ∀ p ∈ c, ss.getD p 0 = (i : Int)
/-- Each point stands once in the chain of its slot. -/
def Good (heads next ss : List Int) : Prop := ∃ cs, cs.length = heads.length ∧ Chs heads next ss cs ∧ cs.flatten.Nodup ∧ cs.flatten.length = next.length
variable {ss : List Int} {cs ds : List (List Nat)}
theorem Chs.uniq : ∀ {cs ds : List (List Nat)}, Chs heads next ss cs → Chs heads next ss ds → cs.length ≤ ds.length → cs = ds.take cs.length := by
  intro cs ds h k hl
  refine List.ext_getElem? fun i => ?_
  by_cases hi : i < cs.length
  · have e1 : cs[i]? = some cs[i] := List.getElem?_eq_getElem hi
    have e2 : ds[i]? = some ds[i] := List.getElem?_eq_getElem (by omega)
    rw [List.getElem?_take_of_lt hi, e1, e2, (h i _ e1).1.uniq (k i _ e2).1]
  · rw [List.getElem?_eq_none (by omega), List.getElem?_eq_none (by simp; omega)]
theorem Chs.nil : Chs heads next ss [] := fun i c h => by simp at h
theorem Chs.snoc {c : List Nat} (h : Chs heads next ss cs) (h1 : Ch next (heads.getD cs.length 0) c) (h2 : ∀ p ∈ c, ss.getD p 0 = (cs.length : Int)) : Chs heads next ss (cs ++ [c]) := by
  intro i d hd
  rcases Nat.lt_or_ge i cs.length with hi | hi
  · rw [List.getElem?_append_left hi] at hd; exact h i d hd
  · rw [List.getElem?_append_right hi] at hd
    have : i - cs.length = 0 := by have := (List.getElem?_eq_some_iff.1 hd).1; simp at this; omega
    rw [this] at hd
    simp at hd; subst hd
    have : i = cs.length := by omega
    subst this; exact ⟨h1, h2⟩
/-- What fits goes on from where one is. -/
theorem Good.at_ (hg : Good heads next ss) (h : Chs heads next ss cs) (hi : cs.length < heads.length) {pre : List Nat} {b : Int} (hp : Pre next b (heads.getD cs.length 0) pre) :
    ∃ rest post, (cs.flatten ++ pre ++ rest ++ post).Nodup ∧ (cs.flatten ++ pre ++ rest ++ post).length = next.length ∧ Ch next b rest ∧ ∀ p ∈ pre ++ rest, ss.getD p 0 = (cs.length : Int) := by
  obtain ⟨ds, h1, h2, h3, h4⟩ := hg
  have e := h.uniq h2 (by omega)
  have hd : ds[cs.length]? = some ds[cs.length] := List.getElem?_eq_getElem (by omega)
  obtain ⟨k1, k2⟩ := h2 _ _ hd
  obtain ⟨rest, hr, hb⟩ := hp.split k1
  have hsp : ds = cs ++ ds[cs.length] :: ds.drop (cs.length + 1) := by
    conv => lhs; rw [← List.take_append_drop cs.length ds]
    rw [← e, List.drop_eq_getElem_cons (by omega)]
  have hf : ds.flatten = cs.flatten ++ pre ++ rest ++ (ds.drop (cs.length + 1)).flatten := by
    conv => lhs; rw [hsp]
    rw [List.flatten_append, List.flatten_cons, hr]; simp
  rw [hf] at h3 h4
  exact ⟨rest, _, h3, h4, hb, fun p hp => k2 p (by rw [hr]; exact hp)⟩
theorem Good.end_ (hg : Good heads next ss) (h : Chs heads next ss cs) (hi : cs.length = heads.length) : cs.flatten.Nodup ∧ cs.flatten.length = next.length := by
  obtain ⟨ds, h1, h2, h3, h4⟩ := hg
  have e := h.uniq h2 (by omega)
  rw [List.take_of_length_le (by omega)] at e
  rw [e]; exact ⟨h3, h4⟩
theorem Chs.lt (h : Chs heads next ss cs) : ∀ p ∈ cs.flatten, p < next.length := fun p hp => by
  obtain ⟨c, hc, hpc⟩ := List.mem_flatten.1 hp
  obtain ⟨i, hi⟩ := List.getElem?_of_mem hc
  exact (h i c hi).1.lt p hpc
end

/-! ### Rows of truths, rows of counts -/
def bl (l : List Bool) : DV := .list l.length (l.map DV.bool)
theorem bl_inb {l : List Bool} {k : IntKind} {i : Int} (h0 : 0 ≤ i) (h : i < l.length) : Prim.den (.inb 1) [bl l, .int k i] = some (.bool true) := by
  simp only [bl, Prim.den]
  rw [if_pos ⟨h0, h, by simp; omega⟩]
theorem bl_get {l : List Bool} {k : IntKind} {i : Int} (h0 : 0 ≤ i) (h : i < l.length) : Prim.den (.get 1 0) [bl l, .int k i] = some (.bool (l.getD i.toNat false)) := by
  simp only [bl, Prim.den]
  rw [if_pos ⟨h0, h⟩]
  have : i.toNat < l.length := by omega
  simp [List.getD_eq_getElem?_getD, List.getElem?_eq_getElem this]
theorem bl_set {l : List Bool} {k : IntKind} {i : Int} {x : Bool} (h0 : 0 ≤ i) (h : i < l.length) : Prim.den (.setl 1 0) [bl l, .int k i, .bool x] = some (bl (l.set i.toNat x)) := by
  have hc : 0 ≤ i ∧ i < (l.length : Int) ∧ i.toNat * 1 + 0 + [DV.bool x].length ≤ (l.map DV.bool).length := ⟨h0, h, by simp; omega⟩
  simp only [bl, Prim.den]
  rw [if_pos hc]
  simp [setAt, List.map_set]
theorem bl_make {n : Nat} (h : n ≤ 1099511627776) : Prim.den (.make 1) [.int .i64 (n : Int), .int .i64 (n : Int), .bool false] = some (bl (List.replicate n false)) := by
  simp only [Prim.den]
  rw [if_pos ⟨by omega, by omega, by omega⟩]
  simp [bl, Nat.mod_one, List.map_const']
theorem il_make {n : Nat} (h : n ≤ 1099511627776) : Prim.den (.make 8) [.int .i64 (n : Int), .int .i64 (n : Int), .int .i64 0] = some (il (List.replicate n 0)) := by
  simp only [Prim.den]
  rw [if_pos ⟨by omega, by omega, by omega⟩]
  simp [il, Nat.mod_one, List.map_const']
/-- The points that are marked. -/
def mks (N : Nat) (acc : List Nat) : List Bool := (List.range N).map fun p => decide (p ∈ acc)
theorem mks_len {N : Nat} {acc : List Nat} : (mks N acc).length = N := by simp [mks]
theorem mks_nil {N : Nat} : List.replicate N false = mks N [] := by
  simp [mks, List.map_const']
theorem mks_get {N p : Nat} {acc : List Nat} (h : p < N) : (mks N acc).getD p false = decide (p ∈ acc) := by
  simp [mks, List.getD_eq_getElem?_getD, List.getElem?_map, List.getElem?_range h]
theorem mks_set {N p : Nat} {acc : List Nat} : (mks N acc).set p true = mks N (acc ++ [p]) := by
  refine List.ext_getElem? fun i => ?_
  by_cases hi : i < N
  · rw [List.getElem?_set]
    by_cases he : p = i
    · subst he; simp [mks, hi]
    · simp [mks, hi, he, List.getElem?_range hi, Ne.symm he]
  · rw [List.getElem?_eq_none (by simp [mks_len]; omega), List.getElem?_eq_none (by simp [mks_len]; omega)]
/-- How often points stand there. -/
def tms (N : Nat) (acc : List Nat) : List Int := (List.range N).map fun p => ((acc.count p : Nat) : Int)
theorem tms_len {N : Nat} {acc : List Nat} : (tms N acc).length = N := by simp [tms]
theorem tms_nil {N : Nat} : List.replicate N 0 = tms N [] := by
  simp [tms, List.map_const']
theorem tms_get {N p : Nat} {acc : List Nat} (h : p < N) : (tms N acc).getD p 0 = ((acc.count p : Nat) : Int) := by
  simp [tms, List.getD_eq_getElem?_getD, List.getElem?_map, List.getElem?_range h]
theorem tms_set {N p : Nat} {acc : List Nat} : (tms N acc).set p ((acc.count p : Nat) + 1) = tms N (acc ++ [p]) := by
  refine List.ext_getElem? fun i => ?_
  by_cases hi : i < N
  · rw [List.getElem?_set]
    by_cases he : p = i
    · subst he; simp [tms, hi, List.count_append]
    · simp [tms, hi, he, List.getElem?_range hi, List.count_append, List.count_cons]
  · rw [List.getElem?_eq_none (by simp [tms_len]; omega), List.getElem?_eq_none (by simp [tms_len]; omega)]
/-- Does the grid fit? -/
def fits (heads next : List Int) (ps : List V3) (s : Rat) (n : Int) : Prop := gmay s n ∧ (heads.length : Int) = n ∧ next.length = ps.length ∧ Good heads next (slots ps s n)

section
variable {L M : Nat} {rsd : RR} {s : Rat} {n : Int} {rs : List RV} {ps : List V3} {heads next : List Int}
open Classical in
theorem f_grid_Check (hp : NVs L rs ps) (g : Num M rsd s) (hN : ps.length ≤ 1048576) (hl : L ≤ 10000000000 ∧ M ≤ 10000000000) : PureCalls prog F.grid_Check [gd2 heads next, .one (vl rs), .agg (gW [rsd]), .one (.int .i64 n)] [.one (.bool (decide (fits heads next ps s n)))] := by
  have hlen := hp.len
  refine symFunc_sound hmix tree_grid_Check (by kernel_rfl) rfl ?_
  unfold ir_grid_Check
  try simp only [HH, gW, gD, V3.l, M4.l, Fr.l, Sp.l, RV.l, RM.l, RF.l, RS.l]
  refine call_step (f_grid_may g (Nat.le_trans hl.2 (by decide))) rfl ?_
  try simp only [HH, gW, gD, V3.l, M4.l, Fr.l, Sp.l, RV.l, RM.l, RF.l, RS.l]
  have no : ∀ {k : IR} {As : List (List DV → Prop)} {ρ : List DV}, ¬fits heads next ps s n → IRwp prog As ρ (.ret [.one (.bol false)]) (fun x => x = [AV.one (.bool (decide (fits heads next ps s n)))]) := fun h => ret_step (by rw [decide_eq_false h]; rfl)
  refine primS (.bool (!_)) rfl ?_
  refine itN rfl (fun c => ?_) (fun c => ?_)
  · exact no (k := .bad) fun h => c h.1
  refine primS (.int .i64 (heads.length : Int)) rfl ?_
  refine primS (.bool (decide _)) d_neq ?_
  refine itD rfl (fun c2 => ?_) (fun c2 => ?_)
  · exact no (k := .bad) fun h => c2 h.2.1
  replace c2 := Classical.not_not.1 c2
  refine primS (.int .i64 (next.length : Int)) rfl ?_
  refine primS (.int .i64 (rs.length : Int)) rfl ?_
  refine primS (.bool (decide _)) d_neq ?_
  refine itD rfl (fun c3 => ?_) (fun c3 => ?_)
  · exact no (k := .bad) fun h => c3 (by have := h.2.2.1; omega)
  replace c3 : next.length = rs.length := by have := Classical.not_not.1 c3; omega
  have hfit : fits heads next ps s n ↔ Good heads next (slots ps s n) := ⟨fun h => h.2.2.2, fun h => ⟨c, c2, by omega, h⟩⟩
  have hm := c.2
  refine primS (.int .i64 (rs.length : Int)) rfl ?_
  refine primS _ (bl_make (by omega)) ?_
  refine primS (.int .i64 (heads.length : Int)) rfl ?_
  rw [mks_nil]
  generalize hss : slots ps s n = ss at hfit
  refine loop_st (fun cs : List (List Nat) => [vl rs, .int .i64 n, .int .i64 (cs.flatten.length : Int), il heads, .int .i64 (heads.length : Int), .int .i64 (cs.length : Int), il next, .bool rsd.neg, nl rsd.num, nl rsd.den, bl (mks rs.length cs.flatten)])
    (fun cs => cs.length ≤ heads.length ∧ Chs heads next ss cs ∧ cs.flatten.Nodup) (fun cs => heads.length - cs.length) [] ⟨Nat.zero_le _, Chs.nil, by simp⟩ rfl (fun _ => rfl) fun cs ⟨hi1, hi2, hi3⟩ X hX => ?_
  by_cases hlt : cs.length < heads.length
  · refine primS (.bool true) (d_lss.trans (by rw [decide_eq_true (by omega)])) ?_
    refine itT rfl ?_
    refine primS (.bool true) (il_inb (by omega) (by omega)) ?_
    refine primS _ (il_get (by omega) (by omega)) ?_
    rw [Int.toNat_natCast]
    refine loop_st (fun st : List Nat × Int => [vl rs, .int .i64 n, .int .i64 ((cs.flatten ++ st.1).length : Int), .int .i64 (cs.length : Int), .int .i64 st.2, il heads, .int .i64 (heads.length : Int), il next, .bool rsd.neg, nl rsd.num, nl rsd.den, bl (mks rs.length (cs.flatten ++ st.1))])
      (fun st => Pre next st.2 (heads.getD cs.length 0) st.1 ∧ (cs.flatten ++ st.1).Nodup ∧ ∀ p ∈ st.1, ss.getD p 0 = (cs.length : Int)) (fun st => rs.length - (cs.flatten ++ st.1).length) ([], heads.getD cs.length 0) ⟨rfl, by simpa using hi3, fun p hp => by simp at hp⟩ (by simp only [List.append_nil]; rfl) (fun _ => rfl) fun st ⟨hs1, hs2, hs3⟩ Y hY => ?_
    obtain ⟨pre, b⟩ := st
    simp only at hs1 hs2 hs3 hY ⊢
    have hall : ∀ p ∈ cs.flatten ++ pre, p < next.length := fun p hp => by
      rcases List.mem_append.1 hp with hp | hp
      · exact hi2.lt p hp
      · exact hs1.lt p hp
    refine primS (.bool (decide _)) d_neq ?_
    refine itD rfl (fun d1 => ?_) (fun d1 => ?_)
    · have bad : ¬(∃ p : Nat, b = (p : Int) ∧ p < next.length ∧ p ∉ cs.flatten ++ pre ∧ ss.getD p 0 = (cs.length : Int)) → ¬fits heads next ps s n := fun h hf => by
        obtain ⟨rest, post, g1, g2, g3, g4⟩ := (hfit.1 hf).at_ hi2 hlt hs1
        cases rest with
        | nil => exact d1 g3
        | cons p rest =>
          refine h ⟨p, g3.1, g3.2.1, fun hm => ?_, g4 p (by simp)⟩
          rw [List.append_assoc, List.cons_append] at g1
          have := (List.nodup_append.1 g1).2.2 p hm p (by simp)
          exact this rfl
      refine primS (.bool (decide _)) d_lss ?_
      refine itD rfl (fun d2 => ?_) (fun d2 => ?_)
      · exact no (k := .bad) (bad fun ⟨p, e, _⟩ => by omega)
      refine primS (.int .i64 (rs.length : Int)) rfl ?_
      refine primS (.bool (decide _)) d_geq ?_
      refine itD rfl (fun d3 => ?_) (fun d3 => ?_)
      · exact no (k := .bad) (bad fun ⟨p, e, e2, _⟩ => by omega)
      obtain ⟨q, rfl⟩ : ∃ q : Nat, b = (q : Int) := ⟨b.toNat, by omega⟩
      have hq : q < rs.length := by omega
      refine primS (.bool true) (bl_inb (by omega) (by rw [mks_len]; omega)) ?_
      refine primS (.bool (decide (q ∈ cs.flatten ++ pre))) ((bl_get (by omega) (by rw [mks_len]; omega)).trans (by rw [Int.toNat_natCast, mks_get hq])) ?_
      refine itD rfl (fun d4 => ?_) (fun d4 => ?_)
      · exact no (k := .bad) (bad fun ⟨p, e, e2, e3, _⟩ => e3 (by rw [show p = q by omega]; exact d4))
      obtain ⟨r, hr⟩ : ∃ r, rs[q]? = some r := ⟨_, List.getElem?_eq_getElem hq⟩
      obtain ⟨p, hpp⟩ : ∃ p, ps[q]? = some p := ⟨_, List.getElem?_eq_getElem (by omega)⟩
      have hsl : ss.getD q 0 = slot p s n := by rw [← hss]; exact slots_get hpp
      refine primS (.bool true) (fm_inb gV_len (by omega) (by omega)) ?_
      refine get_pt (x := .var 0) (i := .var 4) hr (fun _ => rfl) (fun _ => rfl) ?_
      try simp only [HH, gW, gD, V3.l, M4.l, Fr.l, Sp.l, RV.l, RM.l, RF.l, RS.l]
      refine call_step (f_grid_Slot (hp.at_ q r p hr hpp) g ⟨Nat.le_trans hl.1 (by decide), Nat.le_trans hl.2 (by decide)⟩) rfl ?_
      try simp only [HH, gW, gD, V3.l, M4.l, Fr.l, Sp.l, RV.l, RM.l, RF.l, RS.l]
      rw [if_pos c, decide_eq_true c]
      refine primS (.bool (decide _)) d_neq ?_
      refine itD rfl (fun d5 => ?_) (fun d5 => ?_)
      · exact no (k := .bad) (bad fun ⟨p', e, e2, e3, e4⟩ => by rw [show p' = q by omega, hsl] at e4; exact d5 e4)
      replace d5 := Classical.not_not.1 d5
      have hnd : (cs.flatten ++ (pre ++ [q])).Nodup := by
        rw [← List.append_assoc]
        exact List.nodup_append.2 ⟨hs2, by simp, fun a ha b hb => by simp at hb; subst hb; exact fun e => d4 (e ▸ ha)⟩
      have hle : (cs.flatten ++ (pre ++ [q])).length ≤ rs.length := nd_len hnd fun x hx => by
        rw [← List.append_assoc] at hx
        rcases List.mem_append.1 hx with hx | hx
        · have := hall x hx; omega
        · simp at hx; omega
      simp only [List.length_append, List.length_cons, List.length_nil] at hle
      refine primS (.bool true) (bl_inb (by omega) (by rw [mks_len]; omega)) ?_
      refine primS _ (bl_set (by omega) (by rw [mks_len]; omega)) ?_
      rw [Int.toNat_natCast, mks_set]
      refine primS (.int .i64 ((cs.flatten ++ (pre ++ [q])).length : Int)) ((d_add64 (by omega) (by simp only [List.length_append]; omega)).trans (by simp only [List.length_append, List.length_cons, List.length_nil]; congr 2 <;> omega)) ?_
      refine primS (.bool true) (il_inb (by omega) (by omega)) ?_
      refine primS _ (il_get (by omega) (by omega)) ?_
      rw [Int.toNat_natCast]
      have := hY (pre ++ [q], next.getD q 0) ⟨hs1.snoc (by omega), hnd, fun p' hp' => by
        rcases List.mem_append.1 hp' with h | h
        · exact hs3 p' h
        · simp at h; subst h; rw [hsl, d5]⟩ (by simp only [List.length_append, List.length_cons, List.length_nil]; omega)
      simp only [← List.append_assoc] at this ⊢
      exact jump_step rfl this
    · replace d1 := Classical.not_not.1 d1
      subst d1
      have hch := hs1.end_
      refine primS (.int .i64 ((cs ++ [pre]).length : Int)) ((d_add64 (by omega) (by omega)).trans (by simp)) ?_
      have := hX (cs ++ [pre]) ⟨by simp; omega, hi2.snoc hch hs3, by simpa using hs2⟩ (by simp; omega)
      simp only [List.flatten_append, List.flatten_cons, List.flatten_nil, List.append_nil] at this
      exact jump_step rfl this
  · refine primS (.bool false) (d_lss.trans (by rw [decide_eq_false (by omega)])) ?_
    refine itF rfl ?_
    refine primS (.int .i64 (rs.length : Int)) rfl ?_
    refine primS (.bool (decide _)) d_eql ?_
    refine ret_step ?_
    rw [show decide (fits heads next ps s n) = decide ((cs.flatten.length : Int) = (rs.length : Int)) from decide_eq_decide.2 ⟨fun h => by have := ((hfit.1 h).end_ hi2 (by omega)).2; omega, fun h => hfit.2 ⟨cs, by omega, hi2, hi3, by omega⟩⟩]
    rfl
def ci (l : List Nat) : List Int := l.map fun p : Nat => ((p : Nat) : Int)
theorem ci_get {l : List Nat} {k : Nat} (h : k < l.length) : (ci l).getD k 0 = ((l.getD k 0 : Nat) : Int) := by
  simp [ci, List.getD_eq_getElem?_getD, List.getElem?_eq_getElem h]
theorem flat_le {B : Nat} : ∀ {l : List (List Nat)}, (∀ x ∈ l, x.length ≤ B) → l.flatten.length ≤ l.length * B
  | [], _ => by simp
  | x :: l, h => by
    have h1 := flat_le (l := l) fun y hy => h y (by simp [hy])
    have h2 := h x (by simp)
    simp only [List.flatten_cons, List.length_append, List.length_cons, Nat.succ_mul]; omega
theorem f_chain {res : List AV} {sl most : Nat} (hs : sl < heads.length) (hm : most ≤ 1048576) (ht : ∀ c, Ch next (heads.getD sl 0) c → c.length ≤ most → res = [.one (il (ci c)), .one (.bool true)])
    (hf : (¬∃ c, Ch next (heads.getD sl 0) c ∧ c.length ≤ most) → res = [.one (il []), .one (.bool false)]) : PureCalls prog F.penumbraref21_chain [gd2 heads next, .one (.int .i64 (sl : Int)), .one (.int .i64 (most : Int))] res := by
  refine symFunc_sound hmix tree_penumbraref21_chain (by kernel_rfl) rfl ?_
  unfold ir_penumbraref21_chain
  try simp only [HH, gW, gD, V3.l, M4.l, Fr.l, Sp.l, RV.l, RM.l, RF.l, RS.l]
  refine primS (il []) rfl ?_
  refine primS (.bool true) (il_inb (by omega) (by omega)) ?_
  refine primS _ (il_get (by omega) (by omega)) ?_
  rw [Int.toNat_natCast]
  refine loop_st (fun st : List Nat × Int => [.int .i64 (most : Int), .int .i64 st.2, il heads, il next, il (ci st.1)])
    (fun st => Pre next st.2 (heads.getD sl 0) st.1 ∧ st.1.length ≤ most) (fun st => most - st.1.length) ([], heads.getD sl 0) ⟨rfl, Nat.zero_le _⟩ rfl (fun _ => rfl) fun st ⟨hs1, hs2⟩ Y hY => ?_
  obtain ⟨pre, b⟩ := st
  simp only at hs1 hs2 hY ⊢
  have hcl : (ci pre).length = pre.length := by simp [ci]
  refine primS (.bool (decide _)) d_neq ?_
  refine itD rfl (fun d1 => ?_) (fun d1 => ?_)
  · have bad : ¬(∃ p : Nat, b = (p : Int) ∧ p < next.length ∧ pre.length < most) → res = [.one (il []), .one (.bool false)] := fun h => hf fun ⟨c, h1, h2⟩ => by
      obtain ⟨r, hr, hb⟩ := hs1.split h1
      cases r with
      | nil => exact d1 hb
      | cons p r => exact h ⟨p, hb.1, hb.2.1, by rw [hr] at h2; simp at h2; omega⟩
    refine primS (.bool (decide _)) d_lss ?_
    refine itD rfl (fun d2 => ?_) (fun d2 => ?_)
    · exact ret_step (by rw [bad fun ⟨p, e, _⟩ => by omega]; rfl)
    refine primS (.int .i64 (next.length : Int)) rfl ?_
    refine primS (.bool (decide _)) d_geq ?_
    refine itD rfl (fun d3 => ?_) (fun d3 => ?_)
    · exact ret_step (by rw [bad fun ⟨p, e, _⟩ => by omega]; rfl)
    refine primS (.int .i64 ((ci pre).length : Int)) rfl ?_
    refine primS (.bool (decide _)) d_geq ?_
    refine itD rfl (fun d4 => ?_) (fun d4 => ?_)
    · exact ret_step (by rw [bad fun ⟨p, e, e2, e3⟩ => by omega]; rfl)
    obtain ⟨q, rfl⟩ : ∃ q : Nat, b = (q : Int) := ⟨b.toNat, by omega⟩
    refine primS (il [(q : Int)]) rfl ?_
    refine primS (il (ci (pre ++ [q]))) ((il_app (by simp; omega)).trans (by simp [ci])) ?_
    refine primS (.bool true) (il_inb (by omega) (by omega)) ?_
    refine primS _ (il_get (by omega) (by omega)) ?_
    rw [Int.toNat_natCast]
    exact jump_step rfl (hY (pre ++ [q], next.getD q 0) ⟨hs1.snoc (by omega), by simp; omega⟩ (by simp; omega))
  · replace d1 := Classical.not_not.1 d1
    subst d1
    exact ret_step (by rw [ht pre hs1.end_ hs2]; rfl)
theorem count_one {l : List Nat} {N : Nat} (hl : ∀ x ∈ l, x < N) (h : ∀ p, p < N → l.count p = 1) : l.Nodup ∧ l.length = N := by
  have h1 : l.Nodup := List.nodup_iff_count.2 fun p => by
    by_cases hp : p < N
    · rw [h p hp]; exact Nat.le_refl _
    · rw [List.count_eq_zero_of_not_mem fun hm => hp (hl p hm)]; omega
  refine ⟨h1, Nat.le_antisymm (nd_len h1 hl) ?_⟩
  have := nd_sub (l := List.range N) (m := l) List.nodup_range fun x hx => List.count_pos_iff.1 (by rw [h x (List.mem_range.1 hx)]; decide)
  simpa using this
theorem one_count {l : List Nat} {N p : Nat} (hl : ∀ x ∈ l, x < N) (h1 : l.Nodup) (h2 : l.length = N) (hp : p < N) : l.count p = 1 := by
  have hm : p ∈ l := Classical.byContradiction fun hn => by
    have h3 : (p :: l).Nodup := List.nodup_cons.2 ⟨hn, h1⟩
    have := nd_len h3 (N := N) fun x hx => by
      rcases List.mem_cons.1 hx with rfl | hx
      · exact hp
      · exact hl x hx
    simp at this; omega
  have := List.count_pos_iff.2 hm
  have := List.nodup_iff_count.1 h1 p
  omega
open Classical in
theorem f_ref21_Check (hp : NVs L rs ps) (g : Num M rsd s) (hN : ps.length ≤ 1048576) (hl : L ≤ 10000000000 ∧ M ≤ 10000000000) : PureCalls prog F.penumbraref21_Check [gd2 heads next, .one (vl rs), .agg (gW [rsd]), .one (.int .i64 n)] [.one (.bool (decide (fits heads next ps s n)))] := by
  have hlen := hp.len
  refine symFunc_sound hmix tree_penumbraref21_Check (by kernel_rfl) rfl ?_
  unfold ir_penumbraref21_Check
  try simp only [HH, gW, gD, V3.l, M4.l, Fr.l, Sp.l, RV.l, RM.l, RF.l, RS.l]
  refine call_step (f_ref21_may g (Nat.le_trans hl.2 (by decide))) rfl ?_
  try simp only [HH, gW, gD, V3.l, M4.l, Fr.l, Sp.l, RV.l, RM.l, RF.l, RS.l]
  have no : ∀ {k : IR} {As : List (List DV → Prop)} {ρ : List DV}, ¬fits heads next ps s n → IRwp prog As ρ (.ret [.one (.bol false)]) (fun x => x = [AV.one (.bool (decide (fits heads next ps s n)))]) := fun h => ret_step (by rw [decide_eq_false h]; rfl)
  refine primS (.bool (!_)) rfl ?_
  refine itN rfl (fun c => ?_) (fun c => ?_)
  · exact no (k := .bad) fun h => c h.1
  refine primS (.int .i64 (heads.length : Int)) rfl ?_
  refine primS (.bool (decide _)) d_neq ?_
  refine itD rfl (fun c2 => ?_) (fun c2 => ?_)
  · exact no (k := .bad) fun h => c2 h.2.1
  replace c2 := Classical.not_not.1 c2
  refine primS (.int .i64 (next.length : Int)) rfl ?_
  refine primS (.int .i64 (rs.length : Int)) rfl ?_
  refine primS (.bool (decide _)) d_neq ?_
  refine itD rfl (fun c3 => ?_) (fun c3 => ?_)
  · exact no (k := .bad) fun h => c3 (by have := h.2.2.1; omega)
  replace c3 : next.length = rs.length := by have := Classical.not_not.1 c3; omega
  have hfit : fits heads next ps s n ↔ Good heads next (slots ps s n) := ⟨fun h => h.2.2.2, fun h => ⟨c, c2, by omega, h⟩⟩
  have hm := c.2
  refine primS (.int .i64 (rs.length : Int)) rfl ?_
  refine primS _ (il_make (by omega)) ?_
  rw [tms_nil]
  generalize hss : slots ps s n = ss at hfit
  refine loop_st (fun cs : List (List Nat) => [vl rs, .int .i64 n, .int .i64 (cs.length : Int), il heads, il next, .bool rsd.neg, nl rsd.num, nl rsd.den, il (tms rs.length cs.flatten)])
    (fun cs => cs.length ≤ heads.length ∧ Chs heads next ss cs ∧ ∀ c ∈ cs, c.length ≤ rs.length) (fun cs => heads.length - cs.length) [] ⟨Nat.zero_le _, Chs.nil, fun c h => by cases h⟩ rfl (fun _ => rfl) fun cs ⟨hi1, hi2, hi4⟩ X hX => ?_
  by_cases hlt : cs.length < heads.length
  · refine primS (.bool true) (d_lss.trans (by rw [decide_eq_true (by omega)])) ?_
    refine itT rfl ?_
    refine primS (.int .i64 (rs.length : Int)) rfl ?_
    by_cases hc : ∃ c, Ch next (heads.getD cs.length 0) c ∧ c.length ≤ rs.length
    · obtain ⟨ch, hc1, hc2⟩ := hc
      refine call_step (f_chain hlt (by omega) (res := [.one (il (ci ch)), .one (.bool true)]) (fun d h1 h2 => by rw [h1.uniq hc1]) (fun h => absurd ⟨ch, hc1, hc2⟩ h)) rfl ?_
      try simp only [HH, gW, gD, V3.l, M4.l, Fr.l, Sp.l, RV.l, RM.l, RF.l, RS.l]
      refine primS (.bool false) rfl ?_
      refine itF rfl ?_
      have hcl : (ci ch).length = ch.length := by simp [ci]
      refine loop_st (fun k : Nat => [vl rs, .int .i64 n, .int .i64 (cs.length : Int), il (ci ch), .int .i64 (k : Int), il heads, il next, .bool rsd.neg, nl rsd.num, nl rsd.den, il (tms rs.length (cs.flatten ++ ch.take k))])
        (fun k => k ≤ ch.length ∧ ∀ p ∈ ch.take k, ss.getD p 0 = (cs.length : Int)) (fun k => ch.length - k) 0 ⟨Nat.zero_le _, fun p hp => by simp at hp⟩ (by simp only [List.take_zero, List.append_nil]; rfl) (fun _ => rfl) fun k ⟨hk1, hk2⟩ Y hY => ?_
      refine primS (.int .i64 (ch.length : Int)) (by show some (DV.int .i64 (((ci ch).length : Nat) : Int)) = _; rw [hcl]) ?_
      by_cases hkl : k < ch.length
      · obtain ⟨q, hq⟩ : ∃ q, ch[k]? = some q := ⟨_, List.getElem?_eq_getElem hkl⟩
        have hqd : ch.getD k 0 = q := by simp [List.getD_eq_getElem?_getD, hq]
        have hqN : q < rs.length := by have := hc1.lt q (List.mem_of_getElem? hq); omega
        refine primS (.bool true) (d_lss.trans (by rw [decide_eq_true (by omega)])) ?_
        refine itT rfl ?_
        refine primS (.bool true) (il_inb (by omega) (by omega)) ?_
        refine primS (.int .i64 (q : Int)) ((il_get (by omega) (by omega)).trans (by rw [Int.toNat_natCast, ci_get hkl, hqd])) ?_
        obtain ⟨r, hr⟩ : ∃ r, rs[q]? = some r := ⟨_, List.getElem?_eq_getElem hqN⟩
        obtain ⟨p, hpp⟩ : ∃ p, ps[q]? = some p := ⟨_, List.getElem?_eq_getElem (by omega)⟩
        have hsl : ss.getD q 0 = slot p s n := by rw [← hss]; exact slots_get hpp
        refine primS (.bool true) (fm_inb gV_len (by omega) (by omega)) ?_
        refine get_pt (x := .var 0) (i := .var 14) hr (fun _ => rfl) (fun _ => rfl) ?_
        try simp only [HH, gW, gD, V3.l, M4.l, Fr.l, Sp.l, RV.l, RM.l, RF.l, RS.l]
        refine call_step (f_ref21_Slot (hp.at_ q r p hr hpp) g hl) rfl ?_
        try simp only [HH, gW, gD, V3.l, M4.l, Fr.l, Sp.l, RV.l, RM.l, RF.l, RS.l]
        rw [if_pos c, decide_eq_true c]
        refine primS (.bool (decide _)) d_neq ?_
        refine itD rfl (fun d5 => ?_) (fun d5 => ?_)
        · refine no (k := .bad) fun hf => ?_
          obtain ⟨ds, g1, g2, _⟩ := hfit.1 hf
          obtain ⟨k1, k2⟩ := g2 cs.length _ (List.getElem?_eq_getElem (by omega))
          rw [k1.uniq hc1] at k2
          have := k2 q (List.mem_of_getElem? hq)
          rw [hsl] at this
          exact d5 this
        replace d5 := Classical.not_not.1 d5
        have htk : ch.take (k + 1) = ch.take k ++ [q] := by rw [List.take_add_one, hq]; rfl
        refine primS (.bool true) (il_inb (by omega) (by omega)) ?_
        refine primS (.int .i64 (q : Int)) ((il_get (by omega) (by omega)).trans (by rw [Int.toNat_natCast, ci_get hkl, hqd])) ?_
        refine primS (.bool true) (il_inb (by omega) (by rw [tms_len]; omega)) ?_
        refine primS (.int .i64 (((cs.flatten ++ ch.take k).count q : Nat) : Int)) ((il_get (by omega) (by rw [tms_len]; omega)).trans (by rw [Int.toNat_natCast, tms_get hqN])) ?_
        have hcnt : (cs.flatten ++ ch.take k).count q ≤ 1048576 * 1048576 := Nat.le_trans List.count_le_length (by
          have h1 := flat_le hi4
          have h2 : cs.length * rs.length ≤ 256 * 1048576 := Nat.mul_le_mul (by omega) (by omega)
          rw [List.length_append, List.length_take]; omega)
        refine primS (.int .i64 ((((cs.flatten ++ ch.take k).count q : Nat) : Int) + 1)) (d_add64 (by omega) (by omega)) ?_
        refine primS (.bool true) (il_inb (by omega) (by rw [tms_len]; omega)) ?_
        refine primS _ (il_set (by omega) (by rw [tms_len]; omega)) ?_
        rw [Int.toNat_natCast, tms_set]
        refine primS (.int .i64 ((k + 1 : Nat) : Int)) ((d_add64 (by omega) (by omega)).trans (by simp)) ?_
        have := hY (k + 1) ⟨hkl, fun p' hp' => by
          rw [htk] at hp'
          rcases List.mem_append.1 hp' with h | h
          · exact hk2 p' h
          · simp at h; subst h; rw [hsl, d5]⟩ (by omega)
        rw [htk, ← List.append_assoc] at this
        exact jump_step rfl this
      · obtain rfl : k = ch.length := by omega
        rw [List.take_length] at hk2 ⊢
        refine primS (.bool false) (d_lss.trans (by rw [decide_eq_false (by omega)])) ?_
        refine itF rfl ?_
        refine primS (.int .i64 ((cs ++ [ch]).length : Int)) ((d_add64 (by omega) (by omega)).trans (by simp)) ?_
        have := hX (cs ++ [ch]) ⟨by simp; omega, hi2.snoc hc1 hk2, fun c hc => by
          rcases List.mem_append.1 hc with h | h
          · exact hi4 c h
          · simp at h; subst h; exact hc2⟩ (by simp; omega)
        simp only [List.flatten_append, List.flatten_cons, List.flatten_nil, List.append_nil] at this
        exact jump_step rfl this
    · refine call_step (f_chain hlt (by omega) (res := [.one (il []), .one (.bool false)]) (fun d h1 h2 => absurd ⟨d, h1, h2⟩ hc) (fun h => rfl)) rfl ?_
      try simp only [HH, gW, gD, V3.l, M4.l, Fr.l, Sp.l, RV.l, RM.l, RF.l, RS.l]
      refine primS (.bool true) rfl ?_
      refine itT rfl ?_
      refine no (k := .bad) fun hf => ?_
      obtain ⟨ds, g1, g2, _, g4⟩ := hfit.1 hf
      have hd : ds[cs.length]? = some ds[cs.length] := List.getElem?_eq_getElem (by omega)
      refine hc ⟨_, (g2 cs.length _ hd).1, ?_⟩
      have : ds[cs.length].length ≤ ds.flatten.length := (List.sublist_flatten_of_mem (List.mem_of_getElem? hd)).length_le
      omega
  · refine primS (.bool false) (d_lss.trans (by rw [decide_eq_false (by omega)])) ?_
    refine itF rfl ?_
    have hcl : cs.length = heads.length := by omega
    have hall := hi2.lt
    refine loop_st (fun i : Nat => [.int .i64 (i : Int), il (tms rs.length cs.flatten)]) (fun i => i ≤ rs.length ∧ ∀ p, p < i → cs.flatten.count p = 1) (fun i => rs.length - i) 0 ⟨Nat.zero_le _, fun p hp => absurd hp (Nat.not_lt_zero p)⟩ rfl (fun _ => rfl) fun i ⟨hj1, hj2⟩ Y hY => ?_
    refine primS (.int .i64 (rs.length : Int)) (by show some (DV.int .i64 (((tms rs.length cs.flatten).length : Nat) : Int)) = _; rw [tms_len]) ?_
    by_cases hil : i < rs.length
    · refine primS (.bool true) (d_lss.trans (by rw [decide_eq_true (by omega)])) ?_
      refine itT rfl ?_
      refine primS (.bool true) (il_inb (by omega) (by rw [tms_len]; omega)) ?_
      refine primS (.int .i64 ((cs.flatten.count i : Nat) : Int)) ((il_get (by omega) (by rw [tms_len]; omega)).trans (by rw [Int.toNat_natCast, tms_get hil])) ?_
      refine primS (.bool (decide _)) d_neq ?_
      refine itD rfl (fun d => ?_) (fun d => ?_)
      · refine no (k := .bad) fun hf => ?_
        obtain ⟨h1, h2⟩ := (hfit.1 hf).end_ hi2 hcl
        have := one_count hall h1 h2 (show i < next.length by omega)
        exact d (by omega)
      · refine primS (.int .i64 ((i + 1 : Nat) : Int)) ((d_add64 (by omega) (by omega)).trans (by simp)) ?_
        refine jump_step rfl (hY (i + 1) ⟨hil, fun p hp => ?_⟩ (by omega))
        rcases Nat.lt_or_ge p i with h | h
        · exact hj2 p h
        · obtain rfl : p = i := by omega
          have := Classical.not_not.1 d; omega
    · obtain rfl : i = rs.length := by omega
      refine primS (.bool false) (d_lss.trans (by rw [decide_eq_false (by omega)])) ?_
      refine itF rfl ?_
      refine ret_step ?_
      obtain ⟨h1, h2⟩ := count_one (N := rs.length) (fun x hx => by have := hall x hx; omega) hj2
      rw [decide_eq_true (hfit.2 ⟨cs, hcl, hi2, h1, by omega⟩)]; rfl
end
end Go.Px.Na

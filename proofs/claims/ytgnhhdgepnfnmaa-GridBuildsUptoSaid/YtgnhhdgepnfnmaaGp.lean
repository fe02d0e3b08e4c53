/- Gp: plays: the program's and the document's, step by step. -/
import Derived.Test.YtgnhhdgepnfnmaaGk
set_option maxRecDepth 20000
set_option maxHeartbeats 40000000
set_option linter.unusedVariables false
set_option linter.unusedSimpArgs false
namespace Go.Px
open Go.RowKit
def ir_grid_Play : IR :=
 .call F.grid_may [.agg [.var 1, .var 2, .var 3], .one (.var 4)] [.one] <|
 .prim .not [.var 7] <|
 .ite (.var 8) (
  .ret [.agg [.nil, .nil], .one (.int .i64 (0)), .one (.bol false)]) (
  .prim .len [.var 0] <|
  .prim (.bin .gtr) [.var 9, .int .i64 (1000)] <|
  .ite (.var 10) (
   .ret [.agg [.nil, .nil], .one (.int .i64 (0)), .one (.bol false)]) (
   .prim (.bin .lss) [.var 5, .int .i64 (1)] <|
   .ite (.var 11) (
    .ret [.agg [.nil, .nil], .one (.int .i64 (0)), .one (.bol false)]) (
    .prim (.bin .gtr) [.var 5, .int .i64 (64)] <|
    .ite (.var 12) (
     .ret [.agg [.nil, .nil], .one (.int .i64 (0)), .one (.bol false)]) (
     .call F.grid_empty [.one (.var 4)] [.own 1 3] <|
     .prim .len [.var 0] <|
     .call F.grid_empty [.one (.var 14)] [.own 1 3] <|
     .prim (.make 24) [.var 5, .var 5, .int .i64 (0), .int .i64 (0), .int .i64 (0)] <|
     .prim .len [.var 0] <|
     .loop [.var 4, .var 6, .var 0, .var 17, .int .i64 (0), .var 1, .var 2, .var 3, .var 13, .var 15, .nil, .var 16] (
      .prim (.bin .lss) [.var 4, .var 3] <|
      .ite (.var 12) (
       .prim (.inb 9) [.var 2, .var 4] <|
       .prim (.get 9 0) [.var 2, .var 4] <|
       .prim (.get 9 1) [.var 2, .var 4] <|
       .prim (.get 9 2) [.var 2, .var 4] <|
       .prim (.get 9 3) [.var 2, .var 4] <|
       .prim (.get 9 4) [.var 2, .var 4] <|
       .prim (.get 9 5) [.var 2, .var 4] <|
       .prim (.get 9 6) [.var 2, .var 4] <|
       .prim (.get 9 7) [.var 2, .var 4] <|
       .prim (.get 9 8) [.var 2, .var 4] <|
       .call F.grid_Slot [.agg [.var 14, .var 15, .var 16, .var 17, .var 18, .var 19, .var 20, .var 21, .var 22], .agg [.var 5, .var 6, .var 7], .one (.var 0)] [.one, .one] <|
       .prim (.mk 1) [.var 23] <|
       .prim (.app 1 8) [.var 10, .var 25] <|
       .prim (.bin .add) [.var 4, .int .i64 (1)] <|
       .jump 0 [.var 0, .var 1, .var 2, .var 3, .var 27, .var 5, .var 6, .var 7, .var 8, .var 9, .var 26, .var 11]) (
       .loop [.var 1, .int .i64 (0), .int .i64 (0), .var 8, .var 9, .var 10, .var 11] (
        .prim .len [.var 6] <|
        .loop [.var 7, .int .i64 (0), .var 0, .var 1, .var 2, .nil, .var 6, .var 3, .var 4, .var 5] (
         .prim (.bin .lss) [.var 1, .var 0] <|
         .ite (.var 10) (
          .prim (.inb 3) [.var 6, .var 1] <|
          .prim (.get 3 0) [.var 6, .var 1] <|
          .prim (.get 3 1) [.var 6, .var 1] <|
          .prim (.get 3 2) [.var 6, .var 1] <|
          .prim (.bin .neq) [.var 12, .int .i64 (0)] <|
          .ite (.var 15) (
           .prim (.mk 1) [.var 1] <|
           .prim (.app 1 8) [.var 5, .var 16] <|
           .prim (.bin .add) [.var 1, .int .i64 (1)] <|
           .jump 2 [.var 0, .var 18, .var 2, .var 3, .var 4, .var 17, .var 6, .var 7, .var 8, .var 9]) (
           .prim .len [.var 9] <|
           .prim (.bin .lss) [.var 4, .var 16] <|
           .ite (.var 17) (
            .prim (.mk 1) [.var 1] <|
            .prim (.app 1 8) [.var 5, .var 18] <|
            .prim (.bin .add) [.var 1, .int .i64 (1)] <|
            .jump 2 [.var 0, .var 20, .var 2, .var 3, .var 4, .var 19, .var 6, .var 7, .var 8, .var 9]) (
            .prim (.bin .add) [.var 1, .int .i64 (1)] <|
            .jump 2 [.var 0, .var 18, .var 2, .var 3, .var 4, .var 5, .var 6, .var 7, .var 8, .var 9]))) (
          .prim .len [.var 5] <|
          .prim (.bin .eql) [.var 11, .int .i64 (0)] <|
          .ite (.var 12) (
           .ret [.agg [.var 7, .var 8], .one (.var 3), .one (.bol true)]) (
           .join (
            .prim .len [.var 2] <|
            .prim (.bin .lss) [.var 3, .var 13] <|
            .ite (.var 14) (
             .prim (.inb 1) [.var 2, .var 3] <|
             .prim (.get 1 0) [.var 2, .var 3] <|
             .prim .len [.var 5] <|
             .prim (.bin .rem) [.var 16, .var 17] <|
             .prim .len [.var 5] <|
             .prim (.bin .add) [.var 18, .var 19] <|
             .prim .len [.var 5] <|
             .prim (.bin .rem) [.var 20, .var 21] <|
             .jump 3 [.var 2, .var 3, .var 22, .var 4, .var 5, .var 7, .var 8, .var 9, .var 6]) (
             .jump 3 [.var 2, .var 3, .int .i64 (0), .var 4, .var 5, .var 7, .var 8, .var 9, .var 6])) (
            .prim (.inb 1) [.var 4, .var 2] <|
            .prim (.get 1 0) [.var 4, .var 2] <|
            .prim (.inb 3) [.var 8, .var 10] <|
            .prim (.get 3 0) [.var 8, .var 10] <|
            .prim (.bin .eql) [.var 12, .int .i64 (0)] <|
            .ite (.var 13) (
             .prim (.setl 3 0) [.var 8, .var 10, .int .i64 (1)] <|
             .prim (.setl 3 1) [.var 14, .var 10, .var 3] <|
             .prim (.bin .add) [.var 3, .int .i64 (1)] <|
             .prim (.bin .add) [.var 1, .int .i64 (1)] <|
             .jump 1 [.var 0, .var 17, .var 16, .var 5, .var 6, .var 7, .var 15]) (
             .prim (.bin .eql) [.var 12, .int .i64 (1)] <|
             .ite (.var 14) (
              .prim (.get 3 1) [.var 8, .var 10] <|
              .prim (.inb 1) [.var 7, .var 15] <|
              .prim (.get 1 0) [.var 7, .var 15] <|
              .prim (.inb 1) [.var 5, .var 17] <|
              .prim (.get 1 0) [.var 5, .var 17] <|
              .prim (.setl 3 0) [.var 8, .var 10, .int .i64 (2)] <|
              .prim (.setl 3 2) [.var 20, .var 10, .var 19] <|
              .prim (.bin .add) [.var 1, .int .i64 (1)] <|
              .jump 1 [.var 0, .var 22, .var 3, .var 5, .var 6, .var 7, .var 21]) (
              .prim (.bin .eql) [.var 12, .int .i64 (2)] <|
              .ite (.var 15) (
               .prim (.setl 3 0) [.var 8, .var 10, .int .i64 (3)] <|
               .prim (.get 3 1) [.var 16, .var 10] <|
               .prim (.get 3 2) [.var 16, .var 10] <|
               .prim (.inb 1) [.var 6, .var 17] <|
               .prim (.setl 1 0) [.var 6, .var 17, .var 18] <|
               .prim (.bin .add) [.var 1, .int .i64 (1)] <|
               .jump 1 [.var 0, .var 21, .var 3, .var 5, .var 20, .var 7, .var 16]) (
               .prim (.bin .eql) [.var 12, .int .i64 (3)] <|
               .ite (.var 16) (
                .prim (.setl 3 0) [.var 8, .var 10, .int .i64 (1)] <|
                .prim (.get 3 1) [.var 17, .var 10] <|
                .prim (.inb 1) [.var 7, .var 18] <|
                .prim (.get 1 0) [.var 7, .var 18] <|
                .prim (.inb 1) [.var 5, .var 20] <|
                .prim (.get 1 0) [.var 5, .var 20] <|
                .prim (.get 3 2) [.var 17, .var 10] <|
                .prim (.bin .eql) [.var 22, .var 23] <|
                .ite (.var 24) (
                 .prim (.get 3 1) [.var 17, .var 10] <|
                 .prim (.setl 1 0) [.var 5, .var 20, .var 25] <|
                 .prim (.setl 3 0) [.var 17, .var 10, .int .i64 (0)] <|
                 .prim (.bin .add) [.var 1, .int .i64 (1)] <|
                 .jump 1 [.var 0, .var 28, .var 3, .var 26, .var 6, .var 7, .var 27]) (
                 .prim (.bin .add) [.var 1, .int .i64 (1)] <|
                 .jump 1 [.var 0, .var 25, .var 3, .var 5, .var 6, .var 7, .var 17])) (
                .prim (.bin .add) [.var 1, .int .i64 (1)] <|
                .jump 1 [.var 0, .var 17, .var 3, .var 5, .var 6, .var 7, .var 8])))))))))))))))

theorem tree_grid_Play : symFunc Go.Proofs.Try.prog ⟨fun f => [115].contains f, fun f i => if f = 113 ∧ i = 5 then [⟨[(2, .s (.one (.at (.var 0)))), (4, .s (.one (.at (.var 1)))), (6, .s (.one (.lp 0 0))), (10, .s (.one (.lp 1 0))), (13, .s (.one (.lp 2 0))), (49, .s (.one (.at (.var 2)))), (50, .s (.one (.at (.var 3)))), (51, .s (.one (.at (.var 4))))], [], [(0, .box [.at (.var 5), .at (.var 6), .at (.var 7)] 24 false), (1, .box [.nils, .nils] 83 false), (2, .box [.own 3, .own 4, .own 5, .at (.int .i64 (0)), .own 6] 157 false), (3, .own (.var 8) 1 3), (4, .own (.var 9) 1 3), (5, .own (.var 10) 1 3), (6, .own (.var 11) 3 162)], 7, 12⟩] else if f = 113 ∧ i = 12 then [⟨[(4, .s (.one (.at (.var 0)))), (10, .s (.one (.lp 0 0))), (13, .s (.one (.lp 1 0))), (18, .s (.one (.at (.var 1))))], [], [(0, .box [.nils, .nils] 83 false), (1, .box [.own 2, .own 3, .own 4, .at (.var 2), .own 5] 157 false), (2, .own (.var 3) 1 3), (3, .own (.var 4) 1 3), (4, .own (.var 5) 1 3), (5, .own (.var 6) 3 162)], 6, 7⟩] else if f = 144 ∧ i = 3 then [⟨[(0, .s (.one (.lp 0 0))), (3, .s (.one (.own 1))), (9, .s (.one (.own 2))), (10, .s (.one (.at (.var 0)))), (11, .s (.one (.at (.var 1))))], [[(4, .s (.one (.at (.var 2)))), (10, .s (.one (.lp 3 0))), (13, .s (.one (.lp 0 0))), (18, .s (.one (.at (.var 3))))]], [(0, .box [.own 4, .own 5, .own 6, .at (.var 4), .own 2] 157 false), (1, .own (.var 5) 1 3), (2, .own (.var 6) 3 162), (3, .box [.nils, .nils] 83 false), (4, .own (.var 7) 1 3), (5, .own (.var 8) 1 3), (6, .own (.var 9) 1 3)], 7, 10⟩] else [], fun f i => if f = 113 ∧ i = 18 then [⟨[(4, .s (.one (.at (.var 0)))), (10, .s (.one (.lp 0 0))), (13, .s (.one (.lp 1 0))), (18, .s (.one (.at (.var 1)))), (19, .s (.one (.own 2))), (20, .s (.one (.at (.var 2))))], [], [(0, .box [.nils, .nils] 83 false), (1, .box [.own 3, .own 4, .own 5, .at (.var 3), .own 6] 157 false), (2, .own (.var 4) 1 3), (3, .own (.var 5) 1 3), (4, .own (.var 6) 1 3), (5, .own (.var 7) 1 3), (6, .own (.var 8) 3 162)], 7, 9⟩] else [], fun f => [144, 145].contains f⟩ 400 F.grid_Play [.one, .agg 3, .one, .one, .one] = some ir_grid_Play := by kernel_rfl
end Go.Px
namespace Go.Px.Na
open Go.RowKit
open Go.Proofs.Try (prog)

/-! ### Rows of workers -/
def wc3 (x : Wk) : List DV := [.int .i64 (x.st : Int), .int .i64 (x.pt : Int), .int .i64 x.no]
def wkl (ws : List Wk) : DV := .list ws.length (ws.flatMap wc3)
theorem wc3_len (x : Wk) : (wc3 x).length = 3 := rfl
theorem setAt_right : ∀ (vs xs ys : List DV) (j : Nat), xs.length ≤ j → setAt (xs ++ ys) j vs = xs ++ setAt ys (j - xs.length) vs
  | [], xs, ys, j, h => rfl
  | v :: vs, xs, ys, j, h => by
    simp only [setAt]
    rw [List.set_append_right _ _ h, setAt_right vs xs _ (j + 1) (by omega), show j + 1 - xs.length = j - xs.length + 1 by omega]
theorem setAt_left : ∀ (vs xs ys : List DV) (j : Nat), j + vs.length ≤ xs.length → setAt (xs ++ ys) j vs = setAt xs j vs ++ ys
  | [], xs, ys, j, h => rfl
  | v :: vs, xs, ys, j, h => by
    simp only [List.length_cons] at h
    simp only [setAt]
    rw [List.set_append_left _ _ (by omega), setAt_left vs _ ys (j + 1) (by simp; omega)]
theorem fm_set {α : Type} {f : α → List DV} {s : Nat} (hf : ∀ a, (f a).length = s) {vs : List DV} {off : Nat} (ho : off + vs.length ≤ s) : ∀ {l : List α} {i : Nat} {a a' : α}, l[i]? = some a → f a' = setAt (f a) off vs → setAt (l.flatMap f) (i * s + off) vs = (l.set i a').flatMap f
  | [], i, a, a', h, _ => by simp at h
  | b :: l, 0, a, a', h, hv => by
    simp at h; subst h
    rw [List.flatMap_cons, Nat.zero_mul, Nat.zero_add, setAt_left _ _ _ _ (by rw [hf]; exact ho), ← hv]; rfl
  | b :: l, i + 1, a, a', h, hv => by
    rw [List.flatMap_cons, setAt_right _ _ _ _ (by rw [hf, Nat.succ_mul]; omega), hf, show (i + 1) * s + off - s = i * s + off by rw [Nat.succ_mul]; omega, fm_set hf ho (by simpa using h) hv]
    rfl
theorem wk_get {ws : List Wk} {i : Nat} {x : Wk} {k : IntKind} {off : Nat} {d : DV} (hx : ws[i]? = some x) (ho : off < 3) (hd : (wc3 x)[off]? = some d) : Prim.den (.get 3 off) [wkl ws, .int k (i : Int)] = some d := by
  have hi := (List.getElem?_eq_some_iff.1 hx).1
  simp only [wkl, Prim.den]
  rw [if_pos ⟨by omega, by omega⟩, Int.toNat_natCast, fm_get wc3_len off hx ho, hd]
theorem wk_set {ws : List Wk} {i : Nat} {x y : Wk} {k : IntKind} {off : Nat} {vs : List DV} (hx : ws[i]? = some x) (ho : off + vs.length ≤ 3) (hy : wc3 y = setAt (wc3 x) off vs) : Prim.den (.setl 3 off) (wkl ws :: .int k (i : Int) :: vs) = some (wkl (ws.set i y)) := by
  have hi := (List.getElem?_eq_some_iff.1 hx).1
  have hc : 0 ≤ (i : Int) ∧ (i : Int) < (ws.length : Int) ∧ (i : Int).toNat * 3 + off + vs.length ≤ (ws.flatMap wc3).length := ⟨by omega, by omega, by rw [fm_len wc3_len, Int.toNat_natCast]; omega⟩
  simp only [wkl, Prim.den]
  rw [if_pos hc, Int.toNat_natCast, fm_set wc3_len ho hx hy, List.length_set]
theorem wk_inb {ws : List Wk} {i : Nat} {k : IntKind} (hi : i < ws.length) : Prim.den (.inb 3) [wkl ws, .int k (i : Int)] = some (.bool true) := fm_inb wc3_len (by omega) (by omega)
theorem wk_make {W : Nat} (h : W ≤ 1099511627776) : Prim.den (.make 24) [.int .i64 (W : Int), .int .i64 (W : Int), .int .i64 0, .int .i64 0, .int .i64 0] = some (wkl (List.replicate W ⟨0, 0, 0⟩)) := by
  simp only [Prim.den]
  rw [if_pos ⟨by omega, by omega, by omega⟩]
  have : ∀ n : Nat, (List.range (n * 3)).map (fun j => ([DV.int .i64 0, .int .i64 0, .int .i64 0] : List DV).getD (j % 3) (.bool false)) = (List.replicate n (⟨0, 0, 0⟩ : Wk)).flatMap wc3 := by
    intro n
    have e : ∀ j, ([DV.int .i64 0, .int .i64 0, .int .i64 0] : List DV).getD (j % 3) (.bool false) = DV.int .i64 0 := fun j => by
      have : j % 3 < 3 := Nat.mod_lt _ (by decide)
      rcases (show j % 3 = 0 ∨ j % 3 = 1 ∨ j % 3 = 2 by omega) with h | h | h <;> rw [h] <;> rfl
    simp only [e, List.map_const', List.length_range]
    induction n with
    | zero => rfl
    | succ n ih =>
      rw [Nat.succ_mul]
      show DV.int .i64 0 :: DV.int .i64 0 :: DV.int .i64 0 :: List.replicate (n * 3) (DV.int .i64 0) = _
      rw [ih]; rfl
  have e2 := this W
  simp only [wkl, List.length_replicate, Int.toNat_natCast, List.length_cons, List.length_nil]
  rw [← e2]
theorem d_remz {a b : Int} (hb : b ≠ 0) : Prim.den (.bin .rem) [.int .i64 a, .int .i64 b] = some (.int .i64 (a.tmod b)) := by
  simp [Prim.den, Prim.bin1, binInt, hb]
theorem tm_rng {a m : Int} (hm : 0 < m) : -m < a.tmod m ∧ a.tmod m < m := by
  rcases Int.le_total 0 a with h | h
  · have := Int.tmod_lt_of_pos a hm
    have := Int.tmod_nonneg m h
    omega
  · have h1 := Int.tmod_lt_of_pos (-a) hm
    have h2 := Int.tmod_nonneg m (show 0 ≤ -a by omega)
    rw [Int.neg_tmod] at h1 h2
    omega
theorem tm_emod {a m : Int} (hm : 0 < m) : (a.tmod m + m).tmod m = a % m := by
  have h := tm_rng (a := a) hm
  rw [Int.tmod_eq_emod_of_nonneg (by omega), Int.add_emod_right, Int.tmod_def, Int.sub_mul_emod_self_left]

theorem canTo_succ {N : Nat} {w : Wd} {i : Nat} : canTo N w (i + 1) = canTo N w i ++ (if ena N w i then [i] else []) := by
  unfold canTo
  rw [List.range_succ, List.filter_append]
  cases h : ena N w i <;> simp [h]
theorem canTo_len {N : Nat} {w : Wd} {i : Nat} : (canTo N w i).length ≤ i := by
  have := List.length_filter_le (ena N w) (List.range i)
  simpa [canTo] using this
theorem ci_len {l : List Nat} : (ci l).length = l.length := by simp [ci]
theorem ena_st {N : Nat} {w : Wd} {i : Nat} {x : Wk} (hx : w.ws[i]? = some x) : ena N w i = (decide (x.st ≠ 0) || decide (w.ctr < N)) := by
  have e : w.ws.getD i ⟨0, 0, 0⟩ = x := by simp [List.getD_eq_getElem?_getD, hx]
  rw [ena, e]
theorem slots_len {ps : List V3} {s : Rat} {n : Int} : (slots ps s n).length = ps.length := by simp [slots]
theorem slots_rng {ps : List V3} {s : Rat} {n : Nat} (h : gmay s n) : ∀ p, p < ps.length → sl (slots ps s n) p < n ∧ (slots ps s n).getD p 0 = (sl (slots ps s n) p : Int) := fun p hp => by
  have e := slots_get (s := s) (n := n) (List.getElem?_eq_getElem hp)
  have := slot_rng (p := ps[p]) h
  unfold sl
  rw [e]; omega
/-- May there be a play? -/
def pmay (ps : List V3) (s : Rat) (n W : Int) : Prop := gmay s n ∧ ps.length ≤ 1000 ∧ 1 ≤ W ∧ W ≤ 64
section
variable {L M : Nat} {rsd : RR} {s : Rat} {n W : Int} {rs : List RV} {ps : List V3} {picks : List Int}
theorem f_Play_n (h : ¬pmay ps s n W) (hp : NVs L rs ps) (g : Num M rsd s) (hl : L ≤ 10000000000 ∧ M ≤ 10000000000) : PureCalls prog F.grid_Play [.one (vl rs), .agg (gW [rsd]), .one (.int .i64 n), .one (.int .i64 W), .one (il picks)] [gd2 [] [], .one (.int .i64 0), .one (.bool false)] := by
  have hlen := hp.len
  refine symFunc_sound hmix tree_grid_Play (by kernel_rfl) rfl ?_
  unfold ir_grid_Play
  try simp only [HH, gW, gD, V3.l, M4.l, Fr.l, Sp.l, RV.l, RM.l, RF.l, RS.l]
  refine call_step (f_grid_may g (Nat.le_trans hl.2 (by decide))) rfl ?_
  try simp only [HH, gW, gD, V3.l, M4.l, Fr.l, Sp.l, RV.l, RM.l, RF.l, RS.l]
  refine primS (.bool (!_)) rfl ?_
  refine itN rfl (fun c1 => ?_) (fun c1 => ?_)
  · exact ret_step rfl
  refine primS (.int .i64 (rs.length : Int)) rfl ?_
  refine primS (.bool (decide _)) d_gtr ?_
  refine itD rfl (fun c2 => ?_) (fun c2 => ?_)
  · exact ret_step rfl
  refine primS (.bool (decide _)) d_lss ?_
  refine itD rfl (fun c3 => ?_) (fun c3 => ?_)
  · exact ret_step rfl
  refine primS (.bool (decide _)) d_gtr ?_
  refine itD rfl (fun c4 => ?_) (fun c4 => ?_)
  · exact ret_step rfl
  exact absurd ⟨c1, by omega, by omega, by omega⟩ h
theorem f_Play_t {n W K : Nat} (h : pmay ps s n W) (hp : NVs L rs ps) (g : Num M rsd s) (hl : L ≤ 10000000000 ∧ M ≤ 10000000000) (hpk : picks.length ≤ 1048576)
    (hK : can ps.length (itw (slots ps s n) picks ps.length (w0 n ps.length W) K) = []) (hj : ∀ j, j < K → can ps.length (itw (slots ps s n) picks ps.length (w0 n ps.length W) j) ≠ [])
    (hpf : ∀ k, k ≤ K → PF n ps.length W (slots ps s n) (itw (slots ps s n) picks ps.length (w0 n ps.length W) k)) (hKb : K ≤ 1099511627776) :
    PureCalls prog F.grid_Play [.one (vl rs), .agg (gW [rsd]), .one (.int .i64 n), .one (.int .i64 W), .one (il picks)] [gd2 (itw (slots ps s n) picks ps.length (w0 n ps.length W) K).heads (itw (slots ps s n) picks ps.length (w0 n ps.length W) K).next, .one (.int .i64 (K : Int)), .one (.bool true)] := by
  have hlen := hp.len
  obtain ⟨c, hN, hW1, hW2⟩ := h
  have hm := c.2
  refine symFunc_sound hmix tree_grid_Play (by kernel_rfl) rfl ?_
  unfold ir_grid_Play
  try simp only [HH, gW, gD, V3.l, M4.l, Fr.l, Sp.l, RV.l, RM.l, RF.l, RS.l]
  refine call_step (f_grid_may g (Nat.le_trans hl.2 (by decide))) rfl ?_
  try simp only [HH, gW, gD, V3.l, M4.l, Fr.l, Sp.l, RV.l, RM.l, RF.l, RS.l]
  rw [decide_eq_true c]
  refine primS (.bool false) rfl ?_
  refine itF rfl ?_
  refine primS (.int .i64 (rs.length : Int)) rfl ?_
  refine primS (.bool false) (d_gtr.trans (by rw [decide_eq_false (by omega)])) ?_
  refine itF rfl ?_
  refine primS (.bool false) (d_lss.trans (by rw [decide_eq_false (by omega)])) ?_
  refine itF rfl ?_
  refine primS (.bool false) (d_gtr.trans (by rw [decide_eq_false (by omega)])) ?_
  refine itF rfl ?_
  refine call_step (f_grid_empty n (by omega)) rfl ?_
  try simp only [HH, gW, gD, V3.l, M4.l, Fr.l, Sp.l, RV.l, RM.l, RF.l, RS.l]
  refine primS (.int .i64 (rs.length : Int)) rfl ?_
  refine call_step (f_grid_empty rs.length (by omega)) rfl ?_
  try simp only [HH, gW, gD, V3.l, M4.l, Fr.l, Sp.l, RV.l, RM.l, RF.l, RS.l]
  refine primS _ (wk_make (by omega)) ?_
  refine primS (.int .i64 (rs.length : Int)) rfl ?_
  have hsr := slots_rng (ps := ps) c
  have hsl := slots_len (ps := ps) (s := s) (n := (n : Int))
  have hsg : ∀ {i : Nat} {p : V3}, ps[i]? = some p → (slots ps s n)[i]? = some (slot p s n) := fun h => by simp [slots, h]
  rw [hlen]
  generalize slots ps s (n : Int) = ss at *
  generalize hNN : ps.length = N at *
  refine loop_st (fun i : Nat => [.int .i64 (n : Int), il picks, vl rs, .int .i64 (N : Int), .int .i64 (i : Int), .bool rsd.neg, nl rsd.num, nl rsd.den, il (List.replicate n (-1)), il (List.replicate N (-1)), il (ss.take i), wkl (List.replicate W ⟨0, 0, 0⟩)])
    (fun i => i ≤ N) (fun i => N - i) 0 (Nat.zero_le _) (by show _ = [_, _, _, _, _, _, _, _, DV.list (List.replicate n (-1 : Int)).length _, DV.list (List.replicate N (-1 : Int)).length _, _, _]; rw [List.length_replicate, List.length_replicate]; rfl) (fun _ => rfl) fun i hi X hX => ?_
  by_cases hlt : i < N
  · obtain ⟨r, hr⟩ : ∃ r, rs[i]? = some r := ⟨_, List.getElem?_eq_getElem (by omega)⟩
    obtain ⟨p, hpp⟩ : ∃ p, ps[i]? = some p := ⟨_, List.getElem?_eq_getElem (by omega)⟩
    refine primS (.bool true) (d_lss.trans (by rw [decide_eq_true (by omega)])) ?_
    refine itT rfl ?_
    refine primS (.bool true) (fm_inb gV_len (by omega) (by omega)) ?_
    refine get_pt (x := .var 2) (i := .var 4) hr (fun _ => rfl) (fun _ => rfl) ?_
    try simp only [HH, gW, gD, V3.l, M4.l, Fr.l, Sp.l, RV.l, RM.l, RF.l, RS.l]
    refine call_step (f_grid_Slot (hp.at_ i r p hr hpp) g ⟨Nat.le_trans hl.1 (by decide), Nat.le_trans hl.2 (by decide)⟩) rfl ?_
    try simp only [HH, gW, gD, V3.l, M4.l, Fr.l, Sp.l, RV.l, RM.l, RF.l, RS.l]
    rw [if_pos c, decide_eq_true c]
    refine primS (il [slot p s n]) rfl ?_
    refine primS (il (ss.take i ++ [slot p s n])) (il_app (by rw [List.length_take]; simp; omega)) ?_
    refine primS (.int .i64 ((i + 1 : Nat) : Int)) ((d_add64 (by omega) (by omega)).trans (by simp)) ?_
    simp only [List.cons_append, List.nil_append]
    have := hX (i + 1) hlt (by omega)
    rw [List.take_add_one, hsg hpp] at this
    exact jump_step rfl this
  obtain rfl : i = N := by omega
  refine primS (.bool false) (d_lss.trans (by rw [decide_eq_false (by omega)])) ?_
  refine itF rfl ?_
  rw [List.take_of_length_le (by omega)]
  refine loop_st (fun k : Nat => [il picks, .int .i64 (k : Int), .int .i64 ((itw ss picks i (w0 n i W) k).ctr : Int), il (itw ss picks i (w0 n i W) k).heads, il (itw ss picks i (w0 n i W) k).next, il ss, wkl (itw ss picks i (w0 n i W) k).ws])
    (fun k => k ≤ K) (fun k => K - k) 0 (Nat.zero_le _) rfl (fun _ => rfl) fun k hk Y hY => ?_
  have hw := hpf k hk
  have hnx : itw ss picks i (w0 n i W) (k + 1) = nxt ss picks i (itw ss picks i (w0 n i W) k) k := rfl
  have hY2 := fun h => hY (k + 1) h
  rw [hnx] at hY2
  have hend : can i (itw ss picks i (w0 n i W) k) = [] → k = K := fun h => Classical.byContradiction fun hne => hj k (by omega) h
  have hgo : can i (itw ss picks i (w0 n i W) k) ≠ [] → k < K := fun h => Classical.byContradiction fun hne => h (by rw [show k = K by omega]; exact hK)
  have hfin : k = K → itw ss picks i (w0 n i W) K = itw ss picks i (w0 n i W) k := fun h => by rw [h]
  generalize itw ss picks i (w0 n i W) k = w at *
  refine primS (.int .i64 (W : Int)) (by show some (DV.int .i64 ((w.ws.length : Nat) : Int)) = _; rw [hw.wl]) ?_
  refine loop_st (fun j : Nat => [.int .i64 (W : Int), .int .i64 (j : Int), il picks, .int .i64 (k : Int), .int .i64 (w.ctr : Int), il (ci (canTo i w j)), wkl w.ws, il w.heads, il w.next, il ss])
    (fun j => j ≤ W) (fun j => W - j) 0 (Nat.zero_le _) rfl (fun _ => rfl) fun j hjW Z hZ => ?_
  have hcl := canTo_len (N := i) (w := w) (i := j)
  by_cases hlt : j < W
  · obtain ⟨x, hx⟩ : ∃ x, w.ws[j]? = some x := ⟨_, List.getElem?_eq_getElem (by rw [hw.wl]; exact hlt)⟩
    have hen := ena_st (N := i) hx
    have happ : il (ci (canTo i w j) ++ [(j : Int)]) = il (ci (canTo i w j ++ [j])) := by simp [ci]
    have hZ2 := hZ (j + 1) hlt (by omega)
    rw [canTo_succ] at hZ2
    refine primS (.bool true) (d_lss.trans (by rw [decide_eq_true (by omega)])) ?_
    refine itT rfl ?_
    refine primS (.bool true) (wk_inb (by rw [hw.wl]; exact hlt)) ?_
    refine primS (.int .i64 (x.st : Int)) (wk_get hx (by decide) rfl) ?_
    refine primS (.int .i64 (x.pt : Int)) (wk_get hx (by decide) rfl) ?_
    simp only [List.cons_append, List.nil_append]
    refine primS (.int .i64 x.no) (wk_get hx (by decide) rfl) ?_
    refine primS (.bool (decide _)) d_neq ?_
    refine itD rfl (fun d => ?_) (fun d => ?_)
    · rw [hen, decide_eq_true (show x.st ≠ 0 by omega), Bool.true_or, if_pos rfl] at hZ2
      refine primS (il [(j : Int)]) rfl ?_
      refine primS (il (ci (canTo i w j ++ [j]))) ((il_app (by rw [ci_len]; simp; omega)).trans (by rw [happ])) ?_
      refine primS (.int .i64 ((j + 1 : Nat) : Int)) ((d_add64 (by omega) (by omega)).trans (by simp)) ?_
      simp only [List.cons_append, List.nil_append]
      exact jump_step rfl hZ2
    · rw [hen, decide_eq_false (show ¬x.st ≠ 0 by omega), Bool.false_or] at hZ2
      refine primS (.int .i64 (i : Int)) (by show some (DV.int .i64 ((ss.length : Nat) : Int)) = _; rw [hsl]) ?_
      refine primS (.bool (decide _)) d_lss ?_
      refine itD rfl (fun d2 => ?_) (fun d2 => ?_)
      · rw [decide_eq_true (show w.ctr < i by omega), if_pos rfl] at hZ2
        refine primS (il [(j : Int)]) rfl ?_
        refine primS (il (ci (canTo i w j ++ [j]))) ((il_app (by rw [ci_len]; simp; omega)).trans (by rw [happ])) ?_
        refine primS (.int .i64 ((j + 1 : Nat) : Int)) ((d_add64 (by omega) (by omega)).trans (by simp)) ?_
        simp only [List.cons_append, List.nil_append]
        exact jump_step rfl hZ2
      · rw [decide_eq_false (show ¬w.ctr < i by omega), if_neg (by decide), List.append_nil] at hZ2
        refine primS (.int .i64 ((j + 1 : Nat) : Int)) ((d_add64 (by omega) (by omega)).trans (by simp)) ?_
        exact jump_step rfl hZ2
  obtain rfl : j = W := by omega
  have hcan : canTo i w j = can i w := by unfold can; rw [hw.wl]
  rw [hcan] at hcl ⊢
  refine primS (.bool false) (d_lss.trans (by rw [decide_eq_false (by omega)])) ?_
  refine itF rfl ?_
  refine primS (.int .i64 ((can i w).length : Int)) (by show some (DV.int .i64 (((ci (can i w)).length : Nat) : Int)) = _; rw [ci_len]) ?_
  refine primS (.bool (decide _)) d_eql ?_
  refine itD rfl (fun d => ?_) (fun d => ?_)
  · have hk' := hend (List.eq_nil_of_length_eq_zero (by omega))
    refine ret_step ?_
    rw [hfin hk', ← hk']; rfl
  have hne : can i w ≠ [] := fun h => d (by rw [h]; rfl)
  have hkK := hgo hne
  have hpos : 0 < (can i w).length := by omega
  have hpl := pk_lt (picks := picks) (k := k) hpos
  refine join_step (fun ds => ds = [il picks, .int .i64 (k : Int), .int .i64 ((pk picks k (can i w).length : Nat) : Int), .int .i64 (w.ctr : Int), il (ci (can i w)), il w.heads, il w.next, il ss, wkl w.ws]) ?_ ?_
  · refine primS (.int .i64 (picks.length : Int)) rfl ?_
    refine primS (.bool (decide _)) d_lss ?_
    refine itD rfl (fun d2 => ?_) (fun d2 => ?_)
    · have hr := tm_rng (a := picks.getD k 0) (m := ((can i w).length : Int)) (by omega)
      have hlc : ∀ {ρ : List DV}, some (DV.int .i64 (((ci (can i w)).length : Nat) : Int)) = some (DV.int .i64 (((can i w).length : Nat) : Int)) := fun {_} => by rw [ci_len]
      refine primS (.bool true) (il_inb (by omega) (by omega)) ?_
      refine primS _ (il_get (by omega) (by omega)) ?_
      rw [Int.toNat_natCast]
      refine primS (.int .i64 ((can i w).length : Int)) (hlc (ρ := [])) ?_
      simp only [List.cons_append, List.nil_append]
      refine primS _ (d_remz (by omega)) ?_
      refine primS (.int .i64 ((can i w).length : Int)) (hlc (ρ := [])) ?_
      refine primS _ (d_add64 (by omega) (by omega)) ?_
      simp only [List.cons_append, List.nil_append]
      refine primS (.int .i64 ((can i w).length : Int)) (hlc (ρ := [])) ?_
      refine primS (.int .i64 ((pk picks k (can i w).length : Nat) : Int)) ((d_remz (by omega)).trans (by
        rw [tm_emod (by omega), pk, if_pos (by omega)]
        have := Int.emod_nonneg (picks.getD k 0) (b := ((can i w).length : Int)) (by omega)
        rw [Int.toNat_of_nonneg this])) ?_
      exact jump_step rfl rfl
    · refine jump_step rfl ?_
      rw [pk, if_neg (by omega)]; rfl
  rintro ds rfl
  have hmem : (can i w).getD (pk picks k (can i w).length) 0 ∈ can i w := by
    rw [List.getD_eq_getElem?_getD, List.getElem?_eq_getElem hpl]; exact List.getElem_mem hpl
  obtain ⟨h1, h2⟩ := can_mem hmem
  obtain ⟨x, hx⟩ : ∃ x, w.ws[(can i w).getD (pk picks k (can i w).length) 0]? = some x := ⟨_, List.getElem?_eq_getElem h1⟩
  unfold nxt at hY2
  refine primS (.bool true) (il_inb (by omega) (by rw [ci_len]; omega)) ?_
  refine primS (.int .i64 (((can i w).getD (pk picks k (can i w).length) 0 : Nat) : Int)) ((il_get (by omega) (by rw [ci_len]; omega)).trans (by rw [Int.toNat_natCast, ci_get hpl])) ?_
  generalize (can i w).getD (pk picks k (can i w).length) 0 = q at *
  obtain ⟨hs, hpt⟩ := hw.wk q x hx
  have hY3 := hY2 hkK (by omega)
  have hxi : ∀ (y : Wk), (w.ws.set q y)[q]? = some y := fun y => by rw [List.getElem?_set, if_pos rfl, if_pos h1]
  refine primS (.bool true) (wk_inb h1) ?_
  simp only [List.cons_append, List.nil_append]
  refine primS (.int .i64 (x.st : Int)) (wk_get hx (by decide) rfl) ?_
  refine primS (.bool (decide _)) d_eql ?_
  refine itD rfl (fun d0 => ?_) (fun d0 => ?_)
  · have e : stp ss w q = ⟨w.heads, w.next, w.ctr + 1, w.ws.set q ⟨1, w.ctr, x.no⟩⟩ := by unfold stp; simp only [hx]; rw [if_pos (by omega)]
    rw [e] at hY3
    refine primS _ (wk_set (y := ⟨1, x.pt, x.no⟩) hx (Nat.le_of_ble_eq_true rfl) rfl) ?_
    refine primS (wkl (w.ws.set q ⟨1, w.ctr, x.no⟩)) ((wk_set (y := ⟨1, w.ctr, x.no⟩) (hxi _) (Nat.le_of_ble_eq_true rfl) rfl).trans (by rw [List.set_set])) ?_
    refine primS (.int .i64 ((w.ctr + 1 : Nat) : Int)) ((d_add64 (by omega) (by have := hw.cl; omega)).trans (by simp)) ?_
    simp only [List.cons_append, List.nil_append]
    refine primS (.int .i64 ((k + 1 : Nat) : Int)) ((d_add64 (by omega) (by omega)).trans (by simp)) ?_
    exact jump_step rfl hY3
  have hp3 := hpt (by omega)
  have hpi : x.pt < i := Nat.lt_of_lt_of_le hp3 hw.cl
  obtain ⟨hs1, hs2⟩ := hsr x.pt hpi
  refine primS (.bool (decide _)) d_eql ?_
  refine itD rfl (fun d1 => ?_) (fun d1 => ?_)
  · have e : stp ss w q = ⟨w.heads, w.next, w.ctr, w.ws.set q ⟨2, x.pt, w.heads.getD (sl ss x.pt) 0⟩⟩ := by unfold stp; simp only [hx]; rw [if_neg (by omega), if_pos (by omega)]
    rw [e] at hY3
    refine primS (.int .i64 (x.pt : Int)) (wk_get hx (by decide) rfl) ?_
    refine primS (.bool true) (il_inb (by omega) (by omega)) ?_
    refine primS (.int .i64 ((sl ss x.pt : Nat) : Int)) ((il_get (by omega) (by omega)).trans (by rw [Int.toNat_natCast, hs2])) ?_
    simp only [List.cons_append, List.nil_append]
    refine primS (.bool true) (il_inb (by omega) (by rw [hw.hl]; omega)) ?_
    refine primS (.int .i64 (w.heads.getD (sl ss x.pt) 0)) ((il_get (by omega) (by rw [hw.hl]; omega)).trans (by rw [Int.toNat_natCast])) ?_
    refine primS _ (wk_set (y := ⟨2, x.pt, x.no⟩) hx (Nat.le_of_ble_eq_true rfl) rfl) ?_
    simp only [List.cons_append, List.nil_append]
    refine primS (wkl (w.ws.set q ⟨2, x.pt, w.heads.getD (sl ss x.pt) 0⟩)) ((wk_set (y := ⟨2, x.pt, w.heads.getD (sl ss x.pt) 0⟩) (hxi _) (Nat.le_of_ble_eq_true rfl) rfl).trans (by rw [List.set_set])) ?_
    refine primS (.int .i64 ((k + 1 : Nat) : Int)) ((d_add64 (by omega) (by omega)).trans (by simp)) ?_
    exact jump_step rfl hY3
  refine primS (.bool (decide _)) d_eql ?_
  simp only [List.cons_append, List.nil_append]
  refine itD rfl (fun d2 => ?_) (fun d2 => ?_)
  · have e : stp ss w q = ⟨w.heads, w.next.set x.pt x.no, w.ctr, w.ws.set q ⟨3, x.pt, x.no⟩⟩ := by unfold stp; simp only [hx]; rw [if_neg (by omega), if_neg (by omega), if_pos (by omega)]
    rw [e] at hY3
    refine primS _ (wk_set (y := ⟨3, x.pt, x.no⟩) hx (Nat.le_of_ble_eq_true rfl) rfl) ?_
    refine primS (.int .i64 (x.pt : Int)) (wk_get (hxi _) (by decide) rfl) ?_
    refine primS (.int .i64 x.no) (wk_get (hxi _) (by decide) rfl) ?_
    simp only [List.cons_append, List.nil_append]
    refine primS (.bool true) (il_inb (by omega) (by rw [hw.nl]; omega)) ?_
    refine primS (il (w.next.set x.pt x.no)) ((il_set (by omega) (by rw [hw.nl]; omega)).trans (by rw [Int.toNat_natCast])) ?_
    refine primS (.int .i64 ((k + 1 : Nat) : Int)) ((d_add64 (by omega) (by omega)).trans (by simp)) ?_
    simp only [List.cons_append, List.nil_append]
    exact jump_step rfl hY3
  refine primS (.bool true) (d_eql.trans (by rw [decide_eq_true (by omega)])) ?_
  refine itT rfl ?_
  have e0 : stp ss w q = if w.heads.getD (sl ss x.pt) 0 = x.no then ⟨w.heads.set (sl ss x.pt) x.pt, w.next, w.ctr, w.ws.set q ⟨0, x.pt, x.no⟩⟩ else ⟨w.heads, w.next, w.ctr, w.ws.set q ⟨1, x.pt, x.no⟩⟩ := by unfold stp; simp only [hx]; rw [if_neg (by omega), if_neg (by omega), if_neg (by omega)]
  rw [e0] at hY3
  refine primS _ (wk_set (y := ⟨1, x.pt, x.no⟩) hx (Nat.le_of_ble_eq_true rfl) rfl) ?_
  refine primS (.int .i64 (x.pt : Int)) (wk_get (hxi _) (by decide) rfl) ?_
  refine primS (.bool true) (il_inb (by omega) (by omega)) ?_
  simp only [List.cons_append, List.nil_append]
  refine primS (.int .i64 ((sl ss x.pt : Nat) : Int)) ((il_get (by omega) (by omega)).trans (by rw [Int.toNat_natCast, hs2])) ?_
  refine primS (.bool true) (il_inb (by omega) (by rw [hw.hl]; omega)) ?_
  refine primS (.int .i64 (w.heads.getD (sl ss x.pt) 0)) ((il_get (by omega) (by rw [hw.hl]; omega)).trans (by rw [Int.toNat_natCast])) ?_
  simp only [List.cons_append, List.nil_append]
  refine primS (.int .i64 x.no) (wk_get (hxi _) (by decide) rfl) ?_
  refine primS (.bool (decide _)) d_eql ?_
  refine itD rfl (fun d3 => ?_) (fun d3 => ?_)
  · rw [if_pos d3] at hY3
    refine primS (.int .i64 (x.pt : Int)) (wk_get (hxi _) (by decide) rfl) ?_
    refine primS (il (w.heads.set (sl ss x.pt) x.pt)) ((il_set (by omega) (by rw [hw.hl]; omega)).trans (by rw [Int.toNat_natCast])) ?_
    refine primS (wkl (w.ws.set q ⟨0, x.pt, x.no⟩)) ((wk_set (y := ⟨0, x.pt, x.no⟩) (hxi _) (Nat.le_of_ble_eq_true rfl) rfl).trans (by rw [List.set_set])) ?_
    simp only [List.cons_append, List.nil_append]
    refine primS (.int .i64 ((k + 1 : Nat) : Int)) ((d_add64 (by omega) (by omega)).trans (by simp)) ?_
    exact jump_step rfl hY3
  · rw [if_neg d3] at hY3
    refine primS (.int .i64 ((k + 1 : Nat) : Int)) ((d_add64 (by omega) (by omega)).trans (by simp)) ?_
    exact jump_step rfl hY3
end
end Go.Px.Na

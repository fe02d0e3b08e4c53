/- Tn: types that hold numbers only, as data that comes in. -/
import Derived.Test.YtnohcccgfefnkaaGreatGl
import Derived.Test.YtnohcccgfefnkaaGreatLq
import Derived.OpenShut
set_option maxRecDepth 10000
set_option linter.unusedSimpArgs false
set_option linter.unusedVariables false
namespace Go.Px.Na
open Go.RowKit
open Go.Proofs.Tryz (prog)
open Go.Proofs.YtnohcccgfefnkaaGreat (Rows.uptoBulk Rows.uptoBulkAll)

/-- So many numbers. -/
def Dnum (k : Nat) (ds : List DV) : Prop := ∃ l : List RR, ds = gv l ∧ l.length = k ∧ ∀ r ∈ l, r.ok 1048576
theorem gv_append : ∀ (a b : List RR), gv a ++ gv b = gv (a ++ b)
  | [], b => rfl
  | r :: a, b => by simp only [gv, List.cons_append, gv_append a b]
theorem rat_num {ds : List DV} (h : Drat ds) : Dnum 1 ds := by
  obtain ⟨r, rfl, hr⟩ := h
  exact ⟨[r], rfl, rfl, fun x hx => by rcases List.mem_cons.1 hx with rfl | hx; exact hr; cases hx⟩
theorem parts_num : ∀ (ks : List Nat) {ds : List DV}, Parts (ks.map Dnum) ds → Dnum ks.sum ds
  | [], ds, h => ⟨[], h, rfl, fun x hx => by cases hx⟩
  | k :: ks, ds, h => by
    obtain ⟨a, b, rfl, ⟨l, rfl, h1, h2⟩, hb⟩ := h
    obtain ⟨m, rfl, h3, h4⟩ := parts_num ks hb
    refine ⟨l ++ m, gv_append l m, by simp [h1, h3], fun x hx => ?_⟩
    rcases List.mem_append.1 hx with h | h
    · exact h2 x h
    · exact h4 x h
theorem num1 {ds : List DV} (h : Dnum 1 ds) : ∃ r0 : RR, ds = [.bool r0.neg, nl r0.num, nl r0.den] ∧ r0.ok 1048576 := by
  obtain ⟨l, rfl, hl, ho⟩ := h
  match l, hl with | [a], _ => exact ⟨a, rfl, ho _ (by simp)⟩
theorem tok_array {P : Program} {t e : TypeId} {n : Nat} {fs : List Field} {Ds : List (List DV → Prop)} (ht : P.underlying t = some (.array n e)) (hl : fs.length = n) (hf : ∀ (i : Nat) (f : Field), fs[i]? = some f → f.type = e ∧ f.offset = i * P.cellsOf e) (hc : Chain P 0 fs Ds) (hs : total P fs = P.cellsOf t) : TOK P t (Parts Ds) := by
  intro H enc w m cs x h hb
  obtain ⟨xs, m, rfl, rfl, hlen, hxs, hx⟩ := DataW.trod_array ht h
  simp only [Rows.uptoBulk] at hb
  obtain ⟨ds, h1, h2, h3⟩ := chain_ok (off := 0) (xs := xs) hc (by omega) (fun i f hi => by
    obtain ⟨a, b⟩ := hf i f hi
    rw [a, b]
    exact hx i (by rw [← hl]; exact (List.getElem?_eq_some_iff.1 hi).1)) (by omega) (by omega)
  exact ⟨ds, h1, by rw [h2, hs, hlen], fun j d hj => by simpa using h3 j d hj⟩
theorem trod_array_mk {H : Type} {enc : TypeId × Value → H} {P : Program} {w : World} {base : Nat} {spare : Nat → Bool} {held : Bool} {t e : TypeId} {k n : Nat} {cs : List Value} {xs : List (DataW H × List MemPlace)} (ht : P.underlying t = some (.array k e)) (hl : cs.length = P.cellsOf t)
    (hp : (List.range k).mapM (fun i => DataW.trod enc P w base spare held n e ((cs.drop (i * P.cellsOf e)).take (P.cellsOf e))) = some xs) :
    DataW.trod enc P w base spare held (n + 1) t cs = some (.agg (xs.map (·.1)), xs.flatMap (·.2)) := by
  unfold DataW.trod
  rw [ht]
  split <;> simp_all
theorem sp_array {P : Program} {t e : TypeId} {k : Nat} (ht : P.underlying t = some (.array k e)) (hs : SP P e) : SP P t := by
  intro H enc w n cs x sp h hp
  obtain ⟨xs, m, rfl, rfl, hlen, hxs, hf⟩ := DataW.trod_array ht h
  refine trod_array_mk ht hlen (mapM_of_get (by simpa using hxs) fun j i hj => ?_)
  have hj2 : i = j ∧ j < k := by
    obtain ⟨h1, h2⟩ := List.getElem?_eq_some_iff.1 hj
    simp at h1 h2; exact ⟨h2.symm, h1⟩
  obtain ⟨rfl, hjk⟩ := hj2
  have h1 := hf i hjk
  have hlt : i < xs.length := by omega
  rw [List.getElem?_eq_getElem hlt] at h1 ⊢
  refine hs H enc w m _ _ sp h1 fun p hpp => hp p ?_
  exact List.mem_flatMap.2 ⟨_, List.getElem_mem hlt, hpp⟩
theorem t_rat1 : TOK prog 24 (Dnum 1) := t_rat.imp fun _ h => rat_num h
theorem g_rat1 : Par.good prog ⟨24, true, Dnum 1⟩ := ⟨t_rat1, s_rat, by first | exact ⟨_, Go.Proofs.Tryz.underlying24⟩ | exact .inl ⟨_, Go.Proofs.Tryz.underlying24⟩⟩
theorem cells28 : prog.cellsOf 28 = 9 := by kernel_rfl
theorem t_Vec : TOK prog 28 (Dnum 3) := (tok_struct Go.Proofs.Tryz.underlying28 (Ds := [Dnum 1, Dnum 1, Dnum 1])
  ⟨rfl, t_rat1, by simp only [cells24], t_rat1, by simp only [cells24], t_rat1, trivial⟩
  (by simp only [total, cells24, cells28])).imp fun _ h => parts_num [1, 1, 1] h
theorem s_Vec : SP prog 28 := sp_struct Go.Proofs.Tryz.underlying28 fun i f h => by
  match i with
  | 0 => simp at h; subst h; exact s_rat
  | 1 => simp at h; subst h; exact s_rat
  | 2 => simp at h; subst h; exact s_rat
  | i + 3 => simp at h
theorem g_Vec : Par.good prog ⟨28, true, Dnum 3⟩ := ⟨t_Vec, s_Vec, by first | exact ⟨_, Go.Proofs.Tryz.underlying28⟩ | exact .inl ⟨_, Go.Proofs.Tryz.underlying28⟩⟩
theorem cells30 : prog.cellsOf 30 = 36 := by kernel_rfl
theorem t_Map : TOK prog 30 (Dnum 12) := (tok_struct Go.Proofs.Tryz.underlying30 (Ds := [Dnum 3, Dnum 3, Dnum 3, Dnum 3])
  ⟨rfl, t_Vec, by simp only [cells28], t_Vec, by simp only [cells28], t_Vec, by simp only [cells28], t_Vec, trivial⟩
  (by simp only [total, cells28, cells30])).imp fun _ h => parts_num [3, 3, 3, 3] h
theorem s_Map : SP prog 30 := sp_struct Go.Proofs.Tryz.underlying30 fun i f h => by
  match i with
  | 0 => simp at h; subst h; exact s_Vec
  | 1 => simp at h; subst h; exact s_Vec
  | 2 => simp at h; subst h; exact s_Vec
  | 3 => simp at h; subst h; exact s_Vec
  | i + 4 => simp at h
theorem g_Map : Par.good prog ⟨30, true, Dnum 12⟩ := ⟨t_Map, s_Map, by first | exact ⟨_, Go.Proofs.Tryz.underlying30⟩ | exact .inl ⟨_, Go.Proofs.Tryz.underlying30⟩⟩
theorem cells56 : prog.cellsOf 56 = 18 := by kernel_rfl
theorem t_Spot : TOK prog 56 (Dnum 6) := (tok_struct Go.Proofs.Tryz.underlying56 (Ds := [Dnum 3, Dnum 3])
  ⟨rfl, t_Vec, by simp only [cells28], t_Vec, trivial⟩
  (by simp only [total, cells28, cells56])).imp fun _ h => parts_num [3, 3] h
theorem s_Spot : SP prog 56 := sp_struct Go.Proofs.Tryz.underlying56 fun i f h => by
  match i with
  | 0 => simp at h; subst h; exact s_Vec
  | 1 => simp at h; subst h; exact s_Vec
  | i + 2 => simp at h
theorem g_Spot : Par.good prog ⟨56, true, Dnum 6⟩ := ⟨t_Spot, s_Spot, by first | exact ⟨_, Go.Proofs.Tryz.underlying56⟩ | exact .inl ⟨_, Go.Proofs.Tryz.underlying56⟩⟩
theorem cells73 : prog.cellsOf 73 = 27 := by kernel_rfl
theorem t_Frame : TOK prog 73 (Dnum 9) := (tok_struct Go.Proofs.Tryz.underlying73 (Ds := [Dnum 3, Dnum 3, Dnum 3])
  ⟨rfl, t_Vec, by simp only [cells28], t_Vec, by simp only [cells28], t_Vec, trivial⟩
  (by simp only [total, cells28, cells73])).imp fun _ h => parts_num [3, 3, 3] h
theorem s_Frame : SP prog 73 := sp_struct Go.Proofs.Tryz.underlying73 fun i f h => by
  match i with
  | 0 => simp at h; subst h; exact s_Vec
  | 1 => simp at h; subst h; exact s_Vec
  | 2 => simp at h; subst h; exact s_Vec
  | i + 3 => simp at h
theorem g_Frame : Par.good prog ⟨73, true, Dnum 9⟩ := ⟨t_Frame, s_Frame, by first | exact ⟨_, Go.Proofs.Tryz.underlying73⟩ | exact .inl ⟨_, Go.Proofs.Tryz.underlying73⟩⟩
theorem cells75 : prog.cellsOf 75 = 42 := by kernel_rfl
theorem t_view : TOK prog 75 (Dnum 14) := (tok_struct Go.Proofs.Tryz.underlying75 (Ds := [Dnum 9, Dnum 3, Dnum 1, Dnum 1])
  ⟨rfl, t_Frame, by simp only [cells73, cells28, cells24], t_Vec, by simp only [cells73, cells28, cells24], t_rat1, by simp only [cells73, cells28, cells24], t_rat1, trivial⟩
  (by simp only [total, cells73, cells28, cells24, cells75])).imp fun _ h => parts_num [9, 3, 1, 1] h
theorem s_view : SP prog 75 := sp_struct Go.Proofs.Tryz.underlying75 fun i f h => by
  match i with
  | 0 => simp at h; subst h; exact s_Frame
  | 1 => simp at h; subst h; exact s_Vec
  | 2 => simp at h; subst h; exact s_rat
  | 3 => simp at h; subst h; exact s_rat
  | i + 4 => simp at h
theorem g_view : Par.good prog ⟨75, true, Dnum 14⟩ := ⟨t_view, s_view, by first | exact ⟨_, Go.Proofs.Tryz.underlying75⟩ | exact .inl ⟨_, Go.Proofs.Tryz.underlying75⟩⟩
theorem cells84 : prog.cellsOf 84 = 27 := by kernel_rfl
def fs84 : List Field := [{ (default : Field) with type := 28, offset := 0 }, { (default : Field) with type := 28, offset := 9 }, { (default : Field) with type := 28, offset := 18 }]
theorem t_arr3_Vec : TOK prog 84 (Dnum 9) := (tok_array (fs := fs84) Go.Proofs.Tryz.underlying84 (Ds := [Dnum 3, Dnum 3, Dnum 3]) rfl
  (fun i f h => by
    match i with
    | 0 => simp [fs84] at h; subst h; exact ⟨rfl, by simp only [cells28]⟩
    | 1 => simp [fs84] at h; subst h; exact ⟨rfl, by simp only [cells28]⟩
    | 2 => simp [fs84] at h; subst h; exact ⟨rfl, by simp only [cells28]⟩
    | i + 3 => simp [fs84] at h)
  ⟨rfl, t_Vec, by simp only [cells28], t_Vec, by simp only [cells28], t_Vec, trivial⟩
  (by simp only [fs84, total, cells28, cells84])).imp fun _ h => parts_num [3, 3, 3] h
theorem s_arr3_Vec : SP prog 84 := sp_array Go.Proofs.Tryz.underlying84 s_Vec
theorem g_arr3_Vec : Par.good prog ⟨84, true, Dnum 9⟩ := ⟨t_arr3_Vec, s_arr3_Vec, .inr ⟨_, _, Go.Proofs.Tryz.underlying84⟩⟩
theorem num3 {ds : List DV} (h : Dnum 3 ds) : ∃ r0 r1 r2 : RR, ds = [.bool r0.neg, nl r0.num, nl r0.den, .bool r1.neg, nl r1.num, nl r1.den, .bool r2.neg, nl r2.num, nl r2.den] ∧ r0.ok 1048576 ∧ r1.ok 1048576 ∧ r2.ok 1048576 := by
  obtain ⟨l, rfl, hl, ho⟩ := h
  match l, hl with | [r0, r1, r2], _ => exact ⟨r0, r1, r2, rfl, ho _ (by simp), ho _ (by simp), ho _ (by simp)⟩
theorem num6 {ds : List DV} (h : Dnum 6 ds) : ∃ r0 r1 r2 r3 r4 r5 : RR, ds = [.bool r0.neg, nl r0.num, nl r0.den, .bool r1.neg, nl r1.num, nl r1.den, .bool r2.neg, nl r2.num, nl r2.den, .bool r3.neg, nl r3.num, nl r3.den, .bool r4.neg, nl r4.num, nl r4.den, .bool r5.neg, nl r5.num, nl r5.den] ∧ r0.ok 1048576 ∧ r1.ok 1048576 ∧ r2.ok 1048576 ∧ r3.ok 1048576 ∧ r4.ok 1048576 ∧ r5.ok 1048576 := by
  obtain ⟨l, rfl, hl, ho⟩ := h
  match l, hl with | [r0, r1, r2, r3, r4, r5], _ => exact ⟨r0, r1, r2, r3, r4, r5, rfl, ho _ (by simp), ho _ (by simp), ho _ (by simp), ho _ (by simp), ho _ (by simp), ho _ (by simp)⟩
theorem num9 {ds : List DV} (h : Dnum 9 ds) : ∃ r0 r1 r2 r3 r4 r5 r6 r7 r8 : RR, ds = [.bool r0.neg, nl r0.num, nl r0.den, .bool r1.neg, nl r1.num, nl r1.den, .bool r2.neg, nl r2.num, nl r2.den, .bool r3.neg, nl r3.num, nl r3.den, .bool r4.neg, nl r4.num, nl r4.den, .bool r5.neg, nl r5.num, nl r5.den, .bool r6.neg, nl r6.num, nl r6.den, .bool r7.neg, nl r7.num, nl r7.den, .bool r8.neg, nl r8.num, nl r8.den] ∧ r0.ok 1048576 ∧ r1.ok 1048576 ∧ r2.ok 1048576 ∧ r3.ok 1048576 ∧ r4.ok 1048576 ∧ r5.ok 1048576 ∧ r6.ok 1048576 ∧ r7.ok 1048576 ∧ r8.ok 1048576 := by
  obtain ⟨l, rfl, hl, ho⟩ := h
  match l, hl with | [r0, r1, r2, r3, r4, r5, r6, r7, r8], _ => exact ⟨r0, r1, r2, r3, r4, r5, r6, r7, r8, rfl, ho _ (by simp), ho _ (by simp), ho _ (by simp), ho _ (by simp), ho _ (by simp), ho _ (by simp), ho _ (by simp), ho _ (by simp), ho _ (by simp)⟩
theorem num12 {ds : List DV} (h : Dnum 12 ds) : ∃ r0 r1 r2 r3 r4 r5 r6 r7 r8 r9 r10 r11 : RR, ds = [.bool r0.neg, nl r0.num, nl r0.den, .bool r1.neg, nl r1.num, nl r1.den, .bool r2.neg, nl r2.num, nl r2.den, .bool r3.neg, nl r3.num, nl r3.den, .bool r4.neg, nl r4.num, nl r4.den, .bool r5.neg, nl r5.num, nl r5.den, .bool r6.neg, nl r6.num, nl r6.den, .bool r7.neg, nl r7.num, nl r7.den, .bool r8.neg, nl r8.num, nl r8.den, .bool r9.neg, nl r9.num, nl r9.den, .bool r10.neg, nl r10.num, nl r10.den, .bool r11.neg, nl r11.num, nl r11.den] ∧ r0.ok 1048576 ∧ r1.ok 1048576 ∧ r2.ok 1048576 ∧ r3.ok 1048576 ∧ r4.ok 1048576 ∧ r5.ok 1048576 ∧ r6.ok 1048576 ∧ r7.ok 1048576 ∧ r8.ok 1048576 ∧ r9.ok 1048576 ∧ r10.ok 1048576 ∧ r11.ok 1048576 := by
  obtain ⟨l, rfl, hl, ho⟩ := h
  match l, hl with | [r0, r1, r2, r3, r4, r5, r6, r7, r8, r9, r10, r11], _ => exact ⟨r0, r1, r2, r3, r4, r5, r6, r7, r8, r9, r10, r11, rfl, ho _ (by simp), ho _ (by simp), ho _ (by simp), ho _ (by simp), ho _ (by simp), ho _ (by simp), ho _ (by simp), ho _ (by simp), ho _ (by simp), ho _ (by simp), ho _ (by simp), ho _ (by simp)⟩
theorem num14 {ds : List DV} (h : Dnum 14 ds) : ∃ r0 r1 r2 r3 r4 r5 r6 r7 r8 r9 r10 r11 r12 r13 : RR, ds = [.bool r0.neg, nl r0.num, nl r0.den, .bool r1.neg, nl r1.num, nl r1.den, .bool r2.neg, nl r2.num, nl r2.den, .bool r3.neg, nl r3.num, nl r3.den, .bool r4.neg, nl r4.num, nl r4.den, .bool r5.neg, nl r5.num, nl r5.den, .bool r6.neg, nl r6.num, nl r6.den, .bool r7.neg, nl r7.num, nl r7.den, .bool r8.neg, nl r8.num, nl r8.den, .bool r9.neg, nl r9.num, nl r9.den, .bool r10.neg, nl r10.num, nl r10.den, .bool r11.neg, nl r11.num, nl r11.den, .bool r12.neg, nl r12.num, nl r12.den, .bool r13.neg, nl r13.num, nl r13.den] ∧ r0.ok 1048576 ∧ r1.ok 1048576 ∧ r2.ok 1048576 ∧ r3.ok 1048576 ∧ r4.ok 1048576 ∧ r5.ok 1048576 ∧ r6.ok 1048576 ∧ r7.ok 1048576 ∧ r8.ok 1048576 ∧ r9.ok 1048576 ∧ r10.ok 1048576 ∧ r11.ok 1048576 ∧ r12.ok 1048576 ∧ r13.ok 1048576 := by
  obtain ⟨l, rfl, hl, ho⟩ := h
  match l, hl with | [r0, r1, r2, r3, r4, r5, r6, r7, r8, r9, r10, r11, r12, r13], _ => exact ⟨r0, r1, r2, r3, r4, r5, r6, r7, r8, r9, r10, r11, r12, r13, rfl, ho _ (by simp), ho _ (by simp), ho _ (by simp), ho _ (by simp), ho _ (by simp), ho _ (by simp), ho _ (by simp), ho _ (by simp), ho _ (by simp), ho _ (by simp), ho _ (by simp), ho _ (by simp), ho _ (by simp), ho _ (by simp)⟩
end Go.Px.Na

/- Tn: types that hold numbers only, as data that comes in. -/
import Derived.Test.YtadaibgdeojlmaaGl
import Derived.Test.YtadaibgdeojlmaaLq
import Derived.OpenShut
set_option maxRecDepth 10000
set_option linter.unusedSimpArgs false
set_option linter.unusedVariables false
namespace Go.Px.Na
open Go.RowKit
open Go.Proofs.Try (prog)
open Go.Proofs.Ytadaibgdeojlmaa (Rows.uptoBulk Rows.uptoBulkAll)

/-- So many numbers. -/
def Dnum (k : Nat) (ds : List DV) : Prop := ∃ l : List RR, ds = gv l ∧ l.length = k ∧ ∀ r ∈ l, r.ok 1048576
theorem gv_append : ∀ (a b : List RR), gv a ++ gv b = gv (a ++ b)
  | [], b => rfl
  | r :: a, b => by simp only [gv, List.cons_append, gv_append a b]
theorem rat_num {ds : List DV} (h : Drat ds) : Dnum 1 ds := by
  obtain ⟨r, rfl, hr⟩ := h
  exact ⟨[r], rfl, rfl, fun x hx => by rcases List.mem_cons.1 hx with rfl | hx; exact hr; cases hx⟩
theorem parts_num : ∀ (ks : List Nat) {ds : List DV}, Parts (ks.map Dnum) ds → Dnum ks.sum ds
  | [], ds, h => ⟨[], h, rfl, fun x hx => by cases hx⟩
  | k :: ks, ds, h => by
    obtain ⟨a, b, rfl, ⟨l, rfl, h1, h2⟩, hb⟩ := h
    obtain ⟨m, rfl, h3, h4⟩ := parts_num ks hb
    refine ⟨l ++ m, gv_append l m, by simp [h1, h3], fun x hx => ?_⟩
    rcases List.mem_append.1 hx with h | h
    · exact h2 x h
    · exact h4 x h
theorem num1 {ds : List DV} (h : Dnum 1 ds) : ∃ r0 : RR, ds = [.bool r0.neg, nl r0.num, nl r0.den] ∧ r0.ok 1048576 := by
  obtain ⟨l, rfl, hl, ho⟩ := h
  match l, hl with | [a], _ => exact ⟨a, rfl, ho _ (by simp)⟩
theorem tok_array {P : Program} {t e : TypeId} {n : Nat} {fs : List Field} {Ds : List (List DV → Prop)} (ht : P.underlying t = some (.array n e)) (hl : fs.length = n) (hf : ∀ (i : Nat) (f : Field), fs[i]? = some f → f.type = e ∧ f.offset = i * P.cellsOf e) (hc : Chain P 0 fs Ds) (hs : total P fs = P.cellsOf t) : TOK P t (Parts Ds) := by
  intro H enc w m cs x h hb
  obtain ⟨xs, m, rfl, rfl, hlen, hxs, hx⟩ := DataW.trod_array ht h
  simp only [Rows.uptoBulk] at hb
  obtain ⟨ds, h1, h2, h3⟩ := chain_ok (off := 0) (xs := xs) hc (by omega) (fun i f hi => by
    obtain ⟨a, b⟩ := hf i f hi
    rw [a, b]
    exact hx i (by rw [← hl]; exact (List.getElem?_eq_some_iff.1 hi).1)) (by omega) (by omega)
  exact ⟨ds, h1, by rw [h2, hs, hlen], fun j d hj => by simpa using h3 j d hj⟩
theorem trod_array_mk {H : Type} {enc : TypeId × Value → H} {P : Program} {w : World} {base : Nat} {spare : Nat → Bool} {held : Bool} {t e : TypeId} {k n : Nat} {cs : List Value} {xs : List (DataW H × List MemPlace)} (ht : P.underlying t = some (.array k e)) (hl : cs.length = P.cellsOf t)
    (hp : (List.range k).mapM (fun i => DataW.trod enc P w base spare held n e ((cs.drop (i * P.cellsOf e)).take (P.cellsOf e))) = some xs) :
    DataW.trod enc P w base spare held (n + 1) t cs = some (.agg (xs.map (·.1)), xs.flatMap (·.2)) := by
  unfold DataW.trod
  rw [ht]
  split <;> simp_all
theorem sp_array {P : Program} {t e : TypeId} {k : Nat} (ht : P.underlying t = some (.array k e)) (hs : SP P e) : SP P t := by
  intro H enc w n cs x sp h hp
  obtain ⟨xs, m, rfl, rfl, hlen, hxs, hf⟩ := DataW.trod_array ht h
  refine trod_array_mk ht hlen (mapM_of_get (by simpa using hxs) fun j i hj => ?_)
  have hj2 : i = j ∧ j < k := by
    obtain ⟨h1, h2⟩ := List.getElem?_eq_some_iff.1 hj
    simp at h1 h2; exact ⟨h2.symm, h1⟩
  obtain ⟨rfl, hjk⟩ := hj2
  have h1 := hf i hjk
  have hlt : i < xs.length := by omega
  rw [List.getElem?_eq_getElem hlt] at h1 ⊢
  refine hs H enc w m _ _ sp h1 fun p hpp => hp p ?_
  exact List.mem_flatMap.2 ⟨_, List.getElem_mem hlt, hpp⟩
theorem t_rat1 : TOK prog 24 (Dnum 1) := t_rat.imp fun _ h => rat_num h
theorem g_rat1 : Par.good prog ⟨24, true, Dnum 1⟩ := ⟨t_rat1, s_rat, by first | exact ⟨_, Go.Proofs.Try.underlying24⟩ | exact .inl ⟨_, Go.Proofs.Try.underlying24⟩⟩
theorem cells26 : prog.cellsOf 26 = 9 := by kernel_rfl
theorem t_Vec : TOK prog 26 (Dnum 3) := (tok_struct Go.Proofs.Try.underlying26 (Ds := [Dnum 1, Dnum 1, Dnum 1])
  ⟨rfl, t_rat1, by simp only [cells24], t_rat1, by simp only [cells24], t_rat1, trivial⟩
  (by simp only [total, cells24, cells26])).imp fun _ h => parts_num [1, 1, 1] h
theorem s_Vec : SP prog 26 := sp_struct Go.Proofs.Try.underlying26 fun i f h => by
  match i with
  | 0 => simp at h; subst h; exact s_rat
  | 1 => simp at h; subst h; exact s_rat
  | 2 => simp at h; subst h; exact s_rat
  | i + 3 => simp at h
theorem g_Vec : Par.good prog ⟨26, true, Dnum 3⟩ := ⟨t_Vec, s_Vec, by first | exact ⟨_, Go.Proofs.Try.underlying26⟩ | exact .inl ⟨_, Go.Proofs.Try.underlying26⟩⟩
theorem cells28 : prog.cellsOf 28 = 33 := by kernel_rfl
theorem t_Bend : TOK prog 28 (Dnum 11) := (tok_struct Go.Proofs.Try.underlying28 (Ds := [Dnum 3, Dnum 3, Dnum 1, Dnum 1, Dnum 3])
  ⟨rfl, t_Vec, by simp only [cells26, cells24], t_Vec, by simp only [cells26, cells24], t_rat1, by simp only [cells26, cells24], t_rat1, by simp only [cells26, cells24], t_Vec, trivial⟩
  (by simp only [total, cells26, cells24, cells28])).imp fun _ h => parts_num [3, 3, 1, 1, 3] h
theorem s_Bend : SP prog 28 := sp_struct Go.Proofs.Try.underlying28 fun i f h => by
  match i with
  | 0 => simp at h; subst h; exact s_Vec
  | 1 => simp at h; subst h; exact s_Vec
  | 2 => simp at h; subst h; exact s_rat
  | 3 => simp at h; subst h; exact s_rat
  | 4 => simp at h; subst h; exact s_Vec
  | i + 5 => simp at h
theorem g_Bend : Par.good prog ⟨28, true, Dnum 11⟩ := ⟨t_Bend, s_Bend, by first | exact ⟨_, Go.Proofs.Try.underlying28⟩ | exact .inl ⟨_, Go.Proofs.Try.underlying28⟩⟩
theorem cells34 : prog.cellsOf 34 = 36 := by kernel_rfl
theorem t_Map : TOK prog 34 (Dnum 12) := (tok_struct Go.Proofs.Try.underlying34 (Ds := [Dnum 3, Dnum 3, Dnum 3, Dnum 3])
  ⟨rfl, t_Vec, by simp only [cells26], t_Vec, by simp only [cells26], t_Vec, by simp only [cells26], t_Vec, trivial⟩
  (by simp only [total, cells26, cells34])).imp fun _ h => parts_num [3, 3, 3, 3] h
theorem s_Map : SP prog 34 := sp_struct Go.Proofs.Try.underlying34 fun i f h => by
  match i with
  | 0 => simp at h; subst h; exact s_Vec
  | 1 => simp at h; subst h; exact s_Vec
  | 2 => simp at h; subst h; exact s_Vec
  | 3 => simp at h; subst h; exact s_Vec
  | i + 4 => simp at h
theorem g_Map : Par.good prog ⟨34, true, Dnum 12⟩ := ⟨t_Map, s_Map, by first | exact ⟨_, Go.Proofs.Try.underlying34⟩ | exact .inl ⟨_, Go.Proofs.Try.underlying34⟩⟩
theorem cells47 : prog.cellsOf 47 = 27 := by kernel_rfl
theorem t_Tri : TOK prog 47 (Dnum 9) := (tok_struct Go.Proofs.Try.underlying47 (Ds := [Dnum 3, Dnum 3, Dnum 3])
  ⟨rfl, t_Vec, by simp only [cells26], t_Vec, by simp only [cells26], t_Vec, trivial⟩
  (by simp only [total, cells26, cells47])).imp fun _ h => parts_num [3, 3, 3] h
theorem s_Tri : SP prog 47 := sp_struct Go.Proofs.Try.underlying47 fun i f h => by
  match i with
  | 0 => simp at h; subst h; exact s_Vec
  | 1 => simp at h; subst h; exact s_Vec
  | 2 => simp at h; subst h; exact s_Vec
  | i + 3 => simp at h
theorem g_Tri : Par.good prog ⟨47, true, Dnum 9⟩ := ⟨t_Tri, s_Tri, by first | exact ⟨_, Go.Proofs.Try.underlying47⟩ | exact .inl ⟨_, Go.Proofs.Try.underlying47⟩⟩
theorem cells49 : prog.cellsOf 49 = 9 := by kernel_rfl
theorem t_Meet : TOK prog 49 (Dnum 3) := (tok_struct Go.Proofs.Try.underlying49 (Ds := [Dnum 1, Dnum 1, Dnum 1])
  ⟨rfl, t_rat1, by simp only [cells24], t_rat1, by simp only [cells24], t_rat1, trivial⟩
  (by simp only [total, cells24, cells49])).imp fun _ h => parts_num [1, 1, 1] h
theorem s_Meet : SP prog 49 := sp_struct Go.Proofs.Try.underlying49 fun i f h => by
  match i with
  | 0 => simp at h; subst h; exact s_rat
  | 1 => simp at h; subst h; exact s_rat
  | 2 => simp at h; subst h; exact s_rat
  | i + 3 => simp at h
theorem g_Meet : Par.good prog ⟨49, true, Dnum 3⟩ := ⟨t_Meet, s_Meet, by first | exact ⟨_, Go.Proofs.Try.underlying49⟩ | exact .inl ⟨_, Go.Proofs.Try.underlying49⟩⟩
theorem cells55 : prog.cellsOf 55 = 9 := by kernel_rfl
def fs55 : List Field := [{ (default : Field) with type := 24, offset := 0 }, { (default : Field) with type := 24, offset := 3 }, { (default : Field) with type := 24, offset := 6 }]
theorem t_arr3_rat : TOK prog 55 (Dnum 3) := (tok_array (fs := fs55) Go.Proofs.Try.underlying55 (Ds := [Dnum 1, Dnum 1, Dnum 1]) rfl
  (fun i f h => by
    match i with
    | 0 => simp [fs55] at h; subst h; exact ⟨rfl, by simp only [cells24]⟩
    | 1 => simp [fs55] at h; subst h; exact ⟨rfl, by simp only [cells24]⟩
    | 2 => simp [fs55] at h; subst h; exact ⟨rfl, by simp only [cells24]⟩
    | i + 3 => simp [fs55] at h)
  ⟨rfl, t_rat1, by simp only [cells24], t_rat1, by simp only [cells24], t_rat1, trivial⟩
  (by simp only [fs55, total, cells24, cells55])).imp fun _ h => parts_num [1, 1, 1] h
theorem s_arr3_rat : SP prog 55 := sp_array Go.Proofs.Try.underlying55 s_rat
theorem g_arr3_rat : Par.good prog ⟨55, true, Dnum 3⟩ := ⟨t_arr3_rat, s_arr3_rat, .inr ⟨_, _, Go.Proofs.Try.underlying55⟩⟩
theorem cells64 : prog.cellsOf 64 = 18 := by kernel_rfl
def fs64 : List Field := [{ (default : Field) with type := 26, offset := 0 }, { (default : Field) with type := 26, offset := 9 }]
theorem t_arr2_Vec : TOK prog 64 (Dnum 6) := (tok_array (fs := fs64) Go.Proofs.Try.underlying64 (Ds := [Dnum 3, Dnum 3]) rfl
  (fun i f h => by
    match i with
    | 0 => simp [fs64] at h; subst h; exact ⟨rfl, by simp only [cells26]⟩
    | 1 => simp [fs64] at h; subst h; exact ⟨rfl, by simp only [cells26]⟩
    | i + 2 => simp [fs64] at h)
  ⟨rfl, t_Vec, by simp only [cells26], t_Vec, trivial⟩
  (by simp only [fs64, total, cells26, cells64])).imp fun _ h => parts_num [3, 3] h
theorem s_arr2_Vec : SP prog 64 := sp_array Go.Proofs.Try.underlying64 s_Vec
theorem g_arr2_Vec : Par.good prog ⟨64, true, Dnum 6⟩ := ⟨t_arr2_Vec, s_arr2_Vec, .inr ⟨_, _, Go.Proofs.Try.underlying64⟩⟩
theorem cells70 : prog.cellsOf 70 = 18 := by kernel_rfl
theorem t_Spot : TOK prog 70 (Dnum 6) := (tok_struct Go.Proofs.Try.underlying70 (Ds := [Dnum 3, Dnum 3])
  ⟨rfl, t_Vec, by simp only [cells26], t_Vec, trivial⟩
  (by simp only [total, cells26, cells70])).imp fun _ h => parts_num [3, 3] h
theorem s_Spot : SP prog 70 := sp_struct Go.Proofs.Try.underlying70 fun i f h => by
  match i with
  | 0 => simp at h; subst h; exact s_Vec
  | 1 => simp at h; subst h; exact s_Vec
  | i + 2 => simp at h
theorem g_Spot : Par.good prog ⟨70, true, Dnum 6⟩ := ⟨t_Spot, s_Spot, by first | exact ⟨_, Go.Proofs.Try.underlying70⟩ | exact .inl ⟨_, Go.Proofs.Try.underlying70⟩⟩
theorem cells73 : prog.cellsOf 73 = 27 := by kernel_rfl
theorem t_Frame : TOK prog 73 (Dnum 9) := (tok_struct Go.Proofs.Try.underlying73 (Ds := [Dnum 3, Dnum 3, Dnum 3])
  ⟨rfl, t_Vec, by simp only [cells26], t_Vec, by simp only [cells26], t_Vec, trivial⟩
  (by simp only [total, cells26, cells73])).imp fun _ h => parts_num [3, 3, 3] h
theorem s_Frame : SP prog 73 := sp_struct Go.Proofs.Try.underlying73 fun i f h => by
  match i with
  | 0 => simp at h; subst h; exact s_Vec
  | 1 => simp at h; subst h; exact s_Vec
  | 2 => simp at h; subst h; exact s_Vec
  | i + 3 => simp at h
theorem g_Frame : Par.good prog ⟨73, true, Dnum 9⟩ := ⟨t_Frame, s_Frame, by first | exact ⟨_, Go.Proofs.Try.underlying73⟩ | exact .inl ⟨_, Go.Proofs.Try.underlying73⟩⟩
theorem cells79 : prog.cellsOf 79 = 36 := by kernel_rfl
def fs79 : List Field := [{ (default : Field) with type := 70, offset := 0 }, { (default : Field) with type := 70, offset := 18 }]
theorem t_arr2_Spot : TOK prog 79 (Dnum 12) := (tok_array (fs := fs79) Go.Proofs.Try.underlying79 (Ds := [Dnum 6, Dnum 6]) rfl
  (fun i f h => by
    match i with
    | 0 => simp [fs79] at h; subst h; exact ⟨rfl, by simp only [cells70]⟩
    | 1 => simp [fs79] at h; subst h; exact ⟨rfl, by simp only [cells70]⟩
    | i + 2 => simp [fs79] at h)
  ⟨rfl, t_Spot, by simp only [cells70], t_Spot, trivial⟩
  (by simp only [fs79, total, cells70, cells79])).imp fun _ h => parts_num [6, 6] h
theorem s_arr2_Spot : SP prog 79 := sp_array Go.Proofs.Try.underlying79 s_Spot
theorem g_arr2_Spot : Par.good prog ⟨79, true, Dnum 12⟩ := ⟨t_arr2_Spot, s_arr2_Spot, .inr ⟨_, _, Go.Proofs.Try.underlying79⟩⟩
theorem cells88 : prog.cellsOf 88 = 27 := by kernel_rfl
def fs88 : List Field := [{ (default : Field) with type := 26, offset := 0 }, { (default : Field) with type := 26, offset := 9 }, { (default : Field) with type := 26, offset := 18 }]
theorem t_arr3_Vec : TOK prog 88 (Dnum 9) := (tok_array (fs := fs88) Go.Proofs.Try.underlying88 (Ds := [Dnum 3, Dnum 3, Dnum 3]) rfl
  (fun i f h => by
    match i with
    | 0 => simp [fs88] at h; subst h; exact ⟨rfl, by simp only [cells26]⟩
    | 1 => simp [fs88] at h; subst h; exact ⟨rfl, by simp only [cells26]⟩
    | 2 => simp [fs88] at h; subst h; exact ⟨rfl, by simp only [cells26]⟩
    | i + 3 => simp [fs88] at h)
  ⟨rfl, t_Vec, by simp only [cells26], t_Vec, by simp only [cells26], t_Vec, trivial⟩
  (by simp only [fs88, total, cells26, cells88])).imp fun _ h => parts_num [3, 3, 3] h
theorem s_arr3_Vec : SP prog 88 := sp_array Go.Proofs.Try.underlying88 s_Vec
theorem g_arr3_Vec : Par.good prog ⟨88, true, Dnum 9⟩ := ⟨t_arr3_Vec, s_arr3_Vec, .inr ⟨_, _, Go.Proofs.Try.underlying88⟩⟩
theorem cells108 : prog.cellsOf 108 = 42 := by kernel_rfl
theorem t_view : TOK prog 108 (Dnum 14) := (tok_struct Go.Proofs.Try.underlying108 (Ds := [Dnum 9, Dnum 3, Dnum 1, Dnum 1])
  ⟨rfl, t_Frame, by simp only [cells73, cells26, cells24], t_Vec, by simp only [cells73, cells26, cells24], t_rat1, by simp only [cells73, cells26, cells24], t_rat1, trivial⟩
  (by simp only [total, cells73, cells26, cells24, cells108])).imp fun _ h => parts_num [9, 3, 1, 1] h
theorem s_view : SP prog 108 := sp_struct Go.Proofs.Try.underlying108 fun i f h => by
  match i with
  | 0 => simp at h; subst h; exact s_Frame
  | 1 => simp at h; subst h; exact s_Vec
  | 2 => simp at h; subst h; exact s_rat
  | 3 => simp at h; subst h; exact s_rat
  | i + 4 => simp at h
theorem g_view : Par.good prog ⟨108, true, Dnum 14⟩ := ⟨t_view, s_view, by first | exact ⟨_, Go.Proofs.Try.underlying108⟩ | exact .inl ⟨_, Go.Proofs.Try.underlying108⟩⟩
theorem num3 {ds : List DV} (h : Dnum 3 ds) : ∃ r0 r1 r2 : RR, ds = [.bool r0.neg, nl r0.num, nl r0.den, .bool r1.neg, nl r1.num, nl r1.den, .bool r2.neg, nl r2.num, nl r2.den] ∧ r0.ok 1048576 ∧ r1.ok 1048576 ∧ r2.ok 1048576 := by
  obtain ⟨l, rfl, hl, ho⟩ := h
  match l, hl with | [r0, r1, r2], _ => exact ⟨r0, r1, r2, rfl, ho _ (by simp), ho _ (by simp), ho _ (by simp)⟩
theorem num6 {ds : List DV} (h : Dnum 6 ds) : ∃ r0 r1 r2 r3 r4 r5 : RR, ds = [.bool r0.neg, nl r0.num, nl r0.den, .bool r1.neg, nl r1.num, nl r1.den, .bool r2.neg, nl r2.num, nl r2.den, .bool r3.neg, nl r3.num, nl r3.den, .bool r4.neg, nl r4.num, nl r4.den, .bool r5.neg, nl r5.num, nl r5.den] ∧ r0.ok 1048576 ∧ r1.ok 1048576 ∧ r2.ok 1048576 ∧ r3.ok 1048576 ∧ r4.ok 1048576 ∧ r5.ok 1048576 := by
  obtain ⟨l, rfl, hl, ho⟩ := h
  match l, hl with | [r0, r1, r2, r3, r4, r5], _ => exact ⟨r0, r1, r2, r3, r4, r5, rfl, ho _ (by simp), ho _ (by simp), ho _ (by simp), ho _ (by simp), ho _ (by simp), ho _ (by simp)⟩
theorem num9 {ds : List DV} (h : Dnum 9 ds) : ∃ r0 r1 r2 r3 r4 r5 r6 r7 r8 : RR, ds = [.bool r0.neg, nl r0.num, nl r0.den, .bool r1.neg, nl r1.num, nl r1.den, .bool r2.neg, nl r2.num, nl r2.den, .bool r3.neg, nl r3.num, nl r3.den, .bool r4.neg, nl r4.num, nl r4.den, .bool r5.neg, nl r5.num, nl r5.den, .bool r6.neg, nl r6.num, nl r6.den, .bool r7.neg, nl r7.num, nl r7.den, .bool r8.neg, nl r8.num, nl r8.den] ∧ r0.ok 1048576 ∧ r1.ok 1048576 ∧ r2.ok 1048576 ∧ r3.ok 1048576 ∧ r4.ok 1048576 ∧ r5.ok 1048576 ∧ r6.ok 1048576 ∧ r7.ok 1048576 ∧ r8.ok 1048576 := by
  obtain ⟨l, rfl, hl, ho⟩ := h
  match l, hl with | [r0, r1, r2, r3, r4, r5, r6, r7, r8], _ => exact ⟨r0, r1, r2, r3, r4, r5, r6, r7, r8, rfl, ho _ (by simp), ho _ (by simp), ho _ (by simp), ho _ (by simp), ho _ (by simp), ho _ (by simp), ho _ (by simp), ho _ (by simp), ho _ (by simp)⟩
theorem num11 {ds : List DV} (h : Dnum 11 ds) : ∃ r0 r1 r2 r3 r4 r5 r6 r7 r8 r9 r10 : RR, ds = [.bool r0.neg, nl r0.num, nl r0.den, .bool r1.neg, nl r1.num, nl r1.den, .bool r2.neg, nl r2.num, nl r2.den, .bool r3.neg, nl r3.num, nl r3.den, .bool r4.neg, nl r4.num, nl r4.den, .bool r5.neg, nl r5.num, nl r5.den, .bool r6.neg, nl r6.num, nl r6.den, .bool r7.neg, nl r7.num, nl r7.den, .bool r8.neg, nl r8.num, nl r8.den, .bool r9.neg, nl r9.num, nl r9.den, .bool r10.neg, nl r10.num, nl r10.den] ∧ r0.ok 1048576 ∧ r1.ok 1048576 ∧ r2.ok 1048576 ∧ r3.ok 1048576 ∧ r4.ok 1048576 ∧ r5.ok 1048576 ∧ r6.ok 1048576 ∧ r7.ok 1048576 ∧ r8.ok 1048576 ∧ r9.ok 1048576 ∧ r10.ok 1048576 := by
  obtain ⟨l, rfl, hl, ho⟩ := h
  match l, hl with | [r0, r1, r2, r3, r4, r5, r6, r7, r8, r9, r10], _ => exact ⟨r0, r1, r2, r3, r4, r5, r6, r7, r8, r9, r10, rfl, ho _ (by simp), ho _ (by simp), ho _ (by simp), ho _ (by simp), ho _ (by simp), ho _ (by simp), ho _ (by simp), ho _ (by simp), ho _ (by simp), ho _ (by simp), ho _ (by simp)⟩
theorem num12 {ds : List DV} (h : Dnum 12 ds) : ∃ r0 r1 r2 r3 r4 r5 r6 r7 r8 r9 r10 r11 : RR, ds = [.bool r0.neg, nl r0.num, nl r0.den, .bool r1.neg, nl r1.num, nl r1.den, .bool r2.neg, nl r2.num, nl r2.den, .bool r3.neg, nl r3.num, nl r3.den, .bool r4.neg, nl r4.num, nl r4.den, .bool r5.neg, nl r5.num, nl r5.den, .bool r6.neg, nl r6.num, nl r6.den, .bool r7.neg, nl r7.num, nl r7.den, .bool r8.neg, nl r8.num, nl r8.den, .bool r9.neg, nl r9.num, nl r9.den, .bool r10.neg, nl r10.num, nl r10.den, .bool r11.neg, nl r11.num, nl r11.den] ∧ r0.ok 1048576 ∧ r1.ok 1048576 ∧ r2.ok 1048576 ∧ r3.ok 1048576 ∧ r4.ok 1048576 ∧ r5.ok 1048576 ∧ r6.ok 1048576 ∧ r7.ok 1048576 ∧ r8.ok 1048576 ∧ r9.ok 1048576 ∧ r10.ok 1048576 ∧ r11.ok 1048576 := by
  obtain ⟨l, rfl, hl, ho⟩ := h
  match l, hl with | [r0, r1, r2, r3, r4, r5, r6, r7, r8, r9, r10, r11], _ => exact ⟨r0, r1, r2, r3, r4, r5, r6, r7, r8, r9, r10, r11, rfl, ho _ (by simp), ho _ (by simp), ho _ (by simp), ho _ (by simp), ho _ (by simp), ho _ (by simp), ho _ (by simp), ho _ (by simp), ho _ (by simp), ho _ (by simp), ho _ (by simp), ho _ (by simp)⟩
theorem num14 {ds : List DV} (h : Dnum 14 ds) : ∃ r0 r1 r2 r3 r4 r5 r6 r7 r8 r9 r10 r11 r12 r13 : RR, ds = [.bool r0.neg, nl r0.num, nl r0.den, .bool r1.neg, nl r1.num, nl r1.den, .bool r2.neg, nl r2.num, nl r2.den, .bool r3.neg, nl r3.num, nl r3.den, .bool r4.neg, nl r4.num, nl r4.den, .bool r5.neg, nl r5.num, nl r5.den, .bool r6.neg, nl r6.num, nl r6.den, .bool r7.neg, nl r7.num, nl r7.den, .bool r8.neg, nl r8.num, nl r8.den, .bool r9.neg, nl r9.num, nl r9.den, .bool r10.neg, nl r10.num, nl r10.den, .bool r11.neg, nl r11.num, nl r11.den, .bool r12.neg, nl r12.num, nl r12.den, .bool r13.neg, nl r13.num, nl r13.den] ∧ r0.ok 1048576 ∧ r1.ok 1048576 ∧ r2.ok 1048576 ∧ r3.ok 1048576 ∧ r4.ok 1048576 ∧ r5.ok 1048576 ∧ r6.ok 1048576 ∧ r7.ok 1048576 ∧ r8.ok 1048576 ∧ r9.ok 1048576 ∧ r10.ok 1048576 ∧ r11.ok 1048576 ∧ r12.ok 1048576 ∧ r13.ok 1048576 := by
  obtain ⟨l, rfl, hl, ho⟩ := h
  match l, hl with | [r0, r1, r2, r3, r4, r5, r6, r7, r8, r9, r10, r11, r12, r13], _ => exact ⟨r0, r1, r2, r3, r4, r5, r6, r7, r8, r9, r10, r11, r12, r13, rfl, ho _ (by simp), ho _ (by simp), ho _ (by simp), ho _ (by simp), ho _ (by simp), ho _ (by simp), ho _ (by simp), ho _ (by simp), ho _ (by simp), ho _ (by simp), ho _ (by simp), ho _ (by simp), ho _ (by simp), ho _ (by simp)⟩
end Go.Px.Na

/- Tn: types that hold numbers only, as data that comes in. -/
import Derived.Test.YtejnnginkadecaaGreatGl
import Derived.Test.YtejnnginkadecaaGreatLq
import Derived.OpenShut
set_option maxRecDepth 10000
set_option linter.unusedSimpArgs false
set_option linter.unusedVariables false
namespace Go.Px.Na
open Go.RowKit
open Go.Proofs.Tryz (prog)
open Go.Proofs.YtejnnginkadecaaGreat (Rows.uptoBulk Rows.uptoBulkAll)

/-- So many numbers. -/
def Dnum (k : Nat) (ds : List DV) : Prop := ∃ l : List RR, ds = gv l ∧ l.length = k ∧ ∀ r ∈ l, r.ok 1048576
theorem gv_append : ∀ (a b : List RR), gv a ++ gv b = gv (a ++ b)
  | [], b => rfl
  | r :: a, b => by simp only [gv, List.cons_append, gv_append a b]
theorem rat_num {ds : List DV} (h : Drat ds) : Dnum 1 ds := by
  obtain ⟨r, rfl, hr⟩ := h
  exact ⟨[r], rfl, rfl, fun x hx => by rcases List.mem_cons.1 hx with rfl | hx; exact hr; cases hx⟩
theorem parts_num : ∀ (ks : List Nat) {ds : List DV}, Parts (ks.map Dnum) ds → Dnum ks.sum ds
  | [], ds, h => ⟨[], h, rfl, fun x hx => by cases hx⟩
  | k :: ks, ds, h => by
    obtain ⟨a, b, rfl, ⟨l, rfl, h1, h2⟩, hb⟩ := h
    obtain ⟨m, rfl, h3, h4⟩ := parts_num ks hb
    refine ⟨l ++ m, gv_append l m, by simp [h1, h3], fun x hx => ?_⟩
    rcases List.mem_append.1 hx with h | h
    · exact h2 x h
    · exact h4 x h
theorem num1 {ds : List DV} (h : Dnum 1 ds) : ∃ r0 : RR, ds = [.bool r0.neg, nl r0.num, nl r0.den] ∧ r0.ok 1048576 := by
  obtain ⟨l, rfl, hl, ho⟩ := h
  match l, hl with | [a], _ => exact ⟨a, rfl, ho _ (by simp)⟩
theorem tok_array {P : Program} {t e : TypeId} {n : Nat} {fs : List Field} {Ds : List (List DV → Prop)} (ht : P.underlying t = some (.array n e)) (hl : fs.length = n) (hf : ∀ (i : Nat) (f : Field), fs[i]? = some f → f.type = e ∧ f.offset = i * P.cellsOf e) (hc : Chain P 0 fs Ds) (hs : total P fs = P.cellsOf t) : TOK P t (Parts Ds) := by
  intro H enc w m cs x h hb
  obtain ⟨xs, m, rfl, rfl, hlen, hxs, hx⟩ := DataW.trod_array ht h
  simp only [Rows.uptoBulk] at hb
  obtain ⟨ds, h1, h2, h3⟩ := chain_ok (off := 0) (xs := xs) hc (by omega) (fun i f hi => by
    obtain ⟨a, b⟩ := hf i f hi
    rw [a, b]
    exact hx i (by rw [← hl]; exact (List.getElem?_eq_some_iff.1 hi).1)) (by omega) (by omega)
  exact ⟨ds, h1, by rw [h2, hs, hlen], fun j d hj => by simpa using h3 j d hj⟩
theorem trod_array_mk {H : Type} {enc : TypeId × Value → H} {P : Program} {w : World} {base : Nat} {spare : Nat → Bool} {held : Bool} {t e : TypeId} {k n : Nat} {cs : List Value} {xs : List (DataW H × List MemPlace)} (ht : P.underlying t = some (.array k e)) (hl : cs.length = P.cellsOf t)
    (hp : (List.range k).mapM (fun i => DataW.trod enc P w base spare held n e ((cs.drop (i * P.cellsOf e)).take (P.cellsOf e))) = some xs) :
    DataW.trod enc P w base spare held (n + 1) t cs = some (.agg (xs.map (·.1)), xs.flatMap (·.2)) := by
  unfold DataW.trod
  rw [ht]
  split <;> simp_all
theorem sp_array {P : Program} {t e : TypeId} {k : Nat} (ht : P.underlying t = some (.array k e)) (hs : SP P e) : SP P t := by
  intro H enc w n cs x sp h hp
  obtain ⟨xs, m, rfl, rfl, hlen, hxs, hf⟩ := DataW.trod_array ht h
  refine trod_array_mk ht hlen (mapM_of_get (by simpa using hxs) fun j i hj => ?_)
  have hj2 : i = j ∧ j < k := by
    obtain ⟨h1, h2⟩ := List.getElem?_eq_some_iff.1 hj
    simp at h1 h2; exact ⟨h2.symm, h1⟩
  obtain ⟨rfl, hjk⟩ := hj2
  have h1 := hf i hjk
  have hlt : i < xs.length := by omega
  rw [List.getElem?_eq_getElem hlt] at h1 ⊢
  refine hs H enc w m _ _ sp h1 fun p hpp => hp p ?_
  exact List.mem_flatMap.2 ⟨_, List.getElem_mem hlt, hpp⟩
theorem t_rat1 : TOK prog 25 (Dnum 1) := t_rat.imp fun _ h => rat_num h
theorem g_rat1 : Par.good prog ⟨25, true, Dnum 1⟩ := ⟨t_rat1, s_rat, by first | exact ⟨_, Go.Proofs.Tryz.underlying25⟩ | exact .inl ⟨_, Go.Proofs.Tryz.underlying25⟩⟩
theorem cells27 : prog.cellsOf 27 = 9 := by kernel_rfl
theorem t_Vec : TOK prog 27 (Dnum 3) := (tok_struct Go.Proofs.Tryz.underlying27 (Ds := [Dnum 1, Dnum 1, Dnum 1])
  ⟨rfl, t_rat1, by simp only [cells25], t_rat1, by simp only [cells25], t_rat1, trivial⟩
  (by simp only [total, cells25, cells27])).imp fun _ h => parts_num [1, 1, 1] h
theorem s_Vec : SP prog 27 := sp_struct Go.Proofs.Tryz.underlying27 fun i f h => by
  match i with
  | 0 => simp at h; subst h; exact s_rat
  | 1 => simp at h; subst h; exact s_rat
  | 2 => simp at h; subst h; exact s_rat
  | i + 3 => simp at h
theorem g_Vec : Par.good prog ⟨27, true, Dnum 3⟩ := ⟨t_Vec, s_Vec, by first | exact ⟨_, Go.Proofs.Tryz.underlying27⟩ | exact .inl ⟨_, Go.Proofs.Tryz.underlying27⟩⟩
theorem num3 {ds : List DV} (h : Dnum 3 ds) : ∃ r0 r1 r2 : RR, ds = [.bool r0.neg, nl r0.num, nl r0.den, .bool r1.neg, nl r1.num, nl r1.den, .bool r2.neg, nl r2.num, nl r2.den] ∧ r0.ok 1048576 ∧ r1.ok 1048576 ∧ r2.ok 1048576 := by
  obtain ⟨l, rfl, hl, ho⟩ := h
  match l, hl with | [r0, r1, r2], _ => exact ⟨r0, r1, r2, rfl, ho _ (by simp), ho _ (by simp), ho _ (by simp)⟩
end Go.Px.Na

/- Ks: rows of points that the library sorts by the program's comparison. -/
import Derived.Test.YtejnnginkadecaaGreatKp
import Derived.Test.YtejnnginkadecaaGreatKh
import Derived.Sort.OwnSortedInts
set_option maxRecDepth 20000
set_option maxHeartbeats 4000000
set_option linter.unusedVariables false
set_option linter.unusedSimpArgs false
namespace Go.Px.Na
open Go.RowKit Go.Sort Go.Proofs
open Go.Proofs.Tryz (prog)
theorem fn_okK {f : FuncId} (h : okName prog f = true) : ∃ fn, prog.funcs[f]? = some fn ∧ (fn.name == "runtime.NumGoroutine") = false ∧ fn.body.isNone = false := by
  unfold okName at h
  split at h
  · rename_i fn hfn
    simp only [Bool.and_eq_true, Bool.not_eq_true'] at h
    exact ⟨fn, hfn, h.1, h.2⟩
  · cases h
theorem enters_ok {f : FuncId} (h : okName prog f = true) (args : Array Value) (w : World) : (callFunc f args).run prog w = .ok (.enter f args) w := by
  obtain ⟨fn, hfn, h1, h2⟩ := fn_okK h
  simp only [callFunc, Sem.run_bind, Result.andThen_ok, program, Sem.run, hfn, h1, h2, Bool.false_eq_true, if_false]
  rfl
/-- A world that grew: some draws on, with blocks behind. -/
theorem grows_eq {w w' : World} (h : Grows w w') : ∃ q os, w' = grow (w.drewN q) os := by
  refine ⟨w'.drawn - w.drawn, w'.heap.extract w.heap.size w'.heap.size, ?_⟩
  obtain ⟨⟨h1, h2, h3, h4, h5⟩, h6⟩ := h
  have hh : w'.heap = w.heap ++ w'.heap.extract w.heap.size w'.heap.size := by
    refine Array.ext_getElem? fun i => ?_
    by_cases hi : i < w.heap.size
    · rw [Array.getElem?_append_left hi]; exact h5 i hi
    · rw [Array.getElem?_append_right (by omega), Array.getElem?_extract]
      by_cases hj : i < w'.heap.size
      · rw [if_pos (by omega)]; congr 1; omega
      · rw [if_neg (by omega), Array.getElem?_eq_none (by omega)]
  obtain ⟨heap, tape, drawn, os, output⟩ := w'
  obtain ⟨heap0, tape0, drawn0, os0, output0⟩ := w
  simp only at h1 h2 h3 h4 h5 h6 hh
  subst h1; subst h2; subst h3
  simp only [grow, World.drewN]
  rw [← hh]
  congr 1
  omega
def encF {m : Nat} (i : Fin (m + 1)) : Value := .int .i64 (i.val : Int)
theorem putF {m : Nat} (d : Array (Fin (m + 1))) (c : Array Value) : putCells encF 0 d c = putCells (Value.int .i64) 0 (d.map fun i => (i.val : Int)) c := by
  unfold putCells
  refine Array.ext (by simp) fun i h1 h2 => ?_
  simp only [Array.getElem_mapIdx, Array.size_map, Nat.sub_zero, Nat.zero_le, true_and, Nat.zero_add]
  split
  · rename_i hi
    simp only [encF]
    rw [getElem!_pos d i hi, getElem!_pos (d.map fun i => (i.val : Int)) i (by simpa using hi)]
    simp
  · rfl
theorem sortF {m n : Nat} (w : World) (g : Nat) (d : Array (Fin (m + 1))) (os : Array Obj) : sortWorld encF w g 0 n d os = grow (putRow (Value.int .i64) (Sort.ahead w n) g 0 (d.map fun i => (i.val : Int))) os := by
  unfold sortWorld putRow
  congr 1
  unfold mapBlock
  simp only [show (putCells encF 0 d) = putCells (Value.int .i64) 0 (d.map fun i => (i.val : Int)) from funext fun c => putF d c]
theorem heap_other {w : World} {g n : Nat} {os : Array Obj} (d : Array Int) {k : Nat} (hk : k < w.heap.size) (hne : g ≠ k) : (grow (putRow (Value.int .i64) (Sort.ahead w n) g 0 d) os).heap[k]? = w.heap[k]? :=
  (grownBy_sortedI (w := w) (g := g) (n := n) (os := os) d).block k hk fun e => hne (Option.some.inj e).symm
/-- Places as whole numbers. -/
def iz (is : List Nat) : List Int := is.map fun (i : Nat) => (i : Int)
theorem iz_len (is : List Nat) : (iz is).length = is.length := by simp [iz]
theorem iz_get {is : List Nat} {j : Nat} : (iz is)[j]? = (is[j]?).map fun (i : Nat) => (i : Int) := by simp [iz]
theorem t_sortf {L : Nat} {rs : List RV} {ps : List V3} {E : TypeId} (H : NVs L rs ps) (hl : L ≤ LL) (hbig : rs.length < 4611686018427387904) (b : Int) (is : List Nat) (hne : is ≠ []) (hin : ∀ i ∈ is, i < rs.length) (hlen : is.length < 4611686018427387904) :
    SortCalls prog F.slices_SortFunc___int_int_ 1 E F.__kd_builder__node_1 [.nref [none, some (vl rs)], .ref [.int .i64 b]] (iz is).length ((iz is).map (DV.int .i64)) ((iz (srt (le3 ps b) is)).map (DV.int .i64)) := by
  refine ⟨fn_okK (by kernel_rfl), fun w ok v cv hrow hnok hcaps hcb => ?_⟩
  obtain ⟨n', cells', he, xs, hown, hxl, hxc⟩ := hrow
  simp only [DV.list.injEq] at he
  obtain ⟨rfl, rfl⟩ := he
  have hxs : xs = (iz is).map (Value.int .i64) := int_cells (by simpa using hxl) hxc
  subst hxs
  rw [iz_len] at hown
  rcases hown.2 with ⟨rfl, h0⟩ | ⟨g, cap, cur, rfl, _, hb, hn, hcap, hsz, ht⟩
  · exact absurd (List.eq_nil_of_length_eq_zero h0) hne
  · obtain ⟨m, hm⟩ : ∃ m, rs.length = m + 1 := by
      match is, hne, hin with
      | i :: r, _, hin => exact ⟨rs.length - 1, by have := hin i (List.mem_cons_self ..); omega⟩
    rw [Nat.mul_one] at hsz ht
    let dl : List (Fin (m + 1)) := is.pmap (fun i hi => (⟨i, by rw [← hm]; exact hi⟩ : Fin (m + 1))) hin
    have hdl : dl.map (fun i => i.val) = is := by simp [dl, List.map_pmap]
    have hdll : dl.length = is.length := by simp [dl]
    have hgl : g < w.heap.size := (Array.getElem?_eq_some_iff.1 hb).1
    have hH0 : Holds (Value.int .i64) w g 0 (iz is).toArray := holds_of_blockI hb (by rw [iz_len]; exact ht)
    have hH : Holds encF w g 0 dl.toArray := fun j hj => by
      have hj' : j < is.length := by simpa [hdll] using hj
      have h1 := hH0 j (by simpa [iz_len] using hj')
      refine ⟨?_, h1.2⟩
      rw [h1.1]
      congr 1
      unfold encF
      rw [getElem!_pos _ j (by simpa [iz_len] using hj'), getElem!_pos _ j hj]
      have h2 : (dl.map fun i => i.val)[j]? = is[j]? := by rw [hdl]
      rw [List.getElem?_map, List.getElem?_eq_getElem (by omega), List.getElem?_eq_getElem hj'] at h2
      simp only [Option.map_some, Option.some.injEq] at h2
      simp [iz, h2]
    let cf : Fin (m + 1) → Fin (m + 1) → Int := fun x y => cfI ps b x.val y.val
    have hlt : ∀ x y, ltOf cf x y = true ↔ axQ (ps.getD x.val o3) b < axQ (ps.getD y.val o3) b ∨ axQ (ps.getD x.val o3) b = axQ (ps.getD y.val o3) b ∧ x.val < y.val := fun x y => by
      unfold ltOf; rw [decide_eq_true_iff]; exact cf_lt
    have hltF : ∀ x y, ltOf cf x y = false ↔ le3 ps b y.val x.val = true := fun x y => by
      rw [← Bool.not_eq_true, hlt, le3_iff]
      have : ∀ p q : Rat, p < q ∨ p = q ∨ q < p := fun p q => by grind
      have := this (axQ (ps.getD x.val o3) b) (axQ (ps.getD y.val o3) b)
      constructor
      · intro h
        rcases this with h1 | h1 | h1
        · exact absurd (.inl h1) h
        · refine .inr ⟨h1.symm, ?_⟩
          rcases Nat.lt_or_ge x.val y.val with h2 | h2
          · exact absurd (.inr ⟨h1, h2⟩) h
          · exact h2
        · exact .inl h1
      · rintro (h | ⟨h, h2⟩) (g | ⟨g, g2⟩)
        · grind
        · rw [g] at h; exact Rat.lt_irrefl h
        · rw [h] at g; exact Rat.lt_irrefl g
        · omega
    have hO : SWO (ltOf cf) := ⟨fun x => (hltF x x).2 (le3_iff.2 (.inr ⟨rfl, Nat.le_refl _⟩)), fun x y z h1 h2 => by
      rw [hlt] at h1 h2 ⊢
      rcases h1 with h1 | ⟨h1, h1'⟩ <;> rcases h2 with h2 | ⟨h2, h2'⟩
      · exact .inl (by grind)
      · exact .inl (h2 ▸ h1)
      · exact .inl (h1 ▸ h2)
      · exact .inr ⟨h1.trans h2, by omega⟩, fun x y z h1 h2 => by
      rw [hltF] at h1 h2 ⊢; exact le3_trans h2 h1⟩
    have hT : ∀ x y, ltOf cf x y = false → ltOf cf y x = false → x = y := fun x y h1 h2 => by
      rw [hltF] at h1 h2; exact Fin.ext (le3_anti h2 h1)
    have hg : ¬ok g := hnok g rfl
    have hcmp : CmpLays1 prog F.__kd_builder__node_1 cv encF cf g 0 dl.toArray.size w := fun m' os dk hdk x y => by
      have hoth : ∀ k, k < w.heap.size → g ≠ k → (sortWorld encF w g 0 m' dk os).heap[k]? = w.heap[k]? := fun k hk hne => by rw [sortF]; exact heap_other _ hk hne
      have hokw : ∀ k, ok k → ∀ o, w.heap[k]? = some o → (sortWorld encF w g 0 m' dk os).heap[k]? = some o := fun k hk o ho => by
        rw [hoth k (Array.getElem?_eq_some_iff.1 ho).1 (fun e => hg (e ▸ hk))]; exact ho
      obtain ⟨_, hcalls⟩ := f_cmp H hl (i := x.val) (k := y.val) (by omega) (by omega) hbig b
      have hrd : ∀ {d : DV} {u : Value}, Reads ok w d u → Reads ok (sortWorld encF w g 0 m' dk os) d u := fun hr => hr.imp fun b o h1 h2 => ⟨h1, hokw b h1 o h2⟩
      have hcs : cv.size = 2 := hcaps.1
      have hcap : ∀ (j : Nat) (a : AV), [AV.nref [none, some (vl rs)], .ref [.int .i64 b]][j]? = some a → ∃ u, cv[j]? = some u ∧ RepAV ok (sortWorld encF w g 0 m' dk os) a u := fun j a hj => by
        obtain ⟨u, hu, hr⟩ := hcaps.2 j a hj
        have hmem : u ∈ cv := Array.mem_of_getElem? hu
        have hblk : ∀ q, CapBlk w u q → q < w.heap.size → (sortWorld encF w g 0 m' dk os).heap[q]? = w.heap[q]? := fun q hq hql => hoth q hql fun e => hcb u hmem q hq (by rw [e]; rfl)
        refine ⟨u, hu, ?_⟩
        match j, hj with
        | 0, hj =>
          cases hj
          obtain ⟨p, arr, T, fz, p2, arr2, T2, fz2, rfl, h2, rfl, h3, h4, h5, h6⟩ := hr
          refine ⟨p, _, T, fz, p2, arr2, T2, fz2, rfl, ?_, rfl, ?_, h4, h5, fun j d hj => let ⟨u, hu, hq⟩ := h6 j d hj; ⟨u, hu, hrd hq⟩⟩
          · rw [hblk p (.inl rfl) (Array.getElem?_eq_some_iff.1 h2).1]; exact h2
          · rw [hblk p2 (.inr ⟨p, _, T, fz, ⟨p2, 0, none⟩, rfl, h2, by simp, rfl⟩) (Array.getElem?_eq_some_iff.1 h3).1]; exact h3
        | 1, hj =>
          cases hj
          obtain ⟨p, arr, T, fz, rfl, h2, h3, h4⟩ := hr
          refine ⟨p, arr, T, fz, rfl, ?_, h3, fun j d hj => let ⟨u, hu, hq⟩ := h4 j d hj; ⟨u, hu, hrd hq⟩⟩
          rw [hblk p (.inl rfl) (Array.getElem?_eq_some_iff.1 h2).1]; exact h2
        | j + 2, hj => simp at hj
      refine (hcalls (sortWorld encF w g 0 m' dk os) ok (#[encF x, encF y] ++ cv) ⟨by simp [hcs], fun j a hj => ?_⟩).mono fun e w' => ?_
      · match j, hj with
        | 0, hj => cases hj; exact ⟨encF x, by rw [Array.getElem?_append_left (by simp)]; rfl, .int _ _⟩
        | 1, hj => cases hj; exact ⟨encF y, by rw [Array.getElem?_append_left (by simp)]; rfl, .int _ _⟩
        | j + 2, hj =>
          obtain ⟨u, hu, hr⟩ := hcap j a (by simpa using hj)
          exact ⟨u, by rw [Array.getElem?_append_right (by simp)]; simpa using hu, hr⟩
      · rintro ⟨u, rfl, ⟨ow, hr⟩, hgw⟩
        have hr2 : Reads (fun q => (ok q ∨ (sortWorld encF w g 0 m' dk os).heap.size ≤ q) ∧ ow ≠ some q) w' (.int .i64 (cfI ps b x.val y.val)) u := hr
        rw [reads_int hr2]
        exact ⟨rfl, grows_eq hgw⟩
    have hS := Any.slices_SortFunc_total Go.Proofs.Tryz.sortI encF (fun _ => rfl) cf hO F.__kd_builder__node_1 cv g 0 cap dl.toArray w (enters_ok (by kernel_rfl)) hcmp hH hgl (by simpa [hdll] using hlen) hT
    change Calls prog F.slices_SortFunc___int_int_ _ _ _ at hS
    have hsize : dl.toArray.size = is.length := by simp [hdll]
    rw [hsize] at hS
    refine hS.mono fun e w' => ?_
    rintro ⟨rfl, n, os, rfl⟩
    rw [sortF]
    have hsr : ((dl.mergeSort fun x y => !(ltOf cf) y x).map fun i => i.val) = srt (le3 ps b) is := by
      refine srt3_one ?_ ?_
      · have := (List.mergeSort_perm dl fun x y => !(ltOf cf) y x).map (fun i => i.val)
        rw [hdl] at this; exact this
      · have h1 := List.pairwise_mergeSort (le := fun x y => !(ltOf cf) y x) (fun x y z h1 h2 => by
          rw [Bool.not_eq_true'] at h1 h2 ⊢; rw [hltF] at h1 h2 ⊢; exact le3_trans h1 h2) (fun x y => by
          rw [Bool.or_eq_true, Bool.not_eq_true', Bool.not_eq_true', hltF, hltF]; exact le3_tot) dl
        rw [List.pairwise_map]
        exact h1.imp fun h => by rw [Bool.not_eq_true', hltF] at h; exact h
    have hsI : ((dl.mergeSort fun x y => !(ltOf cf) y x).toArray.map fun i => (i.val : Int)) = (iz (srt (le3 ps b) is)).toArray := by
      rw [← hsr, iz, List.map_map, List.map_toArray]; rfl
    have hsl : (iz (srt (le3 ps b) is)).length = is.length := by rw [iz_len, srt_len]
    have hdata : (dl.toArray.toList.mergeSort fun x y => !(ltOf cf) y x) = (dl.mergeSort fun x y => !(ltOf cf) y x) := rfl
    rw [hdata, hsI]
    refine ⟨rfl, ⟨grownBy_sortedI _, by simp [grow, putRow, mapBlock, Sort.ahead]⟩, _, _, rfl, (iz (srt (le3 ps b) is)).map (Value.int .i64), ⟨by rw [List.length_map, hsl, iz_len, Nat.mul_one], .inr ⟨g, cap, _, by rw [iz_len], trivial, heap_sortedI _ hb, by rw [iz_len]; exact hn, hcap, by simp [putCells]; exact hsz, ?_⟩⟩, by simp, int_reads⟩
    rw [Nat.mul_one, iz_len, ← hsl]
    exact take_putCellsI cur _ (by rw [hsl]; omega)
end Go.Px.Na

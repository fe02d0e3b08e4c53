/- Kz: the comparison of what is found, and rows of it that the library sorts, of twelve at most. -/
import Derived.Test.YtejnnginkadecaaGreatKk
import Derived.Test.YtejnnginkadecaaGreatKn
import Derived.Test.YtejnnginkadecaaGreatKx
import Derived.Test.YtejnnginkadecaaGreatKh
import Derived.Shelf.SlSortCmp.SmallK
set_option maxRecDepth 20000
set_option maxHeartbeats 4000000
set_option linter.unusedVariables false
set_option linter.unusedSimpArgs false
namespace Go.Px.Na
open Go.RowKit Go.Sort Go.Proofs
open Go.Proofs.Tryz (prog)
def cfF (f g : FD) : Int := if bhd f g then 1 else -1
theorem f_cmpF {L : Nat} {f g : FD} (hf : Sm L f.far) (hg : Sm L g.far) (hl : L ≤ LL) : PureCalls prog F.kd_Nearest_1 [.agg f.l, .agg g.l] [.one (.int .i64 (cfF f g))] := by
  refine symFunc_sound hmix tree_kd_Nearest_1 (by kernel_rfl) rfl ?_
  unfold ir_kd_Nearest_1
  simp only [flatAll, List.flatMap_cons, List.flatMap_nil, AV.flat, List.cons_append, List.nil_append, List.append_nil, FD.l, gD]
  refine call_step (f_behind hf hg hl) rfl ?_
  simp only [HH, gW, gD, V3.l, M4.l, Fr.l, Sp.l, RV.l, RM.l, RF.l, RS.l]
  refine itD rfl (fun c => ?_) (fun c => ?_)
  · exact ret_step (by unfold cfF; rw [if_pos c]; rfl)
  · exact ret_step (by unfold cfF; rw [if_neg c]; rfl)
/-- The one stands ahead of the other. -/
def ahdF (f g : FD) : Bool := decide (bhd g f)
theorem bhd_trans {f g h : FD} (h1 : bhd f g) (h2 : bhd g h) : bhd f h := by
  rcases h1 with h1 | ⟨h1, g1⟩ <;> rcases h2 with h2 | ⟨h2, g2⟩
  · exact .inl (by grind)
  · exact .inl (h2 ▸ h1)
  · exact .inl (h1 ▸ h2)
  · exact .inr ⟨h1.trans h2, by omega⟩
theorem bhd_irr {f : FD} : ¬bhd f f := fun h => h.elim (fun h => Rat.lt_irrefl h) fun h => Int.lt_irrefl _ h.2
theorem bhd_tot {f g : FD} (h : ¬bhd f g) (h2 : ¬bhd g f) : f.far = g.far ∧ f.pt = g.pt := by
  have t : ∀ x y : Rat, x < y ∨ x = y ∨ y < x := fun x y => by grind
  rcases t f.far g.far with e | e | e
  · exact absurd (.inl e) h2
  · refine ⟨e, ?_⟩
    have a : ¬g.pt < f.pt := fun z => h (.inr ⟨e, z⟩)
    have b : ¬f.pt < g.pt := fun z => h2 (.inr ⟨e.symm, z⟩)
    omega
  · exact absurd (.inl e) h
theorem bhd_ntrans {f g h : FD} (h1 : ¬bhd f g) (h2 : ¬bhd g h) : ¬bhd f h := fun z => by
  by_cases a : bhd h g
  · exact h1 (bhd_trans z a)
  · have e := bhd_tot h2 a
    rcases z with z | ⟨z, z2⟩
    · exact h1 (.inl (by rw [e.1]; exact z))
    · exact h1 (.inr ⟨by rw [e.1]; exact z, by rw [e.2]; exact z2⟩)
theorem bhd_anti {f g : FD} (h : ¬bhd f g) (h2 : ¬bhd g f) : f = g := by
  obtain ⟨e1, e2⟩ := bhd_tot h h2
  cases f; cases g; simp only at e1 e2; subst e1; subst e2; rfl
def insF (x : FD) : List FD → List FD
  | [] => [x]
  | y :: r => if bhd x y then y :: insF x r else x :: y :: r
/-- What is found, in order. -/
def srtF : List FD → List FD
  | [] => []
  | x :: r => insF x (srtF r)
theorem insF_perm (x : FD) : ∀ l, (insF x l).Perm (x :: l)
  | [] => .refl _
  | y :: r => by
    unfold insF
    split
    · exact ((insF_perm x r).cons y).trans (.swap x y r)
    · exact .refl _
theorem srtF_perm : ∀ l, (srtF l).Perm l
  | [] => .refl _
  | x :: r => (insF_perm x _).trans ((srtF_perm r).cons x)
theorem insF_sorted (x : FD) : ∀ l, l.Pairwise (fun f g => ¬bhd f g) → (insF x l).Pairwise (fun f g => ¬bhd f g)
  | [], _ => by simp [insF]
  | y :: r, h => by
    have h2 := List.pairwise_cons.1 h
    unfold insF
    split
    · rename_i hxy
      refine List.pairwise_cons.2 ⟨fun z hz => ?_, insF_sorted x r h2.2⟩
      rcases List.mem_cons.1 ((insF_perm x r).mem_iff.1 hz) with rfl | hz
      · exact fun z => bhd_irr (bhd_trans z hxy)
      · exact h2.1 z hz
    · rename_i hxy
      refine List.pairwise_cons.2 ⟨fun z hz => ?_, h⟩
      rcases List.mem_cons.1 hz with rfl | hz
      · exact hxy
      · exact bhd_ntrans hxy (h2.1 z hz)
theorem srtF_sorted : ∀ l, (srtF l).Pairwise (fun f g => ¬bhd f g)
  | [] => .nil
  | x :: r => insF_sorted x _ (srtF_sorted r)
theorem srtF_one : ∀ {l l' : List FD}, l.Perm l' → l.Pairwise (fun f g => ¬bhd f g) → l'.Pairwise (fun f g => ¬bhd f g) → l = l'
  | [], l', h, _, _ => by rw [List.nil_perm.1 h]
  | x :: r, [], h, _, _ => by cases List.perm_nil.1 h
  | x :: r, y :: q, h, h1, h2 => by
    have g1 := List.pairwise_cons.1 h1
    have g2 := List.pairwise_cons.1 h2
    have hxy : x = y := by
      rcases List.mem_cons.1 (h.mem_iff.1 (List.mem_cons_self ..)) with e | hx
      · exact e
      · rcases List.mem_cons.1 (h.mem_iff.2 (List.mem_cons_self ..)) with e | hy
        · exact e.symm
        · exact bhd_anti (g1.1 y hy) (g2.1 x hx)
    subst hxy
    rw [srtF_one ((List.perm_cons x).1 h) g1.2 g2.2]

/-! ### Rows of cells, sorted -/
theorem holds_V {w : World} {g : Nat} {cur : Array Value} {e : TypeId} {xs : List Value} (hb : w.heap[g]? = some (.cells cur e (0, 0))) (ht : cur.toList.take xs.length = xs) : Holds id w g 0 xs.toArray := by
  intro j hj
  have hj' : j < xs.length := by simpa using hj
  refine ⟨?_, by simp [World.frozen?, hb]⟩
  have h1 : (cur.toList.take xs.length)[j]? = xs[j]? := by rw [ht]
  rw [List.getElem?_take_of_lt hj'] at h1
  simp only [World.cell?, hb, Nat.zero_add, Option.isSome_none, Bool.false_eq_true, if_false, id]
  rw [← Array.getElem?_toList, h1]
  simp [hj']
theorem heap_V {w : World} {g n : Nat} {os : Array Obj} {cur : Array Value} {e : TypeId} {fr : Nat × Nat} (d : Array Value) (hb : w.heap[g]? = some (.cells cur e fr)) :
    (grow (putRow id (Sort.ahead w n) g 0 d) os).heap[g]? = some (.cells (putCells id 0 d cur) e fr) := by
  have hg : g < w.heap.size := (Array.getElem?_eq_some_iff.1 hb).1
  rw [heap_grow_old _ _ (by simpa using hg)]
  simp [putRow, mapBlock, Sort.ahead, Array.getElem?_modify, hb, onCells]
theorem grown_V {w : World} {g n : Nat} {os : Array Obj} (d : Array Value) : w.grownBy (grow (putRow id (Sort.ahead w n) g 0 d) os) (some g) := by
  refine ⟨rfl, rfl, rfl, by simp, fun k hk hne => ?_⟩
  rw [heap_grow_old _ _ (by simpa using hk)]
  have : g ≠ k := fun e => hne (by rw [e])
  simp [putRow, mapBlock, Sort.ahead, Array.getElem?_modify, this]
theorem take_V (cur : Array Value) (d : Array Value) (h : d.size ≤ cur.size) : (putCells id 0 d cur).toList.take d.size = d.toList := by
  apply List.ext_getElem?
  intro j
  by_cases hj : j < d.size
  · rw [List.getElem?_take_of_lt hj, Array.getElem?_toList]
    simp [putCells, hj, show j < cur.size by omega]
  · rw [List.getElem?_take_eq_none (by omega), List.getElem?_eq_none (by simp; omega)]
theorem one_cell {ok : Nat → Prop} {w : World} {d : DV} {u : Value} (h : Reads ok w d u) : u.oneCell' = true := by
  cases h <;> rfl

/-- THE LIBRARY'S SORT of up to b elements of k cells, by a comparison that answers as an order does wherever two are not one. -/
def SortsK (P : Program) (f : FuncId) (k b : Nat) : Prop := ∀ (m : Nat) (enc : Fin (m + 1) → List Value), (∀ x, (enc x).length = k) → (∀ x, ∀ v ∈ enc x, v.oneCell' = true) → ∀ (cf : Fin (m + 1) → Fin (m + 1) → Int) (lu : Fin (m + 1) → Fin (m + 1) → Bool), SWO lu → (∀ x y, x ≠ y → ltOf cf x y = lu x y) →
  ∀ (g : Nat) (cb : Array Value) (blk cap : Nat) (d : Array (Fin (m + 1))) (w : World), Nd d → d.size ≤ b → (∀ args w, (callFunc g args).run P w = .ok (.enter g args) w) → CmpLays P g cb enc k cf blk 0 d.size w → HoldsK enc k w blk 0 d → blk < w.heap.size →
  Calls P f #[.slice (some ⟨blk, 0, none⟩) d.size cap, .func (.func g) #[] cb] w fun e w' => e = .returned (.tuple #[]) ∧ ∃ d' n os, PermIn 0 d.size d d' ∧ SortedIn lu 0 d.size d' ∧ w' = sortWorldK enc k w blk 0 n d' os
theorem t_sortF {L b : Nat} {E : TypeId} (hS : SortsK prog F.slices_SortFunc___kd_found_kd_found_ 4 b) (hnone : ∀ (p : Option Addr) (cap : Nat) (fv : Value) (w : World), Calls prog F.slices_SortFunc___kd_found_kd_found_ #[.slice p 0 cap, fv] w fun e w' => e = .returned (.tuple #[]) ∧ w' = w)
    {h : List FD} (hF : Fars L h) (hl : L ≤ LL) (hnd : (h.map FD.pt).Nodup) (hlen : h.length ≤ b) :
    SortCalls prog F.slices_SortFunc___kd_found_kd_found_ 4 E F.kd_Nearest_1 [] h.length (h.flatMap FD.l) ((srtF h).flatMap FD.l) := by
  refine ⟨fn_okK (by kernel_rfl), fun w ok v cv hrow hnok hcaps hcb => ?_⟩
  have hrow0 := hrow
  obtain ⟨n', cells', he, xs, hown, hxl, hxc⟩ := hrow
  simp only [DV.list.injEq] at he
  obtain ⟨rfl, rfl⟩ := he
  have hcv : cv = #[] := Array.eq_empty_of_size_eq_zero (by have := hcaps.1; simpa using this)
  subst hcv
  have hfl := fm_len fd_len h
  have hx4 : xs.length = h.length * 4 := by rw [hxl, hfl]
  by_cases hne : h = []
  · subst hne
    have hv : ∃ p cap, v = .slice p 0 cap := by
      rcases hown.2 with ⟨rfl, _⟩ | ⟨g, cap, cur, rfl, _⟩
      · exact ⟨_, _, rfl⟩
      · exact ⟨_, _, rfl⟩
    obtain ⟨p, cap, rfl⟩ := hv
    refine (hnone p cap _ w).mono fun e w' => ?_
    rintro ⟨rfl, rfl⟩
    exact ⟨rfl, ⟨⟨rfl, rfl, rfl, Nat.le_refl _, fun k _ _ => rfl⟩, Nat.le_refl _⟩, hrow0⟩
  rcases hown.2 with ⟨rfl, h0⟩ | ⟨g, cap, cur, rfl, _, hb, hn, hcap, hsz, ht⟩
  · exact absurd (List.eq_nil_of_length_eq_zero h0) hne
  obtain ⟨m, hm⟩ : ∃ m, h.length = m + 1 := ⟨h.length - 1, by have := List.length_pos_iff.2 hne; omega⟩
  have hgl : g < w.heap.size := (Array.getElem?_eq_some_iff.1 hb).1
  have hg : ¬ok g := hnok g rfl
  let el : Fin (m + 1) → FD := fun i => h.getD i.val default
  have hel : ∀ i : Fin (m + 1), h[i.val]? = some (el i) := fun i => fd_at (by omega)
  let enc : Fin (m + 1) → List Value := fun i => (xs.drop (4 * i.val)).take 4
  have henc : ∀ x, (enc x).length = 4 := fun x => by
    show ((xs.drop (4 * x.val)).take 4).length = 4
    rw [List.length_take, List.length_drop]; omega
  have hcell : ∀ (i : Fin (m + 1)) (j : Nat), j < 4 → (enc i)[j]? = xs[4 * i.val + j]? := fun i j hj => by
    show ((xs.drop (4 * i.val)).take 4)[j]? = _
    rw [List.getElem?_take_of_lt hj, List.getElem?_drop]
  have hread : ∀ (i : Fin (m + 1)) (j : Nat) (d : DV), (el i).l[j]? = some d → ∃ u, (enc i)[j]? = some u ∧ Reads ok w d u := fun i j d hd => by
    have hj : j < 4 := by have := (List.getElem?_eq_some_iff.1 hd).1; rwa [fd_len] at this
    have h1 := fm_get fd_len j (hel i) hj
    rw [hd] at h1
    obtain ⟨u, hu, hr⟩ := hxc (i.val * 4 + j) d h1
    exact ⟨u, by rw [hcell i j hj, Nat.mul_comm]; exact hu, hr⟩
  have hone : ∀ x, ∀ v ∈ enc x, v.oneCell' = true := fun x v hv => by
    obtain ⟨j, hj⟩ := List.mem_iff_getElem?.1 hv
    have hjl : j < 4 := by have := (List.getElem?_eq_some_iff.1 hj).1; rwa [henc] at this
    obtain ⟨d, hd⟩ : ∃ d, (el x).l[j]? = some d := ⟨_, List.getElem?_eq_getElem (by rw [fd_len]; exact hjl)⟩
    obtain ⟨u, hu, hr⟩ := hread x j d hd
    rw [hj] at hu; cases hu
    exact one_cell hr
  let cf : Fin (m + 1) → Fin (m + 1) → Int := fun x y => cfF (el x) (el y)
  let lu : Fin (m + 1) → Fin (m + 1) → Bool := fun x y => ahdF (el x) (el y)
  have hluT : ∀ x y, lu x y = true ↔ bhd (el y) (el x) := fun x y => by show decide _ = true ↔ _; rw [decide_eq_true_iff]
  have hluF : ∀ x y, lu x y = false ↔ ¬bhd (el y) (el x) := fun x y => by show decide _ = false ↔ _; rw [decide_eq_false_iff_not]
  have hO : SWO lu := ⟨fun x => (hluF x x).2 bhd_irr, fun x y z h1 h2 => (hluT x z).2 (bhd_trans ((hluT y z).1 h2) ((hluT x y).1 h1)), fun x y z h1 h2 => (hluF x z).2 (bhd_ntrans ((hluF y z).1 h2) ((hluF x y).1 h1))⟩
  have helu : ∀ x y, x ≠ y → ltOf cf x y = lu x y := fun x y hxy => by
    have hp : ¬((el x).far = (el y).far ∧ (el x).pt = (el y).pt) := fun e => by
      have h1 := hel x
      have h2 := hel y
      rw [List.nodup_iff_pairwise_ne, List.pairwise_iff_getElem] at hnd
      have e1 : ∀ i : Fin (m + 1), ∀ hi : i.val < (h.map FD.pt).length, (h.map FD.pt)[i.val] = (el i).pt := fun i hi => by
        have := hel i
        rw [List.getElem?_eq_getElem (by omega)] at this
        rw [List.getElem_map, Option.some.inj this]
      have hx := x.isLt
      have hy := y.isLt
      rcases Nat.lt_or_ge x.val y.val with q | q
      · exact hnd x.val y.val (by simp; omega) (by simp; omega) q (by rw [e1, e1]; exact e.2)
      · exact hnd y.val x.val (by simp; omega) (by simp; omega) (by omega) (by rw [e1, e1]; exact e.2.symm)
    by_cases c : bhd (el x) (el y)
    · have : ¬bhd (el y) (el x) := fun z => bhd_irr (bhd_trans c z)
      rw [(hluF x y).2 this]
      show decide (cfF (el x) (el y) < 0) = false
      unfold cfF; rw [if_pos c]; rfl
    · have : bhd (el y) (el x) := Classical.byContradiction fun z => hp (bhd_tot c z)
      rw [(hluT x y).2 this]
      show decide (cfF (el x) (el y) < 0) = true
      unfold cfF; rw [if_neg c]; rfl
  let d : Array (Fin (m + 1)) := (List.finRange (m + 1)).toArray
  have hds : d.size = m + 1 := by simp [d]
  have hdg : ∀ i, i < m + 1 → d[i]! = (⟨i % (m + 1), Nat.mod_lt _ (by omega)⟩ : Fin (m + 1)) := fun i hi => by
    rw [getElem!_pos d i (by omega)]
    refine Fin.ext ?_
    simp [d, Nat.mod_eq_of_lt hi]
  have hdv : ∀ i, i < m + 1 → (d[i]!).val = i := fun i hi => by rw [hdg i hi]; exact Nat.mod_eq_of_lt hi
  have hnd2 : Nd d := fun i j hi hj hij e => hij (by rw [← hdv i (by omega), ← hdv j (by omega), e])
  have hflat : flatK enc 4 d = xs.toArray := by
    refine ext_get! (by simp [hds, hx4, hm]) fun t ht2 => ?_
    have ht3 : t < d.size * 4 := by simpa using ht2
    rw [get_flatK _ _ _ t ht3]
    have e1 := hdv (t / 4) (by omega)
    generalize d[t / 4]! = q at e1 ⊢
    have e2 := hcell q (t % 4) (Nat.mod_lt _ (by decide))
    rw [e1, show 4 * (t / 4) + t % 4 = t by omega] at e2
    have htx : t < xs.length := by omega
    rw [List.getElem?_eq_getElem htx] at e2
    rw [getElem!_pos xs.toArray t (by simpa using htx)]
    rw [List.getElem!_eq_getElem?_getD, e2]
    simp
  have hH : HoldsK enc 4 w g 0 d := by
    show Holds id w g 0 (flatK enc 4 d)
    rw [hflat]
    exact holds_V hb (by rw [hx4]; exact ht)
  have hoth : ∀ (m' : Nat) (os : Array Obj) (dk : Array (Fin (m + 1))) (k : Nat), k < w.heap.size → g ≠ k → (sortWorldK enc 4 w g 0 m' dk os).heap[k]? = w.heap[k]? := fun m' os dk k hk hne =>
    (grown_V (w := w) (g := g) (n := m') (os := os) (flatK enc 4 dk)).block k hk fun e => hne (Option.some.inj e).symm
  have hrd : ∀ (m' : Nat) (os : Array Obj) (dk : Array (Fin (m + 1))) {d : DV} {u : Value}, Reads ok w d u → Reads ok (sortWorldK enc 4 w g 0 m' dk os) d u := fun m' os dk d u hr => hr.imp fun k o h1 h2 => ⟨h1, by
    rw [hoth m' os dk k (Array.getElem?_eq_some_iff.1 h2).1 (fun e => hg (e ▸ h1))]; exact h2⟩
  have hcmp : CmpLays prog F.kd_Nearest_1 #[] enc 4 cf g 0 d.size w := fun m' os dk hdk x y => by
    have hsx : Sm L (el x).far := hF _ (List.mem_of_getElem? (hel x))
    have hsy : Sm L (el y).far := hF _ (List.mem_of_getElem? (hel y))
    obtain ⟨_, hcalls⟩ := f_cmpF hsx hsy hl
    have hrep : ∀ z : Fin (m + 1), RepAV ok (sortWorldK enc 4 w g 0 m' dk os) (.agg (el z).l) (.agg (enc z).toArray) := fun z => ⟨(enc z).toArray, rfl, by rw [fd_len]; simpa using henc z, fun j dd hj => by
      obtain ⟨u, hu, hr⟩ := hread z j dd hj
      exact ⟨u, by simpa using hu, hrd m' os dk hr⟩⟩
    refine (hcalls (sortWorldK enc 4 w g 0 m' dk os) ok (#[.agg (enc x).toArray, .agg (enc y).toArray] ++ #[]) ⟨by simp, fun j a hj => ?_⟩).mono fun e w' => ?_
    · match j, hj with
      | 0, hj => cases hj; exact ⟨_, rfl, hrep x⟩
      | 1, hj => cases hj; exact ⟨_, rfl, hrep y⟩
      | j + 2, hj => simp at hj
    · rintro ⟨u, rfl, ⟨ow, hr⟩, hgw⟩
      have hr2 : Reads (fun q => (ok q ∨ (sortWorldK enc 4 w g 0 m' dk os).heap.size ≤ q) ∧ ow ≠ some q) w' (.int .i64 (cfF (el x) (el y))) u := hr
      rw [reads_int hr2]
      exact ⟨rfl, grows_eq hgw⟩
  have hK := hS m enc henc hone cf lu hO helu F.kd_Nearest_1 #[] g cap d w hnd2 (by omega) (enters_ok (by kernel_rfl)) hcmp hH hgl
  have hdh : d.size = h.length := by omega
  rw [hdh] at hK
  refine hK.mono fun e w' => ?_
  rintro ⟨rfl, d', n, os, hp, hso, rfl⟩
  have hds' : d'.size = m + 1 := by rw [hp.1, hds]
  have hpl : d'.toList.Perm (List.finRange (m + 1)) := by
    have := hp.2.2
    rw [← hdh, Array.extract_size, show d'.extract 0 d.size = d' by rw [← hp.1, Array.extract_size]] at this
    simpa [d] using this
  have hh : (List.finRange (m + 1)).map el = h := by
    refine List.ext_getElem? fun j => ?_
    by_cases hj : j < m + 1
    · rw [List.getElem?_map, List.getElem?_eq_getElem (by simpa using hj)]
      have := hel ⟨j, hj⟩
      simp only at this
      rw [this]
      simp
    · rw [List.getElem?_eq_none (by simp; omega), List.getElem?_eq_none (by omega)]
  have hsr : d'.toList.map el = srtF h := by
    refine srtF_one ?_ ?_ (srtF_sorted h)
    · have := hpl.map el
      rw [hh] at this
      exact this.trans (srtF_perm h).symm
    · rw [List.pairwise_map, List.pairwise_iff_getElem]
      intro i j hi hj hij
      have hi' : i < d'.size := by simpa using hi
      have hj' : j < d'.size := by simpa using hj
      have := (hluF _ _).1 (hso i j (Nat.zero_le _) hij (by omega))
      rw [getElem!_pos d' i hi', getElem!_pos d' j hj'] at this
      simpa using this
  have hsl : (srtF h).length = h.length := (srtF_perm h).length_eq
  have hfs : (flatK enc 4 d').size = h.length * 4 := by simp [hds', hm]
  refine ⟨rfl, ⟨grown_V _, by simp [sortWorldK, putRowK, grow, putRow, mapBlock, Sort.ahead]⟩, _, _, rfl, (flatK enc 4 d').toList, ⟨by simpa using hfs, .inr ⟨g, cap, _, rfl, trivial, heap_V _ hb, hn, hcap, by simp [putCells]; exact hsz, ?_⟩⟩, ?_, fun j dd hj => ?_⟩
  · rw [← hfs]
    exact take_V cur _ (by rw [hfs]; exact Nat.le_trans (Nat.mul_le_mul_right _ hn) hsz)
  · rw [fm_len fd_len, hsl]; simpa using hfs
  · have hjl : j < h.length * 4 := by
      have := (List.getElem?_eq_some_iff.1 hj).1
      rwa [fm_len fd_len, hsl] at this
    have hi : j / 4 < d'.size := by omega
    have hg4 : (srtF h)[j / 4]? = some (el d'[j / 4]!) := by
      rw [← hsr, List.getElem?_map, getElem!_pos d' _ hi]
      simp [hi]
    have := fm_get fd_len (j % 4) hg4 (Nat.mod_lt _ (by decide))
    rw [show j / 4 * 4 + j % 4 = j by omega, hj] at this
    obtain ⟨u, hu, hr⟩ := hread (d'[j / 4]!) (j % 4) dd this.symm
    refine ⟨u, ?_, hrd n os d' hr⟩
    have hjd : j < d'.size * 4 := by omega
    have hgf := get_flatK enc 4 d' j hjd
    rw [getElem!_pos _ j (by rw [hfs]; exact hjl)] at hgf
    rw [Array.getElem?_toList, Array.getElem?_eq_getElem (by rw [hfs]; exact hjl), hgf]
    rw [List.getElem!_eq_getElem?_getD, hu]
    rfl
/-- Up to twelve. -/
theorem sorts_12 : SortsK prog F.slices_SortFunc___kd_found_kd_found_ 4 12 := by
  intro m enc hk h1 cf lu hO he g cb blk cap d w hn hb eg hcmp hH hblk
  have hL := Go.Proofs.Tryz.sortF
  refine (AnyQ.slices_SortFunc_small hL 4 (fun _ => rfl) (fun _ => rfl) enc hk h1 cf g cb blk 0 cap d w eg hcmp hH hblk hb (fun n W hn => ?_)).mono fun e w' => ?_
  · have h := Any.bits_Len (SlLaysF0.n15.bits (P := prog) (ρ := Go.Proofs.Tryz.sortF_ren) { hL with }) (n : Int) W (by omega) (by omega)
    exact h.mono fun e w' ⟨a, b⟩ => ⟨⟨_, a⟩, b⟩
  · rintro ⟨rfl, n, os, rfl⟩
    rw [insertionSort_eq he (Nat.le_refl _) hn]
    have := insertionSort_holds (lt := lu) hO d 0 d.size (Nat.zero_le _) (Nat.le_refl _)
    exact ⟨rfl, _, n, os, this.1, this.2, rfl⟩
theorem sorts_none (p : Option Addr) (cap : Nat) (fv : Value) (w : World) : Calls prog F.slices_SortFunc___kd_found_kd_found_ #[.slice p 0 cap, fv] w fun e w' => e = .returned (.tuple #[]) ∧ w' = w :=
  AnyF.slices_SortFunc_none Go.Proofs.Tryz.sortF p cap fv w
end Go.Px.Na

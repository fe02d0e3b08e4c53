/- Px9: one operation, part seven: appending. -/
import Derived.Test.YtgnhhdgepnfnmaaPx8
set_option linter.unusedSimpArgs false
set_option linter.unusedVariables false
namespace Go.Px
open Go.RowKit

section
variable {P : Program} {w : World}

/-- Nothing is appended: the slice stays. -/
theorem run_append_zero {t ty e : TypeId} {i : TypeInfo} (ht : P.underlying t = some (.slice e)) (hi : P.info? e = some i) (b a : Option Addr) (n cap c : Nat) (hn : n ≤ cap) :
    (Builtin.append_ #[t, t] ty #[.slice b n cap, .slice a 0 c]).run P w = .ok (.slice b n cap) w := by
  cases b <;> cases a <;> simp [Builtin.append_, run_underlying ht, sizeOf, typeInfo, hi, Builtin.lenOf, Builtin.firstCells, loadCells, loadCellsFrom, hn, storeCells]

theorem zeros_row {z : Value} {e : TypeId} {size n : Nat} {xs news : List Value} {cap : Nat} (hzs : z.cells.size = size) (hl : (xs ++ news).length = n * size) (hge : n ≤ cap) :
    (xs.toArray ++ news.toArray ++ Builtin.zeroCells z.cells (cap - n)).size = cap * size ∧ (xs.toArray ++ news.toArray ++ Builtin.zeroCells z.cells (cap - n)).toList.take (n * size) = xs ++ news := by
  constructor
  · simp only [Array.size_append, List.size_toArray, size_zeroCells, hzs]
    simp only [List.length_append] at hl
    rw [hl, ← Nat.add_mul]
    congr 1; omega
  · simp only [Array.toList_append]
    rw [← hl]
    exact List.take_left

/-- A row of the call's own, appended to: it is still one; its block is the old one, or new. -/
theorem run_append_own2 (base : Nat) {t ty e : TypeId} {i : TypeInfo} {z : Value} {size bytes : Nat} (ht : P.underlying t = some (.slice e)) (hi : P.info? e = some i) (hz : i.zero = some z)
    (hsize : i.size = size) (hby : i.bytes = bytes) (hzs : z.cells.size = size) (hsz : 0 < size) (hb0 : 0 < bytes)
    {v : Value} {n : Nat} {xs : List Value} (hown : w.ownsR base e size v n xs)
    (a : Addr) (m c : Nat) (news : List Value) (hl : news.length = m * size) (hnews : ∀ j u, news[j]? = some u → w.cell? (a.add j) = some u) (h1 : ∀ u ∈ news, u.oneCell' = true)
    (hbytes : (n + m) * bytes ≤ 70368744177664) (hbase : base ≤ w.heap.size) :
    ∃ v' w', (Builtin.append_ #[t, t] ty #[v, .slice (some a) m c]).run P w = .ok v' w' ∧ w'.ownsR base e size v' (n + m) (xs ++ news) ∧ w.grownBy w' (blockOf v) ∧
      ∀ b, blockOf v' = some b → w.heap.size ≤ b ∨ blockOf v = some b := by
  subst hsize
  subst hby
  have hnm : n + m ≤ (n + m) * i.bytes := Nat.le_mul_of_pos_right _ hb0
  have h63 : n + m ≤ maxLen := by unfold maxLen; omega
  have hlen : (xs ++ news).length = (n + m) * i.size := by rw [List.length_append, hown.1, hl, Nat.add_mul]
  -- what a row that was made anew owns
  have fresh : ∀ (old : Nat), old < n + m → ∀ (row : Option Nat), let cap := grownCap w (n + m) old e
      (w.drew.alloc (.cells (xs.toArray ++ news.toArray ++ Builtin.zeroCells z.cells (cap - (n + m))) e)).ownsR base e i.size (.slice (some ⟨w.heap.size, 0, none⟩) (n + m) cap) (n + m) (xs ++ news) ∧
      w.grownBy (w.drew.alloc (.cells (xs.toArray ++ news.toArray ++ Builtin.zeroCells z.cells (cap - (n + m))) e)) row := by
    intro old ho row cap
    have hge : n + m ≤ cap := grownCap_ge w (n + m) old e
    obtain ⟨r1, r2⟩ := zeros_row (e := e) hzs hlen hge
    exact ⟨⟨hlen, .inr ⟨w.heap.size, cap, _, rfl, hbase, heap_alloc_new w.drew _, hge, grownCap_le_maxLen w (n + m) old e h63, Nat.le_of_eq r1.symm, r2⟩⟩,
      ⟨rfl, rfl, rfl, by simp, fun k hk _ => heap_alloc_old w.drew _ k hk⟩⟩
  rcases hown.2 with ⟨rfl, rfl⟩ | ⟨g, cap, cur, rfl, hbg, hg, hnc, hcm, hcs, htake⟩
  · have hx : xs = [] := List.eq_nil_of_length_eq_zero (by simpa using hown.1)
    subst hx
    by_cases hm : m = 0
    · subst hm
      have hn : news = [] := List.eq_nil_of_length_eq_zero (by simpa using hl)
      subst hn
      exact ⟨.slice none 0 0, w, run_append_zero ht hi none (some a) 0 0 c (Nat.le_refl _), World.ownsR_nil w base e i.size, ⟨rfl, rfl, rfl, Nat.le_refl _, fun _ _ _ => rfl⟩, fun b hb => by cases hb⟩
    · have hr := run_append_nil (P := P) w t ty e i z ht hi hz a m c news hl hnews (by omega) (by omega) (by simp only [Nat.zero_add] at hbytes; omega)
      obtain ⟨f1, f2⟩ := fresh 0 (by omega) (blockOf (.slice none 0 0))
      simp only [Nat.zero_add, List.nil_append, Array.empty_append] at f1 f2 ⊢
      exact ⟨_, _, hr, f1, f2, fun b hb => by cases hb; exact .inl (Nat.le_refl _)⟩
  · by_cases hroom : n + m ≤ cap
    · have hfit : n * i.size + news.length ≤ cur.size := by rw [hl, ← Nat.add_mul]; exact Nat.le_trans (Nat.mul_le_mul_right _ hroom) hcs
      have hr := run_append_room (P := P) w t ty e i ht hi g n cap cur hg a m c news hl hnews h1 hroom hfit
      refine ⟨_, _, hr, ⟨hlen, .inr ⟨g, cap, _, rfl, hbg, setRow_heap w g cur _ e _ hg, hroom, hcm, ?_, ?_⟩⟩, ⟨rfl, rfl, rfl, by simp, fun k _ hk => setRow_other w g k _ (fun e => hk (by rw [e]; rfl))⟩, fun b hb => .inr hb⟩
      · simp only [List.size_toArray, List.length_append, List.length_take, List.length_drop, Array.length_toList]
        omega
      · rw [htake, ← hlen]
        exact List.take_left
    · have holds : ∀ j u, xs[j]? = some u → w.cell? ((⟨g, 0, none⟩ : Addr).add j) = some u := hown.cells (g := g) rfl
      have hr := run_append_grow (P := P) w t ty e i z ht hi hz ⟨g, 0, none⟩ n cap xs hown.1 holds a m c news hl hnews (by omega) (by omega) (growslice_fits (by omega) (by omega))
      obtain ⟨f1, f2⟩ := fresh cap (by omega) (blockOf (.slice (some ⟨g, 0, none⟩) n cap))
      exact ⟨_, _, hr, f1, f2, fun b hb => by cases hb; exact .inl (Nat.le_refl _)⟩

end
end Go.Px

/- Na2: what the primitives tell of lists of limbs. -/
import Derived.Test.YtgnhhdgepnfnmaaNa1
set_option linter.unusedSimpArgs false
set_option linter.unusedVariables false
namespace Go.Px.Na

theorem den_len (l : List Nat) : Prim.den .len [nl l] = some (.int .i64 (l.length : Int)) := rfl
theorem den_inb {l : List Nat} {k : IntKind} {i : Int} (h0 : 0 ≤ i) (h1 : i < l.length) : Prim.den (.inb 1) [nl l, .int k i] = some (.bool true) := by
  simp only [nl, Prim.den, ul_len]
  rw [if_pos ⟨h0, h1, by omega⟩]
theorem den_get {l : List Nat} {k : IntKind} {i : Int} (h0 : 0 ≤ i) (h1 : i < l.length) : Prim.den (.get 1 0) [nl l, .int k i] = some (.int .u32 ((l.getD i.toNat 0 : Nat) : Int)) := by
  simp only [nl, Prim.den]
  rw [if_pos ⟨h0, h1⟩, show i.toNat * 1 + 0 = i.toNat by omega, ul_getD (by omega)]
theorem den_slc {l : List Nat} {k k' : IntKind} {lo hi : Int} (h0 : 0 ≤ lo) (h1 : lo ≤ hi) (h2 : hi ≤ l.length) : Prim.den (.slc 1) [nl l, .int k lo, .int k' hi] = some (nl ((l.drop lo.toNat).take (hi - lo).toNat)) := by
  simp only [nl, Prim.den]
  rw [if_pos ⟨h0, h1, h2, by simp [ul_len]⟩]
  simp only [Nat.mul_one, ul_drop, ul_take, List.length_take, List.length_drop]
  congr 2
  omega
theorem den_cut {l : List Nat} {k k' : IntKind} {lo hi : Int} (h0 : 0 ≤ lo) (h1 : lo ≤ hi) (h2 : hi ≤ l.length) : Prim.den (.cut 1) [nl l, .int k lo, .int k' hi] = some (.int .i64 (hi - lo)) := by
  simp only [nl, Prim.den]
  rw [if_pos ⟨h0, h1, h2, by simp [ul_len]⟩]
theorem den_lt0 {k k' : IntKind} {i n : Int} (h0 : 0 ≤ i) (h1 : i < n) : Prim.den .lt0 [.int k i, .int k' n] = some (.bool true) := by
  simp only [Prim.den]; rw [if_pos ⟨h0, h1⟩]
theorem den_sum {k k' : IntKind} {i n : Int} : Prim.den .sum [.int k i, .int k' n] = some (.int .i64 (i + n)) := rfl
theorem den_app {a b : List Nat} (h : a.length + b.length ≤ 17592186044416) : Prim.den (.app 1 4) [nl a, nl b] = some (nl (a ++ b)) := by
  simp only [nl, Prim.den]
  rw [if_pos ⟨by simp [ul_len], by simp [ul_len], by omega⟩]
  simp [ul_append]
theorem den_app1 {a : List Nat} {x : Nat} (h : a.length + 1 ≤ 17592186044416) : Prim.den (.app 1 4) [nl a, nl [x]] = some (nl (a ++ [x])) := den_app (by simpa using h)
theorem den_app0 {b : List Nat} (h : b.length ≤ 17592186044416) : Prim.den (.app 1 4) [nl [], nl b] = some (nl b) := den_app (a := []) (by simpa using h)
theorem den_setl {l : List Nat} {k : IntKind} {i : Int} {x : Nat} (h0 : 0 ≤ i) (h1 : i < l.length) : Prim.den (.setl 1 0) [nl l, .int k i, .int .u32 (x : Int)] = some (nl (l.set i.toNat x)) := by
  simp only [nl, Prim.den]
  rw [if_pos ⟨h0, h1, by simp [ul_len]; omega⟩]
  simp [setAt, ul_set]
theorem den_make {n m : Int} (h0 : 0 ≤ n) (h1 : n ≤ m) (h2 : m ≤ 17592186044416) : Prim.den (.make 4) [.int .i64 n, .int .i64 m, .int .u32 0] = some (nl (List.replicate n.toNat 0)) := by
  simp only [Prim.den]
  rw [if_pos ⟨h0, h1, by omega⟩]
  simp only [nl, List.length_cons, List.length_nil, List.length_replicate]
  congr 2
  apply List.ext_getElem?
  intro j
  simp only [ul, List.map_replicate, List.getElem?_map]
  by_cases hj : j < n.toNat
  · rw [List.getElem?_range (by omega), List.getElem?_replicate]
    simp [hj, Nat.mod_one]
  · simp [hj]
theorem den_mk1 (x : Nat) : Prim.den (.mk 1) [.int .u32 (x : Int)] = some (nl [x]) := rfl
theorem den_mk2 (x y : Nat) : Prim.den (.mk 2) [.int .u32 (x : Int), .int .u32 (y : Int)] = some (nl [x, y]) := rfl
theorem den_mk0 : Prim.den (.mk 0) [] = some (nl []) := rfl

theorem wi64 {n : Int} (h0 : -9223372036854775808 ≤ n) (h1 : n < 9223372036854775808) : IntKind.i64.wrap n = n := by
  simp [IntKind.wrap, IntKind.bits, IntKind.signed]; omega
theorem wu64 {n : Int} (h0 : 0 ≤ n) (h1 : n < 18446744073709551616) : IntKind.u64.wrap n = n := by
  simp [IntKind.wrap, IntKind.bits, IntKind.signed]; omega
theorem wu32 {n : Int} (h0 : 0 ≤ n) (h1 : n < 4294967296) : IntKind.u32.wrap n = n := by
  simp [IntKind.wrap, IntKind.bits, IntKind.signed]; omega
theorem wu32' (n : Int) : IntKind.u32.wrap n = n % 4294967296 := by
  simp [IntKind.wrap, IntKind.bits, IntKind.signed]
theorem wu64' (n : Int) : IntKind.u64.wrap n = n % 18446744073709551616 := by
  simp [IntKind.wrap, IntKind.bits, IntKind.signed]

end Go.Px.Na

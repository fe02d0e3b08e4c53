/- Trm: what nat.trim hands back begins where its argument does. -/
import Derived.Test.YtiachglkkfiidaaWn7
import Derived.Test.YtiachglkkfiidaaPx24
import Derived.Test.YtiachglkkfiidaaProg
import Derived.Tactics
import Derived.Tactics2
import Derived.WalkKit
import Derived.Deep.LoopGhost
set_option linter.unusedSimpArgs false
set_option linter.unusedVariables false
namespace Go.Px.Na
open Go.RowKit
open Go.Proofs.Try (prog)

theorem trim_walk (a : List Nat) (ha : WL a) (hl : a.length ≤ 17592186044416) (w : World) (ad : Addr) (cap : Nat) (hcap : a.length ≤ cap) (hc : ∀ j, j < a.length → w.cell? (ad.add j) = some (.int .u32 (a.getD j 0 : Nat))) :
    Calls prog F.nat_trim #[.slice (some ad) a.length cap] w fun e w' => ∃ k, k ≤ a.length ∧ e = .returned (.slice (some ad) k k) ∧ a.take k = limbs (val a) ∧ w' = w := by
  go_enter Go.Proofs.Try.func34, Go.Proofs.Try.ntmps34
  go_wp2
  go_loop [3] (fun n => ∃ k : Nat, k ≤ a.length ∧ n = .int .i64 k ∧ val (a.take k) = val a) (fun n => (intOf n).toNat)
  case atStart => exact ⟨a.length, Nat.le_refl _, rfl, by simp⟩
  case round =>
    obtain ⟨k, hk, rfl, hv⟩ := hrel
    by_cases h0 : 0 < k
    · have h1 := hc (k - 1) (by omega)
      have e1 : (k : Int) - 1 = ((k - 1 : Nat) : Int) := by omega
      by_cases hz : a.getD (k - 1) 0 = 0
      · have hcut := val_cut (l := a) (n := k - 1) (by omega) hz
        rw [show k - 1 + 1 = k by omega] at hcut
        rw [hz] at h1
        go_wp2
        exact ⟨⟨k - 1, by omega, rfl, by rw [hcut, hv]⟩, by simp [intOf]; omega⟩
      · have hlim := limbs_of_take ha hk hv (.inr hz)
        generalize a.getD (k - 1) 0 = x at *
        have hz' : ¬((x : Int) = 0) := by omega
        go_wp2
        go_ret
        exact ⟨k, hk, rfl, hlim, rfl⟩
    · have : k = 0 := by omega
      subst this
      have hlim := limbs_of_take ha hk hv (.inl rfl)
      go_wp2
      go_ret
      exact ⟨0, hk, rfl, hlim, rfl⟩

theorem trim_walk0 (w : World) (cap : Nat) : Calls prog F.nat_trim #[.slice none 0 cap] w fun e w' => e = .returned (.slice none 0 0) ∧ w' = w := by
  go_enter Go.Proofs.Try.func34, Go.Proofs.Try.ntmps34
  go_wp2
  go_loop [3] (fun n => n = .int .i64 0) (fun n => (intOf n).toNat)
  case atStart => exact rfl
  case round =>
    obtain rfl := hrel
    go_wp2
    go_ret
    exact ⟨rfl, rfl⟩

theorem reads_ul {ok : Nat → Prop} {w : World} {a : Option Addr} {n cap : Nat} {l : List Nat} (h : Reads ok w (nl l) (.slice a n cap)) : n = l.length ∧ n ≤ cap ∧ (l ≠ [] → ∃ ad, a = some ad ∧ ok ad.block ∧ ∀ j, j < l.length → w.cell? (ad.add j) = some (.int .u32 (l.getD j 0 : Nat))) := by
  unfold nl at h
  cases h with
  | list n cells a cap f h1 h2 h3 =>
    refine ⟨rfl, h1, fun hne => ?_⟩
    obtain ⟨ad, e1, e2, e3⟩ := h2 (by simp [ul]; exact hne)
    refine ⟨ad, e1, e2, fun j hj => ?_⟩
    have := h3 j (.int .u32 (l.getD j 0 : Nat)) (by simp [ul, hj, List.getD_eq_getElem?_getD])
    have hf : f j = .int .u32 (l.getD j 0 : Nat) := reads_int this
    rw [e3 j (by simpa [ul] using hj), hf]

theorem reads_take {ok : Nat → Prop} {w : World} {ad : Addr} {l : List Nat} {k : Nat} (hok : ok ad.block) (hk : k ≤ l.length) (hc : ∀ j, j < l.length → w.cell? (ad.add j) = some (.int .u32 (l.getD j 0 : Nat))) : Reads ok w (nl (l.take k)) (.slice (some ad) k k) := by
  have hlen : (l.take k).length = k := by simp [hk]
  unfold nl
  rw [hlen]
  refine .list k _ _ k (fun j => .int .u32 (l.getD j 0 : Nat)) (Nat.le_refl _) (fun _ => ⟨ad, rfl, hok, fun j hj => hc j (by simp [ul] at hj; omega)⟩) fun j d hj => ?_
  simp only [ul, List.getElem?_map, List.getElem?_take] at hj
  split at hj
  · rename_i hjk
    have hjl : j < l.length := by omega
    simp [hjl] at hj
    subst hj
    simp only [List.getD_eq_getElem?_getD, List.getElem?_eq_getElem hjl, Option.getD_some]
    exact .int _ _
  · simp at hj

theorem cut_trim : CutTrim prog := by
  intro a ha hl
  refine ⟨⟨_, Go.Proofs.Try.func34, rfl, rfl⟩, fun w ok ad n cap hr => ?_⟩
  obtain ⟨rfl, hcap, hm⟩ := reads_ul hr
  cases ad with
  | none =>
    have h0 : a = [] := by
      by_cases h : a = []
      · exact h
      · obtain ⟨_, e, _⟩ := hm h; cases e
    subst h0
    refine (trim_walk0 w cap).mono ?_
    rintro e w' ⟨rfl, rfl⟩
    refine ⟨0, 0, rfl, Nat.zero_le _, Nat.zero_le _, ?_, ⟨Below.refl _ _, Nat.le_refl _⟩⟩
    show Reads ok w' (nl (limbs (val []))) _
    rw [show val [] = 0 from rfl, limbs_zero]
    exact reads_nil
  | some ad =>
    have hc : ∀ j, j < a.length → w.cell? (ad.add j) = some (.int .u32 (a.getD j 0 : Nat)) := fun j hj => by
      obtain ⟨ad', e, _, h⟩ := hm (by intro h; rw [h] at hj; simp at hj)
      cases e; exact h j hj
    refine (trim_walk a ha hl w ad cap hcap hc).mono ?_
    rintro e w' ⟨k, hk, rfl, ht, rfl⟩
    refine ⟨k, k, rfl, hk, by omega, ?_, ⟨Below.refl _ _, Nat.le_refl _⟩⟩
    show Reads ok w' (nl (limbs (val a))) _
    rw [← ht]
    by_cases h0 : a = []
    · subst h0
      have : k = 0 := by simpa using hk
      subst this
      exact .list 0 [] _ 0 (fun _ => undef) (Nat.le_refl _) (fun h => absurd rfl h) fun j d hj => by simp at hj
    · obtain ⟨ad', e, hok, _⟩ := hm h0
      cases e
      exact reads_take hok hk hc

end Go.Px.Na

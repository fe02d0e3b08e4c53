/- Kj: the library's sort of rows of structs, whole, by a comparison that answers as an order does wherever two are not one. -/
import Derived.Test.YtejnnginkadecaaGreatKz
import Derived.Shelf.SlSortCmp.HeapSortK
import Derived.Shelf.SlSortCmp.PivotK
import Derived.Shelf.SlSortCmp.ReverseRangeK
import Derived.Shelf.SlSortCmp.PartialInsertionK
import Derived.Shelf.SlSortCmp.BreakPatternsK
import Derived.Shelf.SlSortCmp.PartitionEqualK
import Derived.Shelf.SlSortCmp.PartitionK
import Derived.Shelf.SlSortFuncK.PdqK
import Derived.Shelf.SlSortCmp.Xorshift
import Derived.Sort.WalkB2
import Derived.Sort.WalkB12
import Derived.Deep.LoopGhost
set_option linter.unusedVariables false
set_option linter.unusedSimpArgs false
namespace Go.Px.Na
open Go.Sort
/-! ### What a round leaves to be done -/
section
variable {α : Type} [Inhabited α]
/-- Once the part from a' to b' is in order, all is. -/
structure Mid (lu : α → α → Bool) (a b : Nat) (d : Array α) (a' b' : Nat) (e : Array α) : Prop where
  le : a' ≤ b'
  top : b' ≤ d.size
  size : e.size = d.size
  nd : Nd e
  bel : Below lu a' b' e
  fin : ∀ r, PermIn a' b' e r → SortedIn lu a' b' r → PermIn a b d r ∧ SortedIn lu a b r
variable {lt lu : α → α → Bool} {a b a' b' : Nat} {d e : Array α}
theorem Mid.start (hab : a ≤ b) (hb : b ≤ d.size) (hn : Nd d) (hB : Below lu a b d) : Mid lu a b d a b d := ⟨hab, hb, rfl, hn, hB, fun r p s => ⟨p, s⟩⟩
theorem Mid.step (M : Mid lu a b d a' b' e) {r : Array α} (p : PermIn a' b' e r) : Mid lu a b d a' b' r :=
  ⟨M.le, M.top, p.1.trans M.size, (PermIn.kp (by rw [M.size]; exact M.top) p).2 M.nd, M.bel.perm (by rw [M.size]; exact M.top) p, fun q h s => M.fin q (permIn_trans _ _ _ _ _ p h) s⟩
theorem Mid.brk (M : Mid lu a b d a' b' e) : Mid lu a b d a' b' (breakPatterns e a' b') := M.step (breakPatterns_holds e a' b' M.le (by rw [M.size]; exact M.top))
theorem Mid.rev (M : Mid lu a b d a' b' e) : Mid lu a b d a' b' (reverseRange e a' b') := M.step (reverseRange_holds e a' b' M.le (by rw [M.size]; exact M.top))
variable (hO : SWO lu) (he : ∀ x y, x ≠ y → lt x y = lu x y)
include hO he
theorem Mid.ins (M : Mid lu a b d a' b' e) : PermIn a b d (insertionSort lt e a' b') ∧ SortedIn lu a b (insertionSort lt e a' b') := by
  have hb : b' ≤ e.size := by rw [M.size]; exact M.top
  rw [insertionSort_eq he hb M.nd]
  have := insertionSort_holds (lt := lu) hO e a' b' M.le hb
  exact M.fin _ this.1 this.2
theorem Mid.heap (M : Mid lu a b d a' b' e) : PermIn a b d (heapSort lt e a' b') ∧ SortedIn lu a b (heapSort lt e a' b') := by
  have hb : b' ≤ e.size := by rw [M.size]; exact M.top
  rw [heapSort_eq he M.le hb M.nd]
  have := heapSort_holds (lt := lu) hO e a' b' M.le hb
  exact M.fin _ this.1 this.2
theorem Mid.par (M : Mid lu a b d a' b' e) (hab : a' < b') : Mid lu a b d a' b' (partialInsertionSort lt e a' b').1 ∧ ((partialInsertionSort lt e a' b').2 = true → PermIn a b d (partialInsertionSort lt e a' b').1 ∧ SortedIn lu a b (partialInsertionSort lt e a' b').1) := by
  have hb : b' ≤ e.size := by rw [M.size]; exact M.top
  rw [partialInsertionSort_same he hab hb M.nd]
  have := partialInsertionSort_holds (lt := lu) hO e a' b' hab hb M.bel
  exact ⟨M.step this.1, fun h => M.fin _ this.1 (this.2 h)⟩
theorem Mid.eqp (M : Mid lu a b d a' b' e) (h0 : 0 < a') {p : Nat} (hp1 : a' ≤ p) (hp2 : p < b') (hc : lu e[a' - 1]! e[p]! = false) :
    a' < (partitionEqual lt e a' b' p).1 ∧ (partitionEqual lt e a' b' p).1 ≤ b' ∧ Mid lu a b d (partitionEqual lt e a' b' p).1 b' (partitionEqual lt e a' b' p).2 := by
  have hb : b' ≤ e.size := by rw [M.size]; exact M.top
  have hab : a' < b' := by omega
  have hkp := fun h => PermIn.kp (a := a') (b := b') (d' := (partitionEqual lu e a' b' p).2) hb h
  rw [partitionEqual_same he hab hb (by omega) M.nd]
  obtain ⟨r1, r2, r3, r4, r5⟩ := round_eq hO (partitionEqual_holds lu) h0 hp1 hp2 hb M.bel hc (show partitionEqual lu e a' b' p = ((partitionEqual lu e a' b' p).1, (partitionEqual lu e a' b' p).2) from rfl)
  have hge : ∀ i, a' ≤ i → i < b' → lu e[i]! e[p]! = false := fun i h1 h2 => by
    cases hx : lu e[i]! e[p]! with
    | false => rfl
    | true =>
      rcases M.bel with z | z
      · omega
      · have hi := z i h1 h2
        have := hO.ntrans _ _ _ hi hc
        rw [hx] at this; cases this
  have hpm := (partitionEqual_holds lu hO e a' b' p hp1 hp2 hb hge).2.2.1
  refine ⟨r1, r2, r2, M.top, r3.trans M.size, (hkp hpm).2 M.nd, r4, fun r pr sr => ?_⟩
  have := r5 r pr sr
  exact M.fin r this.1 this.2
theorem Mid.prt (M : Mid lu a b d a' b' e) {p : Nat} (hp1 : a' ≤ p) (hp2 : p < b') : a' ≤ (partition lt e a' b' p).1 ∧ (partition lt e a' b' p).1 < b' ∧ (partition lt e a' b' p).2.2.size = d.size ∧ Nd (partition lt e a' b' p).2.2 ∧
    (Below lu a' (partition lt e a' b' p).1 (partition lt e a' b' p).2.2 ∧ ∀ L, PermIn a' (partition lt e a' b' p).1 (partition lt e a' b' p).2.2 L → SortedIn lu a' (partition lt e a' b' p).1 L → Mid lu a b d ((partition lt e a' b' p).1 + 1) b' L) ∧
    (Below lu ((partition lt e a' b' p).1 + 1) b' (partition lt e a' b' p).2.2 ∧ ∀ L, PermIn ((partition lt e a' b' p).1 + 1) b' (partition lt e a' b' p).2.2 L → SortedIn lu ((partition lt e a' b' p).1 + 1) b' L → Mid lu a b d a' (partition lt e a' b' p).1 L) := by
  have hb : b' ≤ e.size := by rw [M.size]; exact M.top
  have hab : a' < b' := by omega
  rw [partition_same he hab hb (by omega) M.nd]
  have hpm := (partition_holds lu hO e a' b' p hp1 hp2 hb).2.2.1
  obtain ⟨r1, r2, r3, r4, r5, r6, r7⟩ := round_part hO (partition_holds lu) hp1 hp2 hb M.bel (show partition lu e a' b' p = ((partition lu e a' b' p).1, (partition lu e a' b' p).2.1, (partition lu e a' b' p).2.2) from rfl)
  have hnd := (PermIn.kp hb hpm).2 M.nd
  generalize partition lu e a' b' p = q at r1 r2 r3 r4 r5 r6 r7 hpm hnd ⊢
  have h4 : q.2.2.size = d.size := r3.trans M.size
  have top := M.top
  refine ⟨r1, r2, h4, hnd, ⟨r4, fun L pL sL => ?_⟩, r5, fun L pL sL => ?_⟩
  · have := r6 L pL sL
    exact ⟨r2, M.top, pL.1.trans h4, (PermIn.kp (by omega) pL).2 hnd, this.1, fun r pr sr => by have := this.2 r pr sr; exact M.fin r this.1 this.2⟩
  · have := r7 L pL sL
    exact ⟨r1, by omega, pL.1.trans h4, (PermIn.kp (by omega) pL).2 hnd, this.1, fun r pr sr => by have := this.2 r pr sr; exact M.fin r this.1 this.2⟩
end
end Go.Px.Na
namespace Go.Px.Na
open Go.Shelf Go.RowKit Go.Lib Go.Sort Go.Proofs
/-! ### The walk -/
section
variable {P : Program} {ρ : Go.Shelf.Ren} {α : Type} [Inhabited α]
theorem ins_w (L : SlLaysF0.n20 P ρ) (k : Nat) (aE : ∀ w, (isAgg (ρ.t 24)).run P w = .ok true w) (zE : ∀ w, (Go.sizeOf (ρ.t 24)).run P w = .ok k w) (enc : α → List Value) (cf : α → α → Int) (g : Nat) (cb : Array Value) (blk off cap a b : Nat) (d0 d : Array α) (w0 w : World)
    (eg : ∀ args w, (callFunc g args).run P w = .ok (.enter g args) w) (hcmp : CmpLays P g cb enc k cf blk off d0.size w0) (R : RowK enc k w0 blk off d0) (hs : d0.size = d.size) (S : SWK enc k w0 blk off d w) (hab : a ≤ b) (hb : b ≤ d.size) (hsz : d.size < 4611686018427387904) :
    Calls P (ρ.f 20) #[.slice (some ⟨blk, off, none⟩) d.size cap, .int .i64 a, .int .i64 b, .func (.func g) #[] cb] w fun e w' => e = .returned (.tuple #[]) ∧ SWK enc k w0 blk off (Sort.insertionSort (ltOf cf) d a b) w' := by
  have hz : (Sort.insertionSort (ltOf cf) d a b).size = d.size := (insOuter_kp a b _ _ d rfl hb).1
  have hC : CmpLays P g cb enc k cf blk off d.size w := by
    obtain ⟨n0, os0, rfl⟩ := S
    intro m os dk hdk x y
    rw [sortWorldK_on enc k w0 blk off n0 m d dk os0 os R.hblk hdk]
    exact hcmp _ _ dk (hdk.trans hs.symm) x y
  refine (AnyQ.insertionSortCmpFunc L k aE zE enc R.hk R.h1 cf g cb blk off cap a b d w eg hC (S.holds R.hblk R.hH hs.symm) (S.lt R.hblk) hab hb hsz).mono fun e w' => ?_
  rintro ⟨he, n, os, hw⟩
  exact ⟨he, hw ▸ S.on R.hblk n _ os hz⟩

set_option maxHeartbeats 25600000 in
set_option maxRecDepth 1000000 in
/-- pdqsortCmpFunc: what it leaves is in order, and what was there. -/
theorem pdq_calls (L : SlLaysF0.n14 P ρ) (k : Nat) (aE : ∀ w, (isAgg (ρ.t 24)).run P w = .ok true w) (zE : ∀ w, (Go.sizeOf (ρ.t 24)).run P w = .ok k w) (enc : α → List Value) (cf : α → α → Int) (lu : α → α → Bool) (hO : SWO lu) (hE : ∀ x y, x ≠ y → ltOf cf x y = lu x y) (g : Nat) (cb : Array Value) (blk off cap : Nat) (d0 : Array α) (w0 : World)
    (eg : ∀ args w, (callFunc g args).run P w = .ok (.enter g args) w) (hcmp : CmpLays P g cb enc k cf blk off d0.size w0) (R : RowK enc k w0 blk off d0) :
    ∀ (N a b limit : Nat) (d : Array α) (w : World), b - a < N → d0.size = d.size → SWK enc k w0 blk off d w → a ≤ b → b ≤ d.size → d.size < 4611686018427387904 → limit < 4611686018427387904 → Nd d → Below lu a b d →
    Calls P (ρ.f 14) #[.slice (some ⟨blk, off, none⟩) d.size cap, .int .i64 a, .int .i64 b, .int .i64 limit, .func (.func g) #[] cb] w fun e w' => e = .returned (.tuple #[]) ∧ ∃ r, PermIn a b d r ∧ SortedIn lu a b r ∧ SWK enc k w0 blk off r w' := by
  have mixed := L.mixed; have t0 := L.t0; have a0 := L.a0; have z0 := L.z0; have v0 := L.v0; have t3 := L.t3; have a3 := L.a3; have z3 := L.z3; have v3 := L.v3; have t4 := L.t4; have a4 := L.a4; have z4 := L.z4; have v4 := L.v4; have t5 := L.t5; have a5 := L.a5; have z5 := L.z5; have v5 := L.v5; have t9 := L.t9; have a9 := L.a9; have z9 := L.z9; have v9 := L.v9; have t22 := L.t22; have a22 := L.a22; have z22 := L.z22; have v22 := L.v22; have t25 := L.t25; have a25 := L.a25; have z25 := L.z25; have v25 := L.v25; have t39 := L.t39; have a39 := L.a39; have z39 := L.z39; have v39 := L.v39; have t45 := L.t45; have a45 := L.a45; have z45 := L.z45; have v45 := L.v45; have t46 := L.t46; have a46 := L.a46; have z46 := L.z46; have v46 := L.v46; have t50 := L.t50; have a50 := L.a50; have z50 := L.z50; have v50 := L.v50; have t53 := L.t53; have a53 := L.a53; have z53 := L.z53; have v53 := L.v53; have t55 := L.t55; have a55 := L.a55; have z55 := L.z55; have v55 := L.v55; have t66 := L.t66; have a66 := L.a66; have z66 := L.z66; have v66 := L.v66; have t70 := L.t70; have a70 := L.a70; have z70 := L.z70; have v70 := L.v70; have t76 := L.t76; have a76 := L.a76; have z76 := L.z76; have v76 := L.v76; have t77 := L.t77; have a77 := L.a77; have z77 := L.z77; have v77 := L.v77
  obtain ⟨_, _, FG⟩ := L.f14
  have e20 : ∀ args w, (callFunc (ρ.f 20) args).run P w = .ok (.enter (ρ.f 20) args) w := L.f20.enters rfl
  have e21 : ∀ args w, (callFunc (ρ.f 21) args).run P w = .ok (.enter (ρ.f 21) args) w := L.f21.enters rfl
  have e22 : ∀ args w, (callFunc (ρ.f 22) args).run P w = .ok (.enter (ρ.f 22) args) w := L.f22.enters rfl
  have e23 : ∀ args w, (callFunc (ρ.f 23) args).run P w = .ok (.enter (ρ.f 23) args) w := L.f23.enters rfl
  have e24 : ∀ args w, (callFunc (ρ.f 24) args).run P w = .ok (.enter (ρ.f 24) args) w := L.f24.enters rfl
  have e25 : ∀ args w, (callFunc (ρ.f 25) args).run P w = .ok (.enter (ρ.f 25) args) w := L.f25.enters rfl
  have e26 : ∀ args w, (callFunc (ρ.f 26) args).run P w = .ok (.enter (ρ.f 26) args) w := L.f26.enters rfl
  have e27 : ∀ args w, (callFunc (ρ.f 27) args).run P w = .ok (.enter (ρ.f 27) args) w := L.f27.enters rfl
  have e14 : ∀ args w, (callFunc (ρ.f 14) args).run P w = .ok (.enter (ρ.f 14) args) w := L.f14.enters rfl
  intro N
  induction N with
  | zero => intro _ _ _ _ _ h; exact absurd h (Nat.not_lt_zero _)
  | succ N ih =>
    intro a b limit d w hN hs S hab hb hsz hlimit hnd hBel
    have M0 : Mid lu a b d a b d := Mid.start hab hb hnd hBel
    clear hnd hBel
    have X : Aside ((∀ x y, x ≠ y → ltOf cf x y = lu x y) ∧ SWO lu) := ⟨hE, hO⟩
    clear hE hO
    go_enter FG, SlBodyF.n14_ntmps ρ
    go_wp2
    go_loopg [1, 2, 3, 10, 11] (b - a) (fun kx s1 s2 s3 s10 s11 wr => ∃ (a' b' lim : Nat) (wb wp : Bool) (e : Array α), s1 = .int .i64 a' ∧ s2 = .int .i64 b' ∧ s3 = .int .i64 lim ∧ s10 = .bool wb ∧ s11 = .bool wp ∧
      b' - a' ≤ kx ∧ kx ≤ b - a ∧ lim ≤ limit ∧ Mid lu a b d a' b' e ∧ SWK enc k w0 blk off e wr)
    case atStart => exact ⟨a, b, limit, true, true, d, rfl, rfl, rfl, rfl, rfl, Nat.le_refl _, Nat.le_refl _, Nat.le_refl _, M0, S⟩
    case round =>
      obtain ⟨a', b', lim, wb, wp, e, rfl, rfl, rfl, rfl, rfl, hkx, hkN, hlim, M, hAt⟩ := hrel
      have hle := M.le
      have htop := M.top
      have hes : e.size = d.size := M.size
      by_cases h12 : b' - a' ≤ 12
      · have h12z : (b' : Int) - (a' : Int) ≤ 12 := by omega
        have hc := ins_w (P := P) (ρ := ρ) { L with } k aE zE enc cf g cb blk off cap a' b' d0 e w0 wr eg hcmp R (by omega) hAt hle (by omega) (by omega)
        rw [hes] at hc
        have H : Aside (e.size = d.size) := hes
        clear hes
        go_wp2_with (go_at_fn (ρ.f 20); refine hc.mono ?_; rintro e w1 ⟨rfl, hw1⟩)
        (try simp only [Exit.inBlock, Exit.then]); refine bodyPost_ret (results_none rfl _ _ _) rfl ?_
        have := M.ins X.out.2 X.out.1
        exact ⟨rfl, _, this.1, this.2, hw1⟩
      · have h12z : ¬ ((b' : Int) - (a' : Int) ≤ 12) := by omega
        by_cases hl0 : lim = 0
        · subst hl0
          have hc := AnyQ.heapSortCmpFunc (P := P) (ρ := ρ) { L with } k aE zE enc cf g cb blk off cap a' b' d0 e w0 wr eg hcmp R (by omega) hAt hle (by omega) (by omega)
          rw [hes] at hc
          have H : Aside (e.size = d.size) := hes
          clear hes
          go_wp2_with (go_at_fn (ρ.f 21); refine hc.mono ?_; rintro e w1 ⟨rfl, hw1⟩)
          (try simp only [Exit.inBlock, Exit.then]); refine bodyPost_ret (results_none rfl _ _ _) rfl ?_
          have := M.heap X.out.2 X.out.1
          exact ⟨rfl, _, this.1, this.2, hw1⟩
        · have hl0z : ¬ ((lim : Int) = 0) := by omega
          -- the patterns are broken, if the last parting was uneven
          go_upto_if 39 with fail
          go_cut [3] from 21 (fun s3 wc => ∃ (l1 : Nat) (e1 : Array α), s3 = .int .i64 l1 ∧ l1 ≤ lim ∧ Mid lu a b d a' b' e1 ∧ SWK enc k w0 blk off e1 wc)
          case first =>
            cases wb
            · have hc := AnyQ.breakPatternsCmpFunc (P := P) (ρ := ρ) { L with } k aE zE enc g cb blk off cap a' b' d0 e w0 wr R (by omega) hAt hle (by omega) (by omega)
              rw [hes] at hc
              have H : Aside (e.size = d.size) := hes
              clear hes
              go_wp2_with (go_at_fn (ρ.f 22); refine hc.mono ?_; rintro e w1 ⟨rfl, hw1⟩)
              go_meet
              case rel =>
                refine ⟨lim - 1, _, ?_, by omega, M.brk, hw1⟩
                congr 1
                omega
            · have H : Aside (e.size = d.size) := hes
              clear hes
              go_wp2_with fail
              go_meet
              case rel => exact ⟨lim, e, rfl, Nat.le_refl _, M, hAt⟩
          case rest =>
            obtain ⟨l1, e1, rfl, hl1, M1, hAt1⟩ := hcut
            clear hAt M hes
            clear e
            have hes1 : e1.size = d.size := M1.size
            have hcP : Calls P (ρ.f 23) #[.slice (some ⟨blk, off, none⟩) d.size cap, .int .i64 a', .int .i64 b', .func (.func g) #[] cb] wc fun x w' => (∃ (p : Nat) (h : Int), x = .returned (.tuple #[.int .i64 p, .int .i64 h]) ∧ a' ≤ p ∧ p < b') ∧ SWK enc k w0 blk off e1 w' := by
              have h := AnyQ.choosePivotCmpFunc (P := P) (ρ := ρ) { L with } k aE zE enc cf g cb blk off cap a' b' d0 e1 w0 wc eg hcmp R (by omega) hAt1 (by omega) (by omega) (by omega)
              rw [hes1] at h
              have hr := choosePivot_holds (ltOf cf) e1 a' b' (by omega)
              exact h.mono fun x w' ⟨q1, q2⟩ => ⟨⟨_, _, q1, hr.1, hr.2⟩, q2⟩
            have hcR := fun W S => AnyQ.reverseRangeCmpFunc (P := P) (ρ := ρ) { L with } k aE zE enc g cb blk off cap a' b' d0 e1 w0 W R (by omega) S hle (by omega) (by omega)
            rw [hes1] at hcR
            clear hes1
            -- the pivot
            go_upto_if 56 with (go_at_fn (ρ.f 23); refine hcP.mono ?_; rintro x w2 ⟨⟨p, hh, rfl, hp1, hp2⟩, hAt2⟩)
            go_cut [13, 14] from 21 (fun s13 s14 wc => ∃ (p2 : Nat) (h2 : Int) (e2 : Array α), s13 = .int .i64 p2 ∧ s14 = .int .i64 h2 ∧ a' ≤ p2 ∧ p2 < b' ∧ Mid lu a b d a' b' e2 ∧ SWK enc k w0 blk off e2 wc)
            case first =>
              have hcR2 := hcR w2 hAt2
              clear hcR hcP
              by_cases hh2 : hh = 2
              · go_wp2_with (go_at_fn (ρ.f 24); refine hcR2.mono ?_; rintro x w3 ⟨rfl, hw3⟩)
                go_meet
                case rel =>
                  refine ⟨(b' - 1) - (p - a'), _, _, ?_, rfl, by omega, by omega, M1.rev, hw3⟩
                  congr 1
                  omega
              · go_wp2_with fail
                go_meet
                case rel => exact ⟨p, hh, e1, rfl, rfl, hp1, hp2, M1, hAt2⟩
            case rest =>
              obtain ⟨p2, h2, e2, rfl, rfl, q1, q2, M2, hAt3⟩ := hcut
              clear hcR hcP hAt2 hAt1 M1 hp1 hp2
              clear e1
              -- is the row in order already?
              go_upto_region 15 with fail
              go_cut [14, 75] from 21 (fun s14 s75 wx => ∃ t : Bool, s14 = .int .i64 h2 ∧ s75 = .bool t ∧ wx = wc)
              case first =>
                by_cases h21 : h2 = 1 <;> cases wb <;> cases wp <;>
                  (go_wp2_with fail
                   go_meet
                   exact ⟨_, rfl, rfl, rfl⟩)
              case rest =>
                obtain ⟨t, rfl, rfl, rfl⟩ := hcut
                have hcI : Calls P (ρ.f 25) #[.slice (some ⟨blk, off, none⟩) d.size cap, .int .i64 a', .int .i64 b', .func (.func g) #[] cb] wc fun x w' => ∃ (q : Bool) (e3 : Array α), x = .returned (.bool q) ∧ Mid lu a b d a' b' e3 ∧ (q = true → Aside (PermIn a b d e3 ∧ SortedIn lu a b e3)) ∧ SWK enc k w0 blk off e3 w' := by
                  have h := AnyQ.partialInsertionSortCmpFunc (P := P) (ρ := ρ) { L with } k aE zE enc cf g cb blk off cap a' b' d0 e2 w0 wc eg hcmp R (by rw [M2.size]; exact hs) hAt3 (by omega) (by rw [M2.size]; exact htop) (by rw [M2.size]; exact hsz)
                  rw [M2.size] at h
                  have hp := M2.par X.out.2 X.out.1 (by omega)
                  exact h.mono fun x w' ⟨r1, r2⟩ => ⟨_, _, r1, hp.1, fun z => hp.2 z, r2⟩
                go_upto_if 75 with fail
                go_cut [] from 21 (fun wx => ∃ e3, Mid lu a b d a' b' e3 ∧ SWK enc k w0 blk off e3 wx)
                case first =>
                  cases t
                  · clear hcI
                    go_wp2_with fail
                    go_meet
                    case rel => exact ⟨e2, M2, hAt3⟩
                  · go_wp2_with (go_at_fn (ρ.f 25); refine hcI.mono ?_; rintro x w4 ⟨q, e3, rfl, M3, hq, hw4⟩)
                    all_goals first
                      | (go_meet
                         case rel => exact ⟨e3, M3, hw4⟩)
                      | ((try simp only [Exit.inBlock, Exit.then]); refine bodyPost_ret (results_none rfl _ _ _) rfl ?_
                         have hq2 := hq (by assumption)
                         exact ⟨rfl, e3, hq2.out.1, hq2.out.2, hw4⟩)
                case rest =>
                  obtain ⟨e3, M3, hAt5⟩ := hcut
                  clear hcI hAt3 M2
                  clear e2
                  have hes3 : e3.size = d.size := M3.size
                  have HC : Aside _ := hcmp
                  have S5 : Aside (SWK enc k w0 blk off e3 wc) := hAt5
                  clear hAt5
                  -- is the part before as great as the pivot?
                  go_upto_region 17 with fail
                  go_cut [97] from 21 (fun s97 wx => ∃ t : Bool, s97 = .bool t ∧ Aside (t = true → 0 < a' ∧ lu e3[a' - 1]! e3[p2]! = false) ∧ SWK enc k w0 blk off e3 wx)
                  case first =>
                    rcases Nat.eq_zero_or_pos a' with ha0 | ha0
                    · have ha0z : decide ((a' : Int) > 0) = false := decide_eq_false (by omega)
                      have hn0 : ¬ (0 < a') := by omega
                      have hn0d : decide (0 < a') = false := decide_eq_false hn0
                      have hn0z : decide ((0 : Int) < (a' : Int)) = false := decide_eq_false (by omega)
                      have H3 : Aside (e3.size = d.size) := hes3
                      clear ha0 hes3
                      go_wp2_with fail
                      go_big_region_o
                      go_wp2_with fail
                      go_meet
                      case rel => exact ⟨false, rfl, (fun z => Bool.noConfusion z), S5.out.drew⟩
                    · obtain ⟨ap, hap⟩ : ∃ q, q + 1 = a' := ⟨a' - 1, by omega⟩
                      have zap : (a' : Int) = (ap : Int) + 1 := by omega
                      have i1 : ((ap : Int)).toNat = a' - 1 := by omega
                      have i2 : (0 : Int) ≤ (ap : Int) := by omega
                      have i3 : (ap : Int) < (d.size : Int) := by omega
                      have i4 : IntKind.i64.wrap (ap : Int) = (ap : Int) := by rw [IntKind.wrap_i64]; omega
                      have i5 : ((p2 : Int)).toNat = p2 := by omega
                      have i6 : (0 : Int) ≤ (p2 : Int) := by omega
                      have i7 : (p2 : Int) < (d.size : Int) := by omega
                      have i8 : IntKind.i64.wrap (p2 : Int) = (p2 : Int) := by rw [IntKind.wrap_i64]; omega
                      have i9 : decide ((ap : Int) + 1 > 0) = true := decide_eq_true (by omega)
                      have hbl : 0 < a' := ha0
                      have hne : e3[a' - 1]! ≠ e3[p2]! := M3.nd _ _ (by omega) (by omega) (by omega)
                      have hlu : ltOf cf e3[a' - 1]! e3[p2]! = lu e3[a' - 1]! e3[p2]! := X.out.1 _ _ hne
                      have la := S5.out.ld R (by omega) P (a' - 1) (by omega)
                      have lb := S5.out.ld R (by omega) P p2 (by omega)
                      have Y : Aside (ltOf cf e3[a' - 1]! e3[p2]! = lu e3[a' - 1]! e3[p2]!) := hlu
                      clear hlu hne hes3 hbl
                      by_cases hv : cf e3[a' - 1]! e3[p2]! < 0
                      · have Z : Aside (lu e3[a' - 1]! e3[p2]! = true) := by rw [← Y.out]; exact decide_eq_true hv
                        have hcC := S5.out.cmp HC.out (by rw [M3.size]; exact hs.symm) e3[a' - 1]! e3[p2]!
                        obtain ⟨x, hx⟩ : ∃ x, x = e3[a' - 1]! := ⟨_, rfl⟩
                        obtain ⟨y, hy⟩ : ∃ y, y = e3[p2]! := ⟨_, rfl⟩
                        rw [← hx] at la
                        rw [← hy] at lb
                        rw [← hx, ← hy] at hcC hv Z
                        have hvd : decide (cf x y < 0) = true := decide_eq_true hv
                        clear hx hy Y
                        go_wp2_with fail
                        go_quiet_grown (first | (go_at_fn g; refine Calls.grown_of (hcC _ _)))
                        simp only [← zap]
                        clear zap hap i1 i2 i3 i4 i9
                        go_wp2_with fail
                        go_meet
                        case rel => exact ⟨false, rfl, (fun z => Bool.noConfusion z), S5.out.grown _ _⟩
                      · have Z : Aside (lu e3[a' - 1]! e3[p2]! = false) := by rw [← Y.out]; exact decide_eq_false hv
                        have W : Aside (0 < a' ∧ lu e3[a' - 1]! e3[p2]! = false) := ⟨ha0, Z.out⟩
                        have hcC := S5.out.cmp HC.out (by rw [M3.size]; exact hs.symm) e3[a' - 1]! e3[p2]!
                        obtain ⟨x, hx⟩ : ∃ x, x = e3[a' - 1]! := ⟨_, rfl⟩
                        obtain ⟨y, hy⟩ : ∃ y, y = e3[p2]! := ⟨_, rfl⟩
                        rw [← hx] at la
                        rw [← hy] at lb
                        rw [← hx, ← hy] at hcC hv
                        have hvd : decide (cf x y < 0) = false := decide_eq_false hv
                        clear hx hy Y Z
                        go_wp2_with fail
                        go_quiet_grown (first | (go_at_fn g; refine Calls.grown_of (hcC _ _)))
                        simp only [← zap]
                        clear zap hap i1 i2 i3 i4 i9
                        go_wp2_with fail
                        go_meet
                        case rel => exact ⟨true, rfl, fun _ => W.out, S5.out.grown _ _⟩
                  case rest =>
                    obtain ⟨t, rfl, ht, hAt6⟩ := hcut
                    clear S5
                    cases t
                    · have hcQ : Calls P (ρ.f 27) #[.slice (some ⟨blk, off, none⟩) d.size cap, .int .i64 a', .int .i64 b', .int .i64 p2, .func (.func g) #[] cb] wc fun x w' => ∃ (mid : Nat) (ap : Bool) (e4 : Array α), x = .returned (.tuple #[.int .i64 mid, .bool ap]) ∧ a' ≤ mid ∧ mid < b' ∧ Aside (e4.size = d.size ∧ Nd e4) ∧
                          Aside (Below lu a' mid e4 ∧ ∀ r, PermIn a' mid e4 r → SortedIn lu a' mid r → Mid lu a b d (mid + 1) b' r) ∧ Aside (Below lu (mid + 1) b' e4 ∧ ∀ r, PermIn (mid + 1) b' e4 r → SortedIn lu (mid + 1) b' r → Mid lu a b d a' mid r) ∧ SWK enc k w0 blk off e4 w' := by
                        have h := AnyQ.partitionCmpFunc (P := P) (ρ := ρ) { L with } k aE zE enc cf g cb blk off cap a' b' p2 d0 e3 w0 wc eg hcmp R (by rw [M3.size]; exact hs) hAt6 q1 q2 (by rw [M3.size]; exact htop) (by rw [M3.size]; exact hsz)
                        rw [M3.size] at h
                        obtain ⟨r1, r2, r3, r4, r5, r6⟩ := M3.prt X.out.2 X.out.1 q1 q2
                        exact h.mono fun x w' ⟨u1, u2⟩ => ⟨_, _, _, u1, r1, r2, ⟨r3, r4⟩, r5, r6, u2⟩
                      clear hes3 hcmp
                      clear hAt6 M3 ht
                      clear e3
                      go_upto_if 125 with (go_at_fn (ρ.f 27); refine hcQ.mono ?_; rintro x w7 ⟨mid, ap, e4, rfl, r1, r2, z1, zl, zr, hAt7⟩)
                      have hz := z1.out.1
                      have hcL := fun h => ih a' mid l1 e4 w7 h (by omega) hAt7 r1 (by omega) (by omega) (by omega) z1.out.2 zl.out.1
                      have hcR := fun h => ih (mid + 1) b' l1 e4 w7 h (by omega) hAt7 (by omega) (by omega) (by omega) (by omega) z1.out.2 zr.out.1
                      rw [hz] at hcL hcR
                      rw [show ((mid + 1 : Nat) : Int) = (mid : Int) + 1 by omega] at hcR
                      clear hz
                      by_cases h4 : mid - a' < b' - mid
                      · have h4z : (mid : Int) - (a' : Int) < (b' : Int) - (mid : Int) := by omega
                        have hcL2 := hcL (by omega)
                        clear hcL hcR hcQ ih
                        go_wp2_with (go_at_fn (ρ.f 14); refine hcL2.mono ?_; rintro x w8 ⟨rfl, r, pr, sr, hw8⟩)
                        go_roundg (b' - (mid + 1))
                        case measure => omega
                        case rel => exact ⟨mid + 1, b', l1, _, ap, r, by simp, rfl, rfl, rfl, rfl, Nat.le_refl _, by omega, by omega, zl.out.2 r pr sr, hw8⟩
                      · have h4z : ¬((mid : Int) - (a' : Int) < (b' : Int) - (mid : Int)) := by omega
                        have hcR2 := hcR (by omega)
                        clear hcL hcR hcQ ih
                        go_wp2_with (go_at_fn (ρ.f 14); refine hcR2.mono ?_; rintro x w8 ⟨rfl, r, pr, sr, hw8⟩)
                        go_roundg (mid - a')
                        case measure => omega
                        case rel => exact ⟨a', mid, l1, _, ap, r, rfl, rfl, rfl, rfl, rfl, Nat.le_refl _, by omega, by omega, zr.out.2 r pr sr, hw8⟩
                    · have ht2 : Aside (0 < a' ∧ lu e3[a' - 1]! e3[p2]! = false) := ht.out rfl
                      have hcE : Calls P (ρ.f 26) #[.slice (some ⟨blk, off, none⟩) d.size cap, .int .i64 a', .int .i64 b', .int .i64 p2, .func (.func g) #[] cb] wc fun x w' => ∃ (mid : Nat) (e4 : Array α), x = .returned (.int .i64 mid) ∧ a' < mid ∧ mid ≤ b' ∧ Mid lu a b d mid b' e4 ∧ SWK enc k w0 blk off e4 w' := by
                        have h := AnyQ.partitionEqualCmpFunc (P := P) (ρ := ρ) { L with } k aE zE enc cf g cb blk off cap a' b' p2 d0 e3 w0 wc eg hcmp R (by rw [M3.size]; exact hs) hAt6 q1 q2 (by rw [M3.size]; exact htop) (by rw [M3.size]; exact hsz)
                        rw [M3.size] at h
                        obtain ⟨r1, r2, r3⟩ := M3.eqp X.out.2 X.out.1 ht2.out.1 q1 q2 ht2.out.2
                        exact h.mono fun x w' ⟨u1, u2⟩ => ⟨_, _, u1, r1, r2, r3, u2⟩
                      clear hes3 hcmp ih
                      clear hAt6 M3 ht ht2
                      clear e3
                      go_wp2_with (go_at_fn (ρ.f 26); refine hcE.mono ?_; rintro x w7 ⟨mid, e4, rfl, r1, r2, M4, hw7⟩)
                      go_roundg (b' - mid)
                      case measure => omega
                      case rel => exact ⟨mid, b', l1, wb, wp, e4, rfl, rfl, rfl, rfl, rfl, Nat.le_refl _, by omega, by omega, M4, hw7⟩
set_option maxHeartbeats 2000000 in
set_option maxRecDepth 100000 in
/-- slices.SortFunc: what it leaves is in order, and what was there. -/
theorem sort_calls (L : SlLaysF0.n6 P ρ) (k : Nat) (aE : ∀ w, (isAgg (ρ.t 24)).run P w = .ok true w) (zE : ∀ w, (Go.sizeOf (ρ.t 24)).run P w = .ok k w) (enc : α → List Value) (hk : ∀ x, (enc x).length = k) (h1 : ∀ x, ∀ v ∈ enc x, v.oneCell' = true) (cf : α → α → Int) (lu : α → α → Bool) (hO : SWO lu) (hE : ∀ x y, x ≠ y → ltOf cf x y = lu x y) (g : Nat) (cb : Array Value) (blk cap : Nat) (d : Array α) (w : World)
    (hnd : Nd d) (hsz : d.size < 4611686018427387904) (eg : ∀ args w, (callFunc g args).run P w = .ok (.enter g args) w) (hcmp : CmpLays P g cb enc k cf blk 0 d.size w) (hH : HoldsK enc k w blk 0 d) (hblk : blk < w.heap.size) :
    Calls P (ρ.f 6) #[.slice (some ⟨blk, 0, none⟩) d.size cap, .func (.func g) #[] cb] w fun e w' => e = .returned (.tuple #[]) ∧ ∃ d' n os, PermIn 0 d.size d d' ∧ SortedIn lu 0 d.size d' ∧ w' = sortWorldK enc k w blk 0 n d' os := by
  have mixed := L.mixed; have t0 := L.t0; have a0 := L.a0; have z0 := L.z0; have v0 := L.v0; have t3 := L.t3; have a3 := L.a3; have z3 := L.z3; have v3 := L.v3; have t4 := L.t4; have a4 := L.a4; have z4 := L.z4; have v4 := L.v4; have t5 := L.t5; have a5 := L.a5; have z5 := L.z5; have v5 := L.v5; have t9 := L.t9; have a9 := L.a9; have z9 := L.z9; have v9 := L.v9; have t22 := L.t22; have a22 := L.a22; have z22 := L.z22; have v22 := L.v22; have t25 := L.t25; have a25 := L.a25; have z25 := L.z25; have v25 := L.v25; have t39 := L.t39; have a39 := L.a39; have z39 := L.z39; have v39 := L.v39; have t45 := L.t45; have a45 := L.a45; have z45 := L.z45; have v45 := L.v45; have t46 := L.t46; have a46 := L.a46; have z46 := L.z46; have v46 := L.v46; have t50 := L.t50; have a50 := L.a50; have z50 := L.z50; have v50 := L.v50; have t53 := L.t53; have a53 := L.a53; have z53 := L.z53; have v53 := L.v53; have t55 := L.t55; have a55 := L.a55; have z55 := L.z55; have v55 := L.v55; have t66 := L.t66; have a66 := L.a66; have z66 := L.z66; have v66 := L.v66; have t70 := L.t70; have a70 := L.a70; have z70 := L.z70; have v70 := L.v70; have t76 := L.t76; have a76 := L.a76; have z76 := L.z76; have v76 := L.v76; have t77 := L.t77; have a77 := L.a77; have z77 := L.z77; have v77 := L.v77
  have e14 : ∀ args w, (callFunc (ρ.f 14) args).run P w = .ok (.enter (ρ.f 14) args) w := L.f14.enters rfl
  have e15 : ∀ args w, (callFunc (ρ.f 15) args).run P w = .ok (.enter (ρ.f 15) args) w := enters_of L.f15 (by kernel_rfl) rfl
  have hlim : Lib.bitLen d.size < 4611686018427387904 := Nat.lt_of_le_of_lt (Lib.bitLen_le d.size 62 (by omega) (by omega)) (by omega)
  have hp := pdq_calls (P := P) (ρ := ρ) { L with } k aE zE enc cf lu hO hE g cb blk 0 cap d w eg hcmp ⟨hk, h1, hH, hblk⟩ (d.size + 1) 0 d.size (Lib.bitLen d.size) d w (by omega) rfl (SWK.start hH) (Nat.zero_le _) (Nat.le_refl _) hsz hlim hnd (Or.inl rfl)
  have hl : Calls P (ρ.f 15) #[.int .u64 (d.size : Int)] w fun e w' => e = .returned (.int .i64 (Lib.bitLen d.size : Nat)) ∧ w' = w := by
    have h := Any.bits_Len (SlLaysF0.n15.bits (P := P) (ρ := ρ) { L with }) (d.size : Int) w (by omega) (by omega)
    rwa [Int.toNat_natCast] at h
  have wr : IntKind.u64.wrap (d.size : Int) = d.size := by simp [IntKind.wrap, IntKind.bits, IntKind.signed]; omega
  clear hH hcmp hk h1 hE hO hnd
  obtain ⟨_, _, FG⟩ := L.f6
  go_enter FG, SlBodyF.n6_ntmps ρ
  go_wp2_with (first | (go_at_fn (ρ.f 15); refine hl.mono ?_; rintro e w' ⟨rfl, rfl⟩) | (go_at_fn (ρ.f 14); refine hp.mono ?_; rintro e w' ⟨rfl, r, pr, sr, n, os, rfl⟩))
  go_end0
  exact ⟨rfl, r, n, os, pr, sr, rfl⟩
end
end Go.Px.Na

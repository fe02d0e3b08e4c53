/- Kc: which trees fit, and how deep they are: what is below a node. -/
import Derived.Test.YtejnnginkadecaaGreatKb
set_option maxRecDepth 40000
set_option maxHeartbeats 40000000
set_option linter.unusedVariables false
set_option linter.unusedSimpArgs false
namespace Go.Px.Na
open Go.RowKit
open Go.Proofs.Tryz (prog)
/-- A node, and all below it. -/
def sub (ns : List KN) : Nat → Int → List Nat
  | 0, _ => []
  | f + 1, a => if a < 0 then [] else match ns[a.toNat]? with
    | none => []
    | some n => a.toNat :: (sub ns f n.lf ++ sub ns f n.rt)
theorem sub_neg {ns : List KN} {f : Nat} {a : Int} (h : a < 0) : sub ns f a = [] := by
  cases f with
  | zero => rfl
  | succ f => rw [sub, if_pos h]
theorem sub_succ {ns : List KN} {f : Nat} {a : Int} {n : KN} (h : 0 ≤ a) (hn : ns[a.toNat]? = some n) : sub ns (f + 1) a = a.toNat :: (sub ns f n.lf ++ sub ns f n.rt) := by
  rw [sub, if_neg (by omega), hn]
/-- A place from which so many steps lead down at most. -/
def Wi (m f : Nat) (a : Int) : Prop := a = -1 ∨ 0 ≤ a ∧ a < m ∧ (m : Int) - a ≤ f
theorem Wi.lf {n : KN} {i m f : Nat} (h : KOwn n i m) (hw : Wi m (f + 1) (i : Int)) : Wi m f n.lf := by
  unfold Wi at *; have := h.2.2.1; omega
theorem Wi.rt {n : KN} {i m f : Nat} (h : KOwn n i m) (hw : Wi m (f + 1) (i : Int)) : Wi m f n.rt := by
  unfold Wi at *; have := h.2.2.2; omega

def side (ns : List KN) (ps : List V3) (b s : Int) (x : Rat) (k : Nat) : Prop := 0 ≤ cmpQ (axQ (ps.getD (ns.getD k default).pt.toNat o3) b) x * s
theorem cmp_rng {x y : Rat} : -1 ≤ cmpQ x y ∧ cmpQ x y ≤ 1 := by
  unfold cmpQ
  rcases Int.sign_trichotomy (x - y).num with h | h | h <;> omega
theorem f_parted {L : Nat} {rs : List RV} {ps : List V3} {ns : List KN} {m : Nat} (H : NVs L rs ps) (hl : L ≤ LL) (hrs : rs.length = m) (hm : ns.length = m) (hb : m ≤ 1000) (V : ∀ i n, ns[i]? = some n → KOwn n i m) {s : Int} (hs : s = 1 ∨ s = -1) {rx : RR} {x : Rat} (hx : Num L rx x) (b : Int) :
    ∀ (f : Nat) (a : Int), f ≤ 1000 → Wi m f a → PureCalls prog F.kd_parted [.agg [kl ns], .one (vl rs), .one (.int .i64 a), .one (.int .i64 b), .one (.int .i64 s), .agg (gW [rx])] [.one (.bool (tb (∀ k ∈ sub ns f a, side ns ps b s x k)))]
  | f, a, hf, hw => by
    refine symFunc_sound hmix tree_kd_parted (by kernel_rfl) rfl ?_
    unfold ir_kd_parted
    try simp only [HH, gW, gD, V3.l, M4.l, Fr.l, Sp.l, RV.l, RM.l, RF.l, RS.l]
    refine primS (.bool (decide (a = -1))) d_eql ?_
    refine itD rfl (fun c => ?_) (fun c => ?_)
    · exact ret_step (by rw [sub_neg (by omega), tbT (fun k hk => by cases hk)]; rfl)
    · obtain ⟨h0, h1, h2⟩ := hw.resolve_left c
      obtain ⟨f, rfl⟩ : ∃ q, f = q + 1 := ⟨f - 1, by omega⟩
      obtain ⟨n, hn⟩ : ∃ n, ns[a.toNat]? = some n := ⟨_, List.getElem?_eq_getElem (by omega)⟩
      have ho := V _ n hn
      have hwn : Wi m (f + 1) ((a.toNat : Nat) : Int) := by rw [Int.toNat_of_nonneg h0]; exact .inr ⟨h0, h1, h2⟩
      refine primS (.bool true) (kl_inb h0 (by omega)) ?_
      refine get_knZ h0 hn (fun _ => rfl) (fun _ => rfl) ?_
      simp only [KN.l, List.cons_append, List.nil_append]
      have hpl : n.pt.toNat < rs.length := by have := ho.1; omega
      refine primS (.bool true) (vl_inb ho.1.1 (by have := ho.1; omega)) ?_
      refine get_ptZ ho.1.1 (List.getElem?_eq_getElem hpl) (fun _ => rfl) (fun _ => rfl) ?_
      simp only [HH, gW, gD, V3.l, M4.l, Fr.l, Sp.l, RV.l, RM.l, RF.l, RS.l]
      refine call_step (f_axis rs[n.pt.toNat] b) rfl ?_
      simp only [HH, gW, gD, V3.l, M4.l, Fr.l, Sp.l, RV.l, RM.l, RF.l, RS.l]
      refine call_step (n_rat_Cmp ((num_ax (nvs_at H hpl) b).mono hl) (hx.mono hl)) rfl ?_
      simp only [HH, gW, gD, V3.l, M4.l, Fr.l, Sp.l, RV.l, RM.l, RF.l, RS.l]
      have cr := cmp_rng (x := axQ (ps.getD n.pt.toNat o3) b) (y := x)
      refine primS (.int .i64 (cmpQ (axQ (ps.getD n.pt.toNat o3) b) x * s)) (d_mul64 (by rcases hs with rfl | rfl <;> omega) (by rcases hs with rfl | rfl <;> omega)) ?_
      refine primS (.bool (decide (cmpQ (axQ (ps.getD n.pt.toNat o3) b) x * s ≥ 0))) d_geq ?_
      have hsd : side ns ps b s x a.toNat ↔ cmpQ (axQ (ps.getD n.pt.toNat o3) b) x * s ≥ 0 := by
        have e : ns.getD a.toNat default = n := by simp [List.getD_eq_getElem?_getD, hn]
        unfold side; rw [e]
      rw [sub_succ h0 hn]
      refine itD rfl (fun e1 => ?_) (fun e1 => ?_)
      · refine call_step (f_parted H hl hrs hm hb V hs hx b f n.lf (by omega) (Wi.lf ho hwn)) rfl ?_
        simp only [HH, gW, gD, V3.l, M4.l, Fr.l, Sp.l, RV.l, RM.l, RF.l, RS.l]
        refine itb_step rfl (fun e2 => ?_) (fun e2 => ?_)
        · refine call_step (f_parted H hl hrs hm hb V hs hx b f n.rt (by omega) (Wi.rt ho hwn)) rfl ?_
          simp only [HH, gW, gD, V3.l, M4.l, Fr.l, Sp.l, RV.l, RM.l, RF.l, RS.l]
          refine ret_step ?_
          have e2' := tb_iff.1 e2
          rw [show tb (∀ k ∈ a.toNat :: (sub ns f n.lf ++ sub ns f n.rt), side ns ps b s x k) = tb (∀ k ∈ sub ns f n.rt, side ns ps b s x k) from tb_eq ⟨fun h k hk => h k (by simp [hk]), fun h k hk => by
            rcases List.mem_cons.1 hk with rfl | hk
            · exact hsd.2 e1
            · rcases List.mem_append.1 hk with hk | hk
              · exact e2' k hk
              · exact h k hk⟩]
          rfl
        · exact ret_step (by rw [tbF (p := ∀ k ∈ a.toNat :: (sub ns f n.lf ++ sub ns f n.rt), side ns ps b s x k) fun h => by
            have : (∀ k ∈ sub ns f n.lf, side ns ps b s x k) := fun k hk => h k (by simp [hk])
            rw [tbT this] at e2; cases e2]; rfl)
      · exact ret_step (by rw [tbF (p := ∀ k ∈ a.toNat :: (sub ns f n.lf ++ sub ns f n.rt), side ns ps b s x k) fun h => e1 (hsd.1 (h _ (List.mem_cons_self ..)))]; rfl)

/-! ### Does a tree fit? -/
def pax (ps : List V3) (n : KN) : Rat := axQ (ps.getD n.pt.toNat o3) n.ax
def Sides (ns : List KN) (ps : List V3) (m : Nat) (n : KN) : Prop := (∀ k ∈ sub ns m n.lf, side ns ps n.ax (-1) (pax ps n) k) ∧ ∀ k ∈ sub ns m n.rt, side ns ps n.ax 1 (pax ps n) k
def Fit (ns : List KN) (ps : List V3) : Prop := ps.length ≤ 1000 ∧ ns.length = ps.length ∧ Shp ns ps.length ∧ ∀ (i : Nat) (n : KN), ns[i]? = some n → Sides ns ps ps.length n
theorem f_Check {L : Nat} {rs : List RV} {ps : List V3} {ns : List KN} (H : NVs L rs ps) (hl : L ≤ LL) : PureCalls prog F.kd_Check [.agg [kl ns], .one (vl rs)] [.one (.bool (tb (Fit ns ps)))] := by
  refine symFunc_sound hmix tree_kd_Check (by kernel_rfl) rfl ?_
  unfold ir_kd_Check
  try simp only [HH, gW, gD, V3.l, M4.l, Fr.l, Sp.l, RV.l, RM.l, RF.l, RS.l]
  have hlen := H.len
  refine primS (.int .i64 (rs.length : Int)) rfl ?_
  refine primS (.bool (decide ((1000 : Int) < (rs.length : Int)))) d_gtr ?_
  refine itD rfl (fun c => ?_) (fun c => ?_)
  · exact ret_step (by rw [tbF (p := Fit ns ps) fun h => by have := h.1; omega]; rfl)
  refine primS (.int .i64 (ns.length : Int)) rfl ?_
  refine primS (.int .i64 (rs.length : Int)) rfl ?_
  refine primS (.bool (decide ((ns.length : Int) ≠ (rs.length : Int)))) d_neq ?_
  try simp only [List.cons_append, List.nil_append]
  refine itD rfl (fun c2 => ?_) (fun c2 => ?_)
  · exact ret_step (by rw [tbF (p := Fit ns ps) fun h => by have := h.2.1; omega]; rfl)
  have hm : ns.length = rs.length := by omega
  refine primS (.int .i64 (rs.length : Int)) rfl ?_
  try simp only [List.cons_append, List.nil_append]
  refine call_step (f_shape hm (by omega)) rfl ?_
  simp only [HH, gW, gD, V3.l, M4.l, Fr.l, Sp.l, RV.l, RM.l, RF.l, RS.l]
  refine primS (.bool (!tb (Shp ns rs.length))) rfl ?_
  refine itb_step rfl (fun c3 => ?_) (fun c3 => ?_)
  · exact ret_step (by rw [tbF (p := Fit ns ps) fun h => by rw [hlen, tbT h.2.2.1] at c3; cases c3]; rfl)
  have hS : Shp ns rs.length := tb_iff.1 (by simpa using c3)
  refine primS (.int .i64 (ns.length : Int)) rfl ?_
  try simp only [List.cons_append, List.nil_append]
  refine loop_st (fun i : Nat => [vl rs, kl ns, .int .i64 (ns.length : Int), .int .i64 (i : Int)]) (fun i => i ≤ ns.length ∧ ∀ (j : Nat) (n : KN), j < i → ns[j]? = some n → Sides ns ps rs.length n) (fun i => ns.length - i) 0 ⟨Nat.zero_le _, fun j n hj => absurd hj (Nat.not_lt_zero _)⟩ rfl (fun _ => rfl) fun i hi X hX => ?_
  by_cases hlt : i < ns.length
  · refine primS (.bool true) (d_lss.trans (by rw [decide_eq_true (by omega)])) ?_
    refine itT rfl ?_
    obtain ⟨n, hn⟩ : ∃ n, ns[i]? = some n := ⟨_, List.getElem?_eq_getElem hlt⟩
    have ho := hS.1 i n hn
    have hpl : n.pt.toNat < rs.length := by have := ho.1; omega
    refine primS (.bool true) (kl_inb (by omega) (by omega)) ?_
    refine get_kn hn (fun _ => rfl) (fun _ => rfl) ?_
    simp only [KN.l, List.cons_append, List.nil_append]
    refine primS (.bool true) (vl_inb ho.1.1 (by have := ho.1; omega)) ?_
    refine get_ptZ ho.1.1 (List.getElem?_eq_getElem hpl) (fun _ => rfl) (fun _ => rfl) ?_
    simp only [HH, gW, gD, V3.l, M4.l, Fr.l, Sp.l, RV.l, RM.l, RF.l, RS.l]
    refine call_step (f_axis rs[n.pt.toNat] n.ax) rfl ?_
    simp only [HH, gW, gD, V3.l, M4.l, Fr.l, Sp.l, RV.l, RM.l, RF.l, RS.l]
    have hw1 : Wi rs.length rs.length n.lf := by unfold Wi; have := ho.2.2.1; omega
    have hw2 : Wi rs.length rs.length n.rt := by unfold Wi; have := ho.2.2.2; omega
    refine call_step (f_parted H hl rfl hm (by omega) hS.1 (.inr rfl) (num_ax (nvs_at H hpl) n.ax) n.ax rs.length n.lf (by omega) hw1) rfl ?_
    simp only [HH, gW, gD, V3.l, M4.l, Fr.l, Sp.l, RV.l, RM.l, RF.l, RS.l]
    generalize hA : tb (∀ k ∈ sub ns rs.length n.lf, side ns ps n.ax (-1) (axQ (ps.getD n.pt.toNat o3) n.ax) k) = A1
    refine primS (.bool (!A1)) rfl ?_
    refine itb_step rfl (fun c4 => ?_) (fun c4 => ?_)
    · exact ret_step (by rw [tbF (p := Fit ns ps) fun h => by
        have := (h.2.2.2 i n hn).1
        rw [← hlen] at this
        have e := tbT this
        unfold pax at e
        rw [← hA, e] at c4; cases c4]; rfl)
    refine call_step (f_parted H hl rfl hm (by omega) hS.1 (.inl rfl) (num_ax (nvs_at H hpl) n.ax) n.ax rs.length n.rt (by omega) hw2) rfl ?_
    simp only [HH, gW, gD, V3.l, M4.l, Fr.l, Sp.l, RV.l, RM.l, RF.l, RS.l]
    generalize hB : tb (∀ k ∈ sub ns rs.length n.rt, side ns ps n.ax 1 (axQ (ps.getD n.pt.toNat o3) n.ax) k) = B1
    refine primS (.bool (!B1)) rfl ?_
    refine itb_step rfl (fun c5 => ?_) (fun c5 => ?_)
    · exact ret_step (by rw [tbF (p := Fit ns ps) fun h => by
        have := (h.2.2.2 i n hn).2
        rw [← hlen] at this
        have e := tbT this
        unfold pax at e
        rw [← hB, e] at c5; cases c5]; rfl)
    refine primS (.int .i64 ((i + 1 : Nat) : Int)) ((d_add64 (by omega) (by omega)).trans (by simp)) ?_
    refine jump_step rfl (hX (i + 1) ⟨hlt, fun j n' hj hn' => ?_⟩ (by omega))
    rcases Nat.lt_or_ge j i with h1 | h1
    · exact hi.2 j n' h1 hn'
    · obtain rfl : j = i := by omega
      rw [hn] at hn'; cases hn'
      exact ⟨tb_iff.1 (hA.trans (by simpa using c4)), tb_iff.1 (hB.trans (by simpa using c5))⟩
  · refine primS (.bool false) (d_lss.trans (by rw [decide_eq_false (by omega)])) ?_
    refine itF rfl ?_
    refine ret_step ?_
    rw [tbT (p := Fit ns ps) ⟨by omega, by omega, hlen ▸ hS, fun j n hn => hlen ▸ hi.2 j n (by have := (List.getElem?_eq_some_iff.1 hn).1; omega) hn⟩]; rfl
end Go.Px.Na
